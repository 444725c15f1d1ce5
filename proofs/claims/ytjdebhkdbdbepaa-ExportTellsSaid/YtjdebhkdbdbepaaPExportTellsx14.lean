-- Lean text by a program of this repo (wip/tools/printx.py), out of Lean's own print of the translation
import Derived.Shelf.Abstract
import Derived.RangeFuncLeaves
import Derived.RangeFuncCalls
import Derived.RangeFuncBound
import Derived.RangeFuncNested
import Derived.Test.YtjdebhkdbdbepaaOwn
import Derived.Test.YtjdebhkdbdbepaaInts
import Derived.Test.YtjdebhkdbdbepaaMid
import Derived.Test.YtjdebhkdbdbepaaHelp
import Derived.ArgAppend
import Derived.Test.YtjdebhkdbdbepaaPExportTellsx0
import Derived.Test.YtjdebhkdbdbepaaPExportTellsx1
import Derived.Test.YtjdebhkdbdbepaaPExportTellsx3
import Derived.Test.YtjdebhkdbdbepaaPExportTellsx4
import Derived.Test.YtjdebhkdbdbepaaPExportTellsx5
import Derived.Test.YtjdebhkdbdbepaaPExportTellsx6
import Derived.Test.YtjdebhkdbdbepaaPExportTellsx8
import Derived.Test.YtjdebhkdbdbepaaPExportTellsx9
import Derived.Test.YtjdebhkdbdbepaaPExportTellsx11
import Derived.Test.YtjdebhkdbdbepaaPExportTellsx13
namespace Go.Proofs.Ytjdebhkdbdbepaa.PExportTells
open Go.RowKit Go.Proofs.YtjdebhkdbdbepaaW.PrintWords Go.Proofs.YtjdebhkdbdbepaaW.PrintLast Go.Proofs.YtjdebhkdbdbepaaW.PrintMore
attribute [local go_sem] max2_int min2_int max_two min_two max_three min_three max_four min_four   -- for this text's walks alone
set_option linter.unusedVariables false
set_option linter.unusedSimpArgs false

/-! ### interregnumlaw16_ExportTells: function 3 -/
-- FN rounds=1 making=1
-- IMPORT Derived.ArgAppend
-- IMPORT Derived.Test.YtjdebhkdbdbepaaHelp
-- IMPORT Derived.Test.YtjdebhkdbdbepaaMid
-- IMPORT Derived.Test.YtjdebhkdbdbepaaInts
-- IMPORT Derived.Test.YtjdebhkdbdbepaaOwn
-- IMPORT Derived.RangeFuncNested
-- IMPORT Derived.RangeFuncBound
-- IMPORT Derived.RangeFuncCalls
-- IMPORT Derived.RangeFuncLeaves
-- IMPORT Derived.Shelf.Abstract
open Go.Proofs.Ytjdebhkdbdbepaa.Ints
open Go.Proofs.Ytjdebhkdbdbepaa.Own
open Go.Proofs.Ytjdebhkdbdbepaa.Help
theorem seg_heap : Kd.Heap k69 := Kd.heap_iso _ (Kd.heap_pair Kd.heap_bool (Kd.heap_slice _ (Kd.heap_int _)))
/-- A path that came in, as a view. -/
theorem seg_V {w : World} {A : Option Addr} {c : Nat} {l : List S69} (hc : l.length ≤ c) (h : Kd.C k69 w A l.length l) : Kd.V k69 69 w w.heap.size (fun k => k < w.heap.size) (.slice A l.length c) l := Kd.V_mk hc (Kd.C_F seg_heap h)
set_option maxHeartbeats 4000000 in
set_option maxRecDepth 100000 in
open Go.Proofs.Ytjdebhkdbdbepaa.Mid in
theorem rexport_told (k : Nat) (cA cI cN cH cG cL cS cD tN tA : Int) (AI : Option Addr) (nI cIn : Nat) (AO : Option Addr) (cOut : Nat) (lo : List S87) (ll : Bool) (pa pl pe o : Int) (A1 : Option Addr) (c1 : Nat) (l1 : List S69) (nx md pr : Int) (A5 : Option Addr) (c5 : Nat) (l5 : List Int) (A6 : Option Addr) (c6 : Nat) (l6 : List S73) (st fr : Int) (rp : Int) (al gd : Bool) (w : World) (hro : Kd.C k87 w AO lo.length lo) (hco : lo.length ≤ cOut) (hr1 : Kd.C k69 w A1 l1.length l1) (hc1 : l1.length ≤ c1) (hr5 : Kd.C (Kd.int .u32) w A5 l5.length l5) (hc5 : l5.length ≤ c5) (hr6 : Kd.C k73 w A6 l6.length l6) (hc6 : l6.length ≤ c6) (hp : interregnumref11_Apply.f k lo pa pl = some (rp, al))
    (hpp : interregnumref05_Prepend.f k l1 cA = some (prependV l1 cA)) (hg : interregnumref05_GoodAttrs.f k (outA cA cN tA o l1 nx md pr l5 l6).1 (outA cA cN tA o l1 nx md pr l5 l6).2.1 (outA cA cN tA o l1 nx md pr l5 l6).2.2.1 (outA cA cN tA o l1 nx md pr l5 l6).2.2.2.1 (outA cA cN tA o l1 nx md pr l5 l6).2.2.2.2.1 (outA cA cN tA o l1 nx md pr l5 l6).2.2.2.2.2.1 (outA cA cN tA o l1 nx md pr l5 l6).2.2.2.2.2.2 = some gd) (Qt : Ending → World → Prop) (hqt : ∀ e w', ToldAt false w (expV (stopB cA tN tA al ll pe st fr) gd (outA cA cN tA o l1 nx md pr l5 l6)) e w' → Qt e w') :
    Calls Try.prog 11 #[.agg #[.int .i64 cA, .int .u32 cI, .int .u32 cN, .int .i64 cH, .int .i64 cG, .int .i64 cL, .int .i64 cS, .int .i64 cD], .agg #[.int .i64 tN, .int .i64 tA, .slice AI nI cIn, .slice AO lo.length cOut], .bool ll, .agg #[.int .u32 pa, .int .i64 pl, .int .i64 pe, .int .i64 o, .slice A1 l1.length c1, .int .u32 nx, .int .i64 md, .int .i64 pr, .slice A5 l5.length c5, .slice A6 l6.length c6, .int .i64 st], .int .i64 fr] w Qt := by
  have HGX := Aside0.mk hg
  have HPP := Aside0.mk hpp
  have HQ_ := Aside0.mk hqt
  clear hg hpp hqt
  have HRO := Aside0.mk hro
  have HCO := Aside0.mk hco
  have HR1 := Aside0.mk hr1
  have HR5 := Aside0.mk hr5
  have HR6 := Aside0.mk hr6
  have HC := Aside0.mk (And.intro hc1 (And.intro hc5 hc6))
  have HP := Aside0.mk hp
  have hu24 := Try.underlying24
  have hu27 := Try.underlying27
  have hu36 := Try.underlying36
  have hu34 := Try.underlying34
  have hu29 := Try.underlying29
  have HB := Aside0.mk (Below.refl w.heap.size w)
  clear hro hco hr1 hc1 hr5 hc5 hr6 hc6 hp
  go_enter Try.func11, Try.ntmps11
  go_upto_region 2 with (first | ((with_reducible refine gate_dst (N := 5) rfl ?_); refine box_event ?hg (N := 5) ?hd (cs := #[.int .i64 cA, .int .u32 cI, .int .u32 cN, .int .i64 cH, .int .i64 cG, .int .i64 cL, .int .i64 cS, .int .i64 cD]) (t := 24) ?hr ?_; (case hd => rfl); (case hg => rfl); (case hr => first | (go_simp; done) | (go_simp; rfl)); intro gc hg w1 hbox hb; have HB1 := Aside0.mk (below_step HB.out hb); have BKC1 := Aside0.mk hbox; have GEC := Aside0.mk (show w.heap.size ≤ gc from by rw [hg]; exact Nat.le_refl _); clear hbox hb hg) | ((with_reducible refine gate_dst (N := 6) rfl ?_); refine box_event ?hg (N := 6) ?hd (cs := #[.int .i64 tN, .int .i64 tA, .slice AI nI cIn, .slice AO lo.length cOut]) (t := 27) ?hr ?_; (case hd => rfl); (case hg => rfl); (case hr => first | (go_simp; done) | (go_simp; rfl)); intro gt hg w2 hbox hb; have BKC2 := Aside0.mk ((hb.block _ (blk_lt BKC1.out)).trans BKC1.out); have HB2 := Aside0.mk (below_step HB1.out hb); have BKT2 := Aside0.mk hbox; have GET := Aside0.mk (show gc < gt from by rw [hg]; exact blk_lt BKC1.out); clear hbox hb hg) | ((with_reducible refine gate_dst (N := 8) rfl ?_); refine box_event ?hg (N := 8) ?hd (cs := #[.int .u32 pa, .int .i64 pl, .int .i64 pe, .int .i64 o, .slice A1 l1.length c1, .int .u32 nx, .int .i64 md, .int .i64 pr, .slice A5 l5.length c5, .slice A6 l6.length c6, .int .i64 st]) (t := 36) ?hr ?_; (case hd => rfl); (case hg => rfl); (case hr => first | (go_simp; done) | (go_simp; rfl)); intro gr hg w3 hbox hb; have BKC3 := Aside0.mk ((hb.block _ (blk_lt BKC2.out)).trans BKC2.out); have BKT3 := Aside0.mk ((hb.block _ (blk_lt BKT2.out)).trans BKT2.out); have HB3 := Aside0.mk (below_step HB2.out hb); have BKR3 := Aside0.mk hbox; have GER := Aside0.mk (show gt < gr from by rw [hg]; exact blk_lt BKT2.out); clear hbox hb hg) | ((with_reducible refine gate_dst (N := 10) rfl ?_); refine box_event ?hg (N := 10) ?hd (cs := #[.int .i64 0, .slice none 0 0, .int .u32 0, .int .i64 0, .int .i64 0, .slice none 0 0, .slice none 0 0]) (t := 34) ?hr ?_; (case hd => rfl); (case hg => rfl); (case hr => first | (go_simp; done) | (go_simp; rfl)); intro ga hg w4 hbox hb; have BKC4 := Aside0.mk ((hb.block _ (blk_lt BKC3.out)).trans BKC3.out); have BKT4 := Aside0.mk ((hb.block _ (blk_lt BKT3.out)).trans BKT3.out); have BKR4 := Aside0.mk ((hb.block _ (blk_lt BKR3.out)).trans BKR3.out); have HB4 := Aside0.mk (below_step HB3.out hb); have BKA4 := Aside0.mk hbox; have GEA := Aside0.mk (show gr < ga from by rw [hg]; exact blk_lt BKR3.out); have hq3 : w4.cell? ⟨gt, 3, none⟩ = some (.slice AO lo.length cOut) := (blk_cell BKT4.out 3).trans rfl; have hp0 : w4.cell? ⟨gr, 0, none⟩ = some (.int .u32 pa) := (blk_cell BKR4.out 0).trans rfl; have hp1 : w4.cell? ⟨gr, 1, none⟩ = some (.int .i64 pl) := (blk_cell BKR4.out 1).trans rfl; clear hbox hb hg) | (go_at_call 22; with_reducible refine (interregnumref11_Apply.calls k AO cOut lo pa pl rp al _ (Kd.C_below HRO.out HB4.out) HCO.out HP.out).mono ?_; rintro e w5 ⟨rfl, hb⟩; have BKC5 := Aside0.mk ((hb.block _ (blk_lt BKC4.out)).trans BKC4.out); have BKT5 := Aside0.mk ((hb.block _ (blk_lt BKT4.out)).trans BKT4.out); have BKR5 := Aside0.mk ((hb.block _ (blk_lt BKR4.out)).trans BKR4.out); have BKA5 := Aside0.mk ((hb.block _ (blk_lt BKA4.out)).trans BKA4.out); have HB5 := Aside0.mk (below_step HB4.out hb); clear hb hq3 hp0 hp1))
  have hC0 : w5.cell? ⟨gc, 0, none⟩ = some (.int .i64 cA) := (blk_cell BKC5.out 0).trans rfl
  have hC2 : w5.cell? ⟨gc, 2, none⟩ = some (.int .u32 cN) := (blk_cell BKC5.out 2).trans rfl
  have hT0 : w5.cell? ⟨gt, 0, none⟩ = some (.int .i64 tN) := (blk_cell BKT5.out 0).trans rfl
  have hT1 : w5.cell? ⟨gt, 1, none⟩ = some (.int .i64 tA) := (blk_cell BKT5.out 1).trans rfl
  have hR2 : w5.cell? ⟨gr, 2, none⟩ = some (.int .i64 pe) := (blk_cell BKR5.out 2).trans rfl
  have hR10 : w5.cell? ⟨gr, 10, none⟩ = some (.int .i64 st) := (blk_cell BKR5.out 10).trans rfl
  go_cut [58] (fun v58 wc => v58 = .bool (stopB cA tN tA al ll pe st fr) ∧ wc = w5)
  case first =>
    rcases al with _ | _
    · go_wp2
      go_meet
      case rel => exact ⟨by simp [stopB, ], rfl⟩
    · rcases e4 : (pe == tN) with _ | _
      · rcases e1 : decide (0 ≤ pe) with _ | _
        · rcases e5 : (st == 2) with _ | _
          · go_wp2
            go_meet
            case rel => exact ⟨by simp [stopB, e4, e1, e5], rfl⟩
          · rcases ll with _ | _
            · go_wp2
              go_meet
              case rel => exact ⟨by simp [stopB, e4, e1, e5], rfl⟩
            · go_wp2
              go_meet
              case rel => exact ⟨by simp [stopB, e4, e1, e5], rfl⟩
        · rcases e2 : (fr == cA) with _ | _
          · rcases e5 : (st == 2) with _ | _
            · go_wp2
              go_meet
              case rel => exact ⟨by simp [stopB, e4, e1, e2, e5], rfl⟩
            · rcases ll with _ | _
              · go_wp2
                go_meet
                case rel => exact ⟨by simp [stopB, e4, e1, e2, e5], rfl⟩
              · go_wp2
                go_meet
                case rel => exact ⟨by simp [stopB, e4, e1, e2, e5], rfl⟩
          · rcases e3 : (tA == cA) with _ | _
            · rcases e5 : (st == 2) with _ | _
              · go_wp2
                go_meet
                case rel => exact ⟨by simp [stopB, e4, e1, e2, e3, e5], rfl⟩
              · rcases ll with _ | _
                · go_wp2
                  go_meet
                  case rel => exact ⟨by simp [stopB, e4, e1, e2, e3, e5], rfl⟩
                · go_wp2
                  go_meet
                  case rel => exact ⟨by simp [stopB, e4, e1, e2, e3, e5], rfl⟩
            · go_wp2
              go_meet
              case rel => exact ⟨by simp [stopB, e4, e1, e2, e3], rfl⟩
      · go_wp2
        go_meet
        case rel => exact ⟨by simp [stopB, e4], rfl⟩
  case rest =>
    obtain ⟨rfl, hwc⟩ := hcut
    have hwc := hwc.symm
    subst hwc
    clear hC0 hC2 hT0 hT1 hR2 hR10
    rcases hst : (stopB cA tN tA al ll pe st fr) with _ | _
    · have HST := Aside0.mk hst
      clear hst
      skip
      go_upto_region 5 with (first | ((with_reducible refine gate_dst (N := 61) rfl ?_); (try (refine gate_guard (by rfl) ?_; dsimp only)); refine load_blk rfl 34 (.tmp 60) rfl (g := gr) (off := 3) [.int .i64 o, .slice A1 l1.length c1, .int .u32 nx, .int .i64 md, .int .i64 pr, .slice A5 l5.length c5, .slice A6 l6.length c6] _ rfl BKR5.out (seven_x pa pl pe o A1 l1.length c1 nx md pr A5 l5.length c5 A6 l6.length c6 st) Try.underlying34 rfl (by kernel_rfl) ?_) | ((with_reducible refine gate_dst (N := 14) rfl ?_); refine box_event ?hg (N := 14) ?hd (cs := #[.int .i64 0, .slice none 0 0, .int .u32 0, .int .i64 0, .int .i64 0, .slice none 0 0, .slice none 0 0]) (t := 34) ?hr ?_; (case hd => rfl); (case hg => rfl); (case hr => first | (go_simp; done) | (go_simp; rfl)); intro gb hg w7 hbox hb; have BKC7 := Aside0.mk ((hb.block _ (blk_lt BKC5.out)).trans BKC5.out); have BKT7 := Aside0.mk ((hb.block _ (blk_lt BKT5.out)).trans BKT5.out); have BKA7 := Aside0.mk ((hb.block _ (blk_lt BKA5.out)).trans BKA5.out); have HB7 := Aside0.mk (below_step HB5.out hb); have BKB7 := Aside0.mk hbox; have GEB := Aside0.mk (show ga < gb from by rw [hg]; exact blk_lt BKA5.out); have HGT := Aside0.mk (show gt < gb from by rw [hg]; exact blk_lt BKT5.out); have HGC := Aside0.mk (show gc < gb from by rw [hg]; exact blk_lt BKC5.out); clear hbox hb hg) | ((with_reducible refine gate_store (t := 34) (p := 14) rfl ?_); refine store_new rfl 34 (.tmp 14) (.tmp 61) rfl [.int .i64 o, .slice A1 l1.length c1, .int .u32 nx, .int .i64 md, .int .i64 pr, .slice A5 l5.length c5, .slice A6 l6.length c6] (by rfl) (by rfl) BKB7.out (by rfl) (by kernel_rfl) (by intro v hv; simp only [List.mem_cons, List.not_mem_nil, or_false] at hv; rcases hv with rfl | rfl | rfl | rfl | rfl | rfl | rfl <;> rfl) ?_; intro w8 hx hg hs; have BKB8 := Aside0.mk hx; have BKA8 := Aside0.mk ((hg.block _ (blk_lt BKA7.out) (fun e => by injection e with e; have := GEB.out; omega)).trans BKA7.out); have BKT8 := Aside0.mk ((hg.block _ (blk_lt BKT7.out) (fun e => by injection e with e; have := HGT.out; omega)).trans BKT7.out); have BKC8 := Aside0.mk ((hg.block _ (blk_lt BKC7.out) (fun e => by injection e with e; have := HGC.out; omega)).trans BKC7.out); have HB8 := Aside0.mk (HB7.out.grown hg HB7.out.size (fun k e => by injection e with e; have := GEC.out; have := HGC.out; omega)); clear hx hg hs))
      have hc0 : w8.cell? ⟨gc, 0, none⟩ = some (.int .i64 cA) := (blk_cell BKC8.out 0).trans rfl
      have ht1 : w8.cell? ⟨gt, 1, none⟩ = some (.int .i64 tA) := (blk_cell BKT8.out 1).trans rfl
      by_cases heq : tA = cA
      · have HEQ := Aside0.mk heq
        clear heq
        have e3 : (tA == cA) = true := beq_iff_eq.mpr HEQ.out
        have e3n : (tA != cA) = false := by simp [HEQ.out]
        by_cases hpr_ : pr = -1
        · have HPR := Aside0.mk hpr_
          clear hpr_
          have HOUT := Aside0.mk (show (outA cA cN tA o l1 nx md pr l5 l6) = (o, l1, nx, md, 100, l5, l6) from by unfold outA; rw [if_pos HEQ.out, if_pos HPR.out])
          have HG := Aside0.mk (show interregnumref05_GoodAttrs.f k o l1 nx md 100 l5 l6 = some gd from by have h := HGX.out; rw [HOUT.out] at h; exact h)
          have hpr : (pr == -1) = true := beq_iff_eq.mpr HPR.out
          have hb4 : w8.cell? ⟨gb, 4, none⟩ = some (.int .i64 pr) := (blk_cell BKB8.out 4).trans rfl
          have hf4 := blk_frozen BKB8.out 4
          have HKL := Aside0.mk (show l1.length ≤ c1 from HC.out.1)
          go_upto_region 9 with (fail)
          clear hc0 ht1 hb4 hf4 e3 e3n hpr
          have BKB9 := Aside0.mk (show (w8.setCell ⟨gb, 4, none⟩ (.int .i64 100)).heap[gb]? = some (.cells #[.int .i64 o, .slice A1 l1.length c1, .int .u32 nx, .int .i64 md, .int .i64 100, .slice A5 l5.length c5, .slice A6 l6.length c6] 34 (0, 0)) from blk_put BKB8.out 4 _ rfl)
          have BKA9 := Aside0.mk (show (w8.setCell ⟨gb, 4, none⟩ (.int .i64 100)).heap[ga]? = some (.cells #[.int .i64 0, .slice none 0 0, .int .u32 0, .int .i64 0, .int .i64 0, .slice none 0 0, .slice none 0 0] 34 (0, 0)) from (Below.heap_setCell _ _ _ _ (show ga ≠ gb from by have := GEB.out; omega)).trans BKA8.out)
          have HB9 := Aside0.mk (show Below w.heap.size w (w8.setCell ⟨gb, 4, none⟩ (.int .i64 100)) from Below.setCell HB8.out (show w.heap.size ≤ gb from by have := GEC.out; have := GET.out; have := GER.out; have := GEA.out; have := GEB.out; omega) _)
          clear BKB8 BKA8 HB8 BKC8 BKT8
          generalize (w8.setCell ⟨gb, 4, none⟩ (.int .i64 100)) = w9 at BKB9 BKA9 HB9 ⊢
          rcases gd with _ | _
          · have HK1 := Aside0.mk (Kd.C_below HR1.out HB9.out)
            go_wp2_with (first | ((with_reducible refine gate_dst (N := 82) rfl ?_); (try (refine gate_guard (by rfl) ?_; dsimp only)); refine load_blk rfl 34 (.tmp 14) rfl (g := gb) (off := 0) [.int .i64 o, .slice A1 l1.length c1, .int .u32 nx, .int .i64 md, .int .i64 100, .slice A5 l5.length c5, .slice A6 l6.length c6] _ rfl BKB9.out (self_x _) Try.underlying34 rfl (by kernel_rfl) ?_) | (go_at_call 28; with_reducible refine (interregnumref05_GoodAttrs.calls k o A1 c1 l1 nx md 100 A5 c5 l5 A6 c6 l6 false _ HK1.out HKL.out (Kd.C_below HR5.out HB9.out) HC.out.2.1 (Kd.C_below HR6.out HB9.out) HC.out.2.2 HG.out).mono ?_; rintro e w12 ⟨rfl, hb⟩; have BKAG := Aside0.mk ((hb.block _ (blk_lt BKA9.out)).trans BKA9.out); have BKBG := Aside0.mk ((hb.block _ (blk_lt BKB9.out)).trans BKB9.out); have HBG := Aside0.mk (below_step HB9.out hb); clear hb) | ((with_reducible refine gate_store (t := 34) (p := 10) rfl ?_); refine store_new rfl 34 (.tmp 10) (.tmp 85) rfl [.int .i64 0, .slice none 0 0, .int .u32 0, .int .i64 0, .int .i64 0, .slice none 0 0, .slice none 0 0] (by rfl) (by rfl) BKAG.out (by rfl) (by kernel_rfl) (by intro v hv; simp only [List.mem_cons, List.not_mem_nil, or_false] at hv; rcases hv with rfl | rfl | rfl | rfl | rfl | rfl | rfl <;> rfl) ?_; intro w13 hx hg hs; have BKF := Aside0.mk hx; have HBF := Aside0.mk (HBG.out.grown hg HBG.out.size (fun k e => by injection e with e; have := GEC.out; have := GET.out; have := GER.out; have := GEA.out; have := GEB.out; omega)); clear hx hg hs))
            refine bodyPost_ret (results_ct rfl _ _ ga 34 #[.int .i64 0, .slice none 0 0, .int .u32 0, .int .i64 0, .int .i64 0, .slice none 0 0, .slice none 0 0] (0, 0) _ rfl BKF.out Try.underlying34 rfl (by kernel_rfl)) rfl ?_
            exact HQ_.out _ _ (by rw [show (expV (stopB cA tN tA al ll pe st fr) false (outA cA cN tA o l1 nx md pr l5 l6)) = (0, [], 0, 0, 0, [], [], false) from by unfold expV; exact if_pos (Or.inr rfl)]; exact ToldAt.zero HBF.out)
          · have HK1 := Aside0.mk (Kd.C_below HR1.out HB9.out)
            go_wp2_with (first | ((with_reducible refine gate_dst (N := 82) rfl ?_); (try (refine gate_guard (by rfl) ?_; dsimp only)); refine load_blk rfl 34 (.tmp 14) rfl (g := gb) (off := 0) [.int .i64 o, .slice A1 l1.length c1, .int .u32 nx, .int .i64 md, .int .i64 100, .slice A5 l5.length c5, .slice A6 l6.length c6] _ rfl BKB9.out (self_x _) Try.underlying34 rfl (by kernel_rfl) ?_) | (go_at_call 28; with_reducible refine (interregnumref05_GoodAttrs.calls k o A1 c1 l1 nx md 100 A5 c5 l5 A6 c6 l6 true _ HK1.out HKL.out (Kd.C_below HR5.out HB9.out) HC.out.2.1 (Kd.C_below HR6.out HB9.out) HC.out.2.2 HG.out).mono ?_; rintro e w12 ⟨rfl, hb⟩; have BKAG := Aside0.mk ((hb.block _ (blk_lt BKA9.out)).trans BKA9.out); have BKBG := Aside0.mk ((hb.block _ (blk_lt BKB9.out)).trans BKB9.out); have HBG := Aside0.mk (below_step HB9.out hb); clear hb) | ((with_reducible refine gate_dst (N := 86) rfl ?_); (try (refine gate_guard (by rfl) ?_; dsimp only)); refine load_blk rfl 34 (.tmp 14) rfl (g := gb) (off := 0) [.int .i64 o, .slice A1 l1.length c1, .int .u32 nx, .int .i64 md, .int .i64 100, .slice A5 l5.length c5, .slice A6 l6.length c6] _ rfl BKBG.out (self_x _) Try.underlying34 rfl (by kernel_rfl) ?_) | ((with_reducible refine gate_store (t := 34) (p := 10) rfl ?_); refine store_new rfl 34 (.tmp 10) (.tmp 86) rfl [.int .i64 o, .slice A1 l1.length c1, .int .u32 nx, .int .i64 md, .int .i64 100, .slice A5 l5.length c5, .slice A6 l6.length c6] (by rfl) (by rfl) BKAG.out (by rfl) (by kernel_rfl) (by intro v hv; simp only [List.mem_cons, List.not_mem_nil, or_false] at hv; rcases hv with rfl | rfl | rfl | rfl | rfl | rfl | rfl <;> rfl) ?_; intro w13 hx hg hs; have BKF := Aside0.mk hx; have HBF := Aside0.mk (HBG.out.grown hg HBG.out.size (fun k e => by injection e with e; have := GEC.out; have := GET.out; have := GER.out; have := GEA.out; have := GEB.out; omega)); clear hx hg hs))
            refine bodyPost_ret (results_ct rfl _ _ ga 34 #[.int .i64 o, .slice A1 l1.length c1, .int .u32 nx, .int .i64 md, .int .i64 100, .slice A5 l5.length c5, .slice A6 l6.length c6] (0, 0) _ rfl BKF.out Try.underlying34 rfl (by kernel_rfl)) rfl ?_
            exact HQ_.out _ _ ⟨o, A1, c1, l1, nx, md, 100, A5, c5, l5, A6, c6, l6, true, rfl, ⟨HKL.out, HC.out.2.1, HC.out.2.2⟩, Kd.C_below HR1.out HBF.out, Kd.C_below HR5.out HBF.out, Kd.C_below HR6.out HBF.out, HBF.out, by rw [HST.out, HOUT.out]; rfl, fun h => by cases h⟩
        · have HPR := Aside0.mk hpr_
          clear hpr_
          have HOUT := Aside0.mk (show (outA cA cN tA o l1 nx md pr l5 l6) = (o, l1, nx, md, pr, l5, l6) from by unfold outA; rw [if_pos HEQ.out, if_neg HPR.out])
          have HG := Aside0.mk (show interregnumref05_GoodAttrs.f k o l1 nx md pr l5 l6 = some gd from by have h := HGX.out; rw [HOUT.out] at h; exact h)
          have hpr : (pr == -1) = false := beq_eq_false_iff_ne.mpr HPR.out
          have hb4 : w8.cell? ⟨gb, 4, none⟩ = some (.int .i64 pr) := (blk_cell BKB8.out 4).trans rfl
          have HKL := Aside0.mk (show l1.length ≤ c1 from HC.out.1)
          go_upto_region 9 with (fail)
          clear hc0 ht1 hb4 e3 e3n hpr
          rcases gd with _ | _
          · have HK1 := Aside0.mk (Kd.C_below HR1.out HB8.out)
            go_wp2_with (first | ((with_reducible refine gate_dst (N := 82) rfl ?_); (try (refine gate_guard (by rfl) ?_; dsimp only)); refine load_blk rfl 34 (.tmp 14) rfl (g := gb) (off := 0) [.int .i64 o, .slice A1 l1.length c1, .int .u32 nx, .int .i64 md, .int .i64 pr, .slice A5 l5.length c5, .slice A6 l6.length c6] _ rfl BKB8.out (self_x _) Try.underlying34 rfl (by kernel_rfl) ?_) | (go_at_call 28; with_reducible refine (interregnumref05_GoodAttrs.calls k o A1 c1 l1 nx md pr A5 c5 l5 A6 c6 l6 false _ HK1.out HKL.out (Kd.C_below HR5.out HB8.out) HC.out.2.1 (Kd.C_below HR6.out HB8.out) HC.out.2.2 HG.out).mono ?_; rintro e w12 ⟨rfl, hb⟩; have BKAG := Aside0.mk ((hb.block _ (blk_lt BKA8.out)).trans BKA8.out); have BKBG := Aside0.mk ((hb.block _ (blk_lt BKB8.out)).trans BKB8.out); have HBG := Aside0.mk (below_step HB8.out hb); clear hb) | ((with_reducible refine gate_store (t := 34) (p := 10) rfl ?_); refine store_new rfl 34 (.tmp 10) (.tmp 85) rfl [.int .i64 0, .slice none 0 0, .int .u32 0, .int .i64 0, .int .i64 0, .slice none 0 0, .slice none 0 0] (by rfl) (by rfl) BKAG.out (by rfl) (by kernel_rfl) (by intro v hv; simp only [List.mem_cons, List.not_mem_nil, or_false] at hv; rcases hv with rfl | rfl | rfl | rfl | rfl | rfl | rfl <;> rfl) ?_; intro w13 hx hg hs; have BKF := Aside0.mk hx; have HBF := Aside0.mk (HBG.out.grown hg HBG.out.size (fun k e => by injection e with e; have := GEC.out; have := GET.out; have := GER.out; have := GEA.out; have := GEB.out; omega)); clear hx hg hs))
            refine bodyPost_ret (results_ct rfl _ _ ga 34 #[.int .i64 0, .slice none 0 0, .int .u32 0, .int .i64 0, .int .i64 0, .slice none 0 0, .slice none 0 0] (0, 0) _ rfl BKF.out Try.underlying34 rfl (by kernel_rfl)) rfl ?_
            exact HQ_.out _ _ (by rw [show (expV (stopB cA tN tA al ll pe st fr) false (outA cA cN tA o l1 nx md pr l5 l6)) = (0, [], 0, 0, 0, [], [], false) from by unfold expV; exact if_pos (Or.inr rfl)]; exact ToldAt.zero HBF.out)
          · have HK1 := Aside0.mk (Kd.C_below HR1.out HB8.out)
            go_wp2_with (first | ((with_reducible refine gate_dst (N := 82) rfl ?_); (try (refine gate_guard (by rfl) ?_; dsimp only)); refine load_blk rfl 34 (.tmp 14) rfl (g := gb) (off := 0) [.int .i64 o, .slice A1 l1.length c1, .int .u32 nx, .int .i64 md, .int .i64 pr, .slice A5 l5.length c5, .slice A6 l6.length c6] _ rfl BKB8.out (self_x _) Try.underlying34 rfl (by kernel_rfl) ?_) | (go_at_call 28; with_reducible refine (interregnumref05_GoodAttrs.calls k o A1 c1 l1 nx md pr A5 c5 l5 A6 c6 l6 true _ HK1.out HKL.out (Kd.C_below HR5.out HB8.out) HC.out.2.1 (Kd.C_below HR6.out HB8.out) HC.out.2.2 HG.out).mono ?_; rintro e w12 ⟨rfl, hb⟩; have BKAG := Aside0.mk ((hb.block _ (blk_lt BKA8.out)).trans BKA8.out); have BKBG := Aside0.mk ((hb.block _ (blk_lt BKB8.out)).trans BKB8.out); have HBG := Aside0.mk (below_step HB8.out hb); clear hb) | ((with_reducible refine gate_dst (N := 86) rfl ?_); (try (refine gate_guard (by rfl) ?_; dsimp only)); refine load_blk rfl 34 (.tmp 14) rfl (g := gb) (off := 0) [.int .i64 o, .slice A1 l1.length c1, .int .u32 nx, .int .i64 md, .int .i64 pr, .slice A5 l5.length c5, .slice A6 l6.length c6] _ rfl BKBG.out (self_x _) Try.underlying34 rfl (by kernel_rfl) ?_) | ((with_reducible refine gate_store (t := 34) (p := 10) rfl ?_); refine store_new rfl 34 (.tmp 10) (.tmp 86) rfl [.int .i64 o, .slice A1 l1.length c1, .int .u32 nx, .int .i64 md, .int .i64 pr, .slice A5 l5.length c5, .slice A6 l6.length c6] (by rfl) (by rfl) BKAG.out (by rfl) (by kernel_rfl) (by intro v hv; simp only [List.mem_cons, List.not_mem_nil, or_false] at hv; rcases hv with rfl | rfl | rfl | rfl | rfl | rfl | rfl <;> rfl) ?_; intro w13 hx hg hs; have BKF := Aside0.mk hx; have HBF := Aside0.mk (HBG.out.grown hg HBG.out.size (fun k e => by injection e with e; have := GEC.out; have := GET.out; have := GER.out; have := GEA.out; have := GEB.out; omega)); clear hx hg hs))
            refine bodyPost_ret (results_ct rfl _ _ ga 34 #[.int .i64 o, .slice A1 l1.length c1, .int .u32 nx, .int .i64 md, .int .i64 pr, .slice A5 l5.length c5, .slice A6 l6.length c6] (0, 0) _ rfl BKF.out Try.underlying34 rfl (by kernel_rfl)) rfl ?_
            exact HQ_.out _ _ ⟨o, A1, c1, l1, nx, md, pr, A5, c5, l5, A6, c6, l6, true, rfl, ⟨HKL.out, HC.out.2.1, HC.out.2.2⟩, Kd.C_below HR1.out HBF.out, Kd.C_below HR5.out HBF.out, Kd.C_below HR6.out HBF.out, HBF.out, by rw [HST.out, HOUT.out]; rfl, fun h => by cases h⟩
      · have HEQ := Aside0.mk heq
        clear heq
        have HOUT := Aside0.mk (show (outA cA cN tA o l1 nx md pr l5 l6) = (o, (prependV l1 cA), cN, (-1), (-1), l5, l6) from by unfold outA; rw [if_neg HEQ.out])
        have HG := Aside0.mk (show interregnumref05_GoodAttrs.f k o (prependV l1 cA) cN (-1) (-1) l5 l6 = some gd from by have h := HGX.out; rw [HOUT.out] at h; exact h)
        have e3 : (tA == cA) = false := beq_eq_false_iff_ne.mpr HEQ.out
        have e3n : (tA != cA) = true := by simp [HEQ.out]
        go_upto_region 8 with (fail)
        clear hc0 ht1 e3 e3n
        refine start_ (n := 15) (S := fun w' => w'.cell? ⟨gc, 0, none⟩ = some (.int .i64 cA) ∧ w'.cell? ⟨gc, 2, none⟩ = some (.int .u32 cN)) (ds := []) #[false, false, false, false, false, false, false, false, false, false, false, false, false, false, false] (by kernel_rfl) rfl rfl ⟨(blk_cell BKC8.out 0).trans rfl, (blk_cell BKC8.out 2).trans rfl⟩ (fun hHeld => ?_)
        have HBD := Aside0.mk (below_drew1 HB8.out)
        have BKCD := Aside0.mk (blk_drew BKC8.out)
        have BKBD := Aside0.mk (blk_drew BKB8.out)
        have BKAD := Aside0.mk (blk_drew BKA8.out)
        generalize w8.drew = wD at HBD BKCD BKBD BKAD hHeld ⊢
        have hb1D := (show wD.cell? ⟨gb, 1, none⟩ = some (.slice A1 l1.length c1) from (blk_cell BKBD.out 1).trans rfl)
        have HNE := Aside0.mk (show gc ≠ gb from by have := HGC.out; omega)
        have HNF := Aside0.mk (show ∀ q, (q < w.heap.size ∨ wD.heap.size ≤ q) → q ≠ gb from fun q hq e => by have := blk_lt BKBD.out; have := GEC.out; have := GET.out; have := GER.out; have := GEA.out; have := GEB.out; subst e; omega)
        have HNA := Aside0.mk (show ∀ q, (q < w.heap.size ∨ wD.heap.size ≤ q) → q = ga → False from fun q hq e => by have := blk_lt BKAD.out; have := GEC.out; have := GET.out; have := GER.out; have := GEA.out; have := GEB.out; subst e; omega)
        refine pure_ (i := 0) (N := some 71) (v := ?_) (a' := ?_) #[true, false, false, false, false, false, false, false, false, false, false, false, false, false, false] rfl rfl (by kernel_rfl) (fun _ _ _ h => h) (Or.inl ⟨by rfl, ?_⟩) ?_ ?_
        rotate_left
        · intro w'
          go_simp
          with_reducible rfl
        rotate_left
        · simp only [Act.put, List.setIfInBounds_toArray, List.set_cons_zero, List.set_cons_succ, i64_w, i32_w]
          rfl
        refine pure_ (i := 2) (N := some 73) (v := ?_) (a' := ?_) #[true, false, true, false, false, false, false, false, false, false, false, false, false, false, false] rfl rfl (by kernel_rfl) (fun _ _ _ h => h) (Or.inl ⟨by rfl, ?_⟩) ?_ ?_
        rotate_left
        · intro w'
          go_simp
          with_reducible rfl
        rotate_left
        · simp only [Act.put, List.setIfInBounds_toArray, List.set_cons_zero, List.set_cons_succ, i64_w, i32_w]
          rfl
        refine pure_ (i := 5) (N := some 76) (v := ?_) (a' := ?_) #[true, false, true, false, false, true, false, false, false, false, false, false, false, false, false] rfl rfl (by kernel_rfl) (fun _ _ _ h => h) (Or.inl ⟨by rfl, ?_⟩) ?_ ?_
        rotate_left
        · intro w'
          go_simp
          with_reducible rfl
        rotate_left
        · simp only [Act.put, List.setIfInBounds_toArray, List.set_cons_zero, List.set_cons_succ, i64_w, i32_w]
          rfl
        refine take_ (i := 3) (N := some 74) (v := ?_) (a' := ?_) #[true, false, true, true, false, true, false, false, false, false, false, false, false, false, false] rfl rfl (by kernel_rfl) (fun _ _ _ h => h) (Or.inl ⟨by rfl, ?_⟩) hHeld ?_ ?_
        rotate_left
        · rintro w' ⟨s0, s1⟩
          go_simp
          with_reducible rfl
        rotate_left
        · simp only [Act.put, List.setIfInBounds_toArray, List.set_cons_zero, List.set_cons_succ, i64_w, i32_w]
          rfl
        refine take_ (i := 6) (N := some 77) (v := ?_) (a' := ?_) #[true, false, true, true, false, true, true, false, false, false, false, false, false, false, false] rfl rfl (by kernel_rfl) (fun _ _ _ h => h) (Or.inl ⟨by rfl, ?_⟩) hHeld ?_ ?_
        rotate_left
        · rintro w' ⟨s0, s1⟩
          go_simp
          with_reducible rfl
        rotate_left
        · simp only [Act.put, List.setIfInBounds_toArray, List.set_cons_zero, List.set_cons_succ, i64_w, i32_w]
          rfl
        refine one_ (i := 1) (N := some 72) #[true, true, true, true, false, true, true, false, false, false, false, false, false, false, false] rfl rfl (by kernel_rfl) (by decide) (fun K hK => ?_)
        refine value_ (w1 := ?_) (v := ?_) (by rfl) rfl ?_ ?_
        rotate_left 2
        · go_simp
          constructor
          · rfl
          · rfl
        refine hK.out _ _ ⟨(blk_cell BKCD.out 0).trans rfl, (blk_cell BKCD.out 2).trans rfl⟩ (fun hHeld => ?_)
        clear hK K
        refine norm_ (a' := ?_) ?_ ?_
        rotate_left
        · show Act.put _ (some 72) _ = _
          simp only [Act.put, List.setIfInBounds_toArray, List.set_cons_zero, List.set_cons_succ, i64_w, i32_w]
          rfl
        refine one_ (i := 4) (N := some 75) #[true, true, true, true, true, true, true, false, false, false, false, false, false, false, false] rfl rfl (by kernel_rfl) (by decide) (fun K hK => ?_)
        refine goes_ Try.func27 (by kernel_rfl) rfl #[.slice A1 l1.length c1, .int .i64 cA] (by rfl) rfl rfl (by (try simp only [List.map_toArray, List.map_cons, List.map_nil]); first | done | rfl) ?_
        refine (interregnumref05_Prepend.calls k (fun q => q < w.heap.size) A1 c1 l1 cA (prependV l1 cA) _ (show Kd.V k69 69 wD wD.heap.size (fun q => q < w.heap.size) (.slice A1 l1.length c1) l1 from Kd.V_below (seg_V HC.out.1 HR1.out) HBD.out) HPP.out).mono ?_
        rintro e w9 ⟨v9, rfl, hv, hb⟩
        clear hb1D
        obtain ⟨Q, q, eq⟩ := Kd.N_slice hv
        subst eq
        have HQQ := Aside0.mk (Kd.N_reads' hv).2.1
        have HF9 := Aside0.mk (Kd.N_F hv)
        have BKC9 := Aside0.mk ((hb.block _ (blk_lt BKCD.out)).trans BKCD.out)
        have BKB9 := Aside0.mk ((hb.block _ (blk_lt BKBD.out)).trans BKBD.out)
        have BKA9 := Aside0.mk ((hb.block _ (blk_lt BKAD.out)).trans BKAD.out)
        have HB9 := Aside0.mk (below_step HBD.out hb)
        clear hb hv
        have hs1 : w9.cell? ⟨gb, 1, none⟩ = some (.slice A1 l1.length c1) := (blk_cell BKB9.out 1).trans rfl
        have hs2 : w9.cell? ⟨gb, 2, none⟩ = some (.int .u32 nx) := (blk_cell BKB9.out 2).trans rfl
        have hs3 : w9.cell? ⟨gb, 3, none⟩ = some (.int .i64 md) := (blk_cell BKB9.out 3).trans rfl
        have hs4 : w9.cell? ⟨gb, 4, none⟩ = some (.int .i64 pr) := (blk_cell BKB9.out 4).trans rfl
        have hsf1 := blk_frozen BKB9.out 1
        have hsf2 := blk_frozen BKB9.out 2
        have hsf3 := blk_frozen BKB9.out 3
        have hsf4 := blk_frozen BKB9.out 4
        refine ⟨_, rfl, ?_⟩
        refine hK.out _ _ ⟨(blk_cell BKC9.out 0).trans rfl, (blk_cell BKC9.out 2).trans rfl⟩ (fun hHeld => ?_)
        clear hK K
        refine norm_ (a' := ?_) ?_ ?_
        rotate_left
        · show Act.put _ (some 75) _ = _
          simp only [Act.put, List.setIfInBounds_toArray, List.set_cons_zero, List.set_cons_succ, i64_w, i32_w]
          rfl
        refine pure_ (i := 7) (N := some 78) (v := ?_) (a' := ?_) #[true, true, true, true, true, true, true, true, false, false, false, false, false, false, false] rfl rfl (by kernel_rfl) (fun _ _ _ h => h) (Or.inl ⟨by rfl, ?_⟩) ?_ ?_
        rotate_left
        · intro w'
          go_simp
          with_reducible rfl
        rotate_left
        · simp only [Act.put, List.setIfInBounds_toArray, List.set_cons_zero, List.set_cons_succ, i64_w, i32_w]
          rfl
        refine one_ (i := 8) (N := none) #[true, true, true, true, true, true, true, true, true, false, false, false, false, false, false] rfl rfl (by kernel_rfl) (by decide) (fun K hK => ?_)
        refine skip_ (w1 := ?_) (by rfl) rfl ?_ ?_
        rotate_left
        · go_simp
          rfl
        refine hK.out _ _ ⟨(blk_cell (blk_far BKC9.out HNE.out _) 0).trans rfl, (blk_cell (blk_far BKC9.out HNE.out _) 2).trans rfl⟩ (fun hHeld => ?_)
        clear hK K
        refine pure_ (i := 9) (N := some 79) (v := ?_) (a' := ?_) #[true, true, true, true, true, true, true, true, true, true, false, false, false, false, false] rfl rfl (by kernel_rfl) (fun _ _ _ h => h) (Or.inl ⟨by rfl, ?_⟩) ?_ ?_
        rotate_left
        · intro w'
          go_simp
          with_reducible rfl
        rotate_left
        · simp only [Act.put, List.setIfInBounds_toArray, List.set_cons_zero, List.set_cons_succ, i64_w, i32_w]
          rfl
        refine one_ (i := 10) (N := none) #[true, true, true, true, true, true, true, true, true, true, true, false, false, false, false] rfl rfl (by kernel_rfl) (by decide) (fun K hK => ?_)
        refine skip_ (w1 := ?_) (by rfl) rfl ?_ ?_
        rotate_left
        · go_simp
          rfl
        refine hK.out _ _ ⟨(blk_cell (blk_far (blk_far BKC9.out HNE.out _) HNE.out _) 0).trans rfl, (blk_cell (blk_far (blk_far BKC9.out HNE.out _) HNE.out _) 2).trans rfl⟩ (fun hHeld => ?_)
        clear hK K
        refine pure_ (i := 11) (N := some 80) (v := ?_) (a' := ?_) #[true, true, true, true, true, true, true, true, true, true, true, true, false, false, false] rfl rfl (by kernel_rfl) (fun _ _ _ h => h) (Or.inl ⟨by rfl, ?_⟩) ?_ ?_
        rotate_left
        · intro w'
          go_simp
          with_reducible rfl
        rotate_left
        · simp only [Act.put, List.setIfInBounds_toArray, List.set_cons_zero, List.set_cons_succ, i64_w, i32_w]
          rfl
        refine one_ (i := 12) (N := none) #[true, true, true, true, true, true, true, true, true, true, true, true, true, false, false] rfl rfl (by kernel_rfl) (by decide) (fun K hK => ?_)
        refine skip_ (w1 := ?_) (by rfl) rfl ?_ ?_
        rotate_left
        · go_simp
          rfl
        refine hK.out _ _ ⟨(blk_cell (blk_far (blk_far (blk_far BKC9.out HNE.out _) HNE.out _) HNE.out _) 0).trans rfl, (blk_cell (blk_far (blk_far (blk_far BKC9.out HNE.out _) HNE.out _) HNE.out _) 2).trans rfl⟩ (fun hHeld => ?_)
        clear hK K
        refine pure_ (i := 13) (N := some 81) (v := ?_) (a' := ?_) #[true, true, true, true, true, true, true, true, true, true, true, true, true, true, false] rfl rfl (by kernel_rfl) (fun _ _ _ h => h) (Or.inl ⟨by rfl, ?_⟩) ?_ ?_
        rotate_left
        · intro w'
          go_simp
          with_reducible rfl
        rotate_left
        · simp only [Act.put, List.setIfInBounds_toArray, List.set_cons_zero, List.set_cons_succ, i64_w, i32_w]
          rfl
        refine one_ (i := 14) (N := none) #[true, true, true, true, true, true, true, true, true, true, true, true, true, true, true] rfl rfl (by kernel_rfl) (by decide) (fun K hK => ?_)
        refine skip_ (w1 := ?_) (by rfl) rfl ?_ ?_
        rotate_left
        · go_simp
          rfl
        refine hK.out _ _ ⟨(blk_cell (blk_far (blk_far (blk_far (blk_far BKC9.out HNE.out _) HNE.out _) HNE.out _) HNE.out _) 0).trans rfl, (blk_cell (blk_far (blk_far (blk_far (blk_far BKC9.out HNE.out _) HNE.out _) HNE.out _) HNE.out _) 2).trans rfl⟩ (fun hHeld => ?_)
        clear hK K
        refine done_ (by kernel_rfl) ?_
        have BKB10 := Aside0.mk (show ((((w9.setCell ⟨gb, 1, none⟩ (.slice Q (prependV l1 cA).length q)).setCell ⟨gb, 2, none⟩ (.int .u32 cN)).setCell ⟨gb, 3, none⟩ (.int .i64 (-1))).setCell ⟨gb, 4, none⟩ (.int .i64 (-1))).heap[gb]? = some (.cells #[.int .i64 o, .slice Q (prependV l1 cA).length q, .int .u32 cN, .int .i64 (-1), .int .i64 (-1), .slice A5 l5.length c5, .slice A6 l6.length c6] 34 (0, 0)) from (blk_put (cs' := #[.int .i64 o, .slice Q (prependV l1 cA).length q, .int .u32 cN, .int .i64 (-1), .int .i64 (-1), .slice A5 l5.length c5, .slice A6 l6.length c6]) (blk_put (cs' := #[.int .i64 o, .slice Q (prependV l1 cA).length q, .int .u32 cN, .int .i64 (-1), .int .i64 pr, .slice A5 l5.length c5, .slice A6 l6.length c6]) (blk_put (cs' := #[.int .i64 o, .slice Q (prependV l1 cA).length q, .int .u32 cN, .int .i64 md, .int .i64 pr, .slice A5 l5.length c5, .slice A6 l6.length c6]) (blk_put (cs' := #[.int .i64 o, .slice Q (prependV l1 cA).length q, .int .u32 nx, .int .i64 md, .int .i64 pr, .slice A5 l5.length c5, .slice A6 l6.length c6]) BKB9.out 1 (.slice Q (prependV l1 cA).length q) rfl) 2 (.int .u32 cN) rfl) 3 (.int .i64 (-1)) rfl) 4 (.int .i64 (-1)) rfl))
        have BKA10 := Aside0.mk (show ((((w9.setCell ⟨gb, 1, none⟩ (.slice Q (prependV l1 cA).length q)).setCell ⟨gb, 2, none⟩ (.int .u32 cN)).setCell ⟨gb, 3, none⟩ (.int .i64 (-1))).setCell ⟨gb, 4, none⟩ (.int .i64 (-1))).heap[ga]? = some (.cells #[.int .i64 0, .slice none 0 0, .int .u32 0, .int .i64 0, .int .i64 0, .slice none 0 0, .slice none 0 0] 34 (0, 0)) from ((Below.heap_setCell _ ⟨gb, 4, none⟩ _ ga (show ga ≠ gb from by have := GEB.out; omega)).trans ((Below.heap_setCell _ ⟨gb, 3, none⟩ _ ga (show ga ≠ gb from by have := GEB.out; omega)).trans ((Below.heap_setCell _ ⟨gb, 2, none⟩ _ ga (show ga ≠ gb from by have := GEB.out; omega)).trans ((Below.heap_setCell _ ⟨gb, 1, none⟩ _ ga (show ga ≠ gb from by have := GEB.out; omega)).trans BKA9.out)))))
        have HB10 := Aside0.mk (show Below w.heap.size w ((((w9.setCell ⟨gb, 1, none⟩ (.slice Q (prependV l1 cA).length q)).setCell ⟨gb, 2, none⟩ (.int .u32 cN)).setCell ⟨gb, 3, none⟩ (.int .i64 (-1))).setCell ⟨gb, 4, none⟩ (.int .i64 (-1))) from (Below.setCell (p := ⟨gb, 4, none⟩) (Below.setCell (p := ⟨gb, 3, none⟩) (Below.setCell (p := ⟨gb, 2, none⟩) (Below.setCell (p := ⟨gb, 1, none⟩) HB9.out (show w.heap.size ≤ gb from by have := GEC.out; have := GET.out; have := GER.out; have := GEA.out; have := GEB.out; omega) (.slice Q (prependV l1 cA).length q)) (show w.heap.size ≤ gb from by have := GEC.out; have := GET.out; have := GER.out; have := GEA.out; have := GEB.out; omega) (.int .u32 cN)) (show w.heap.size ≤ gb from by have := GEC.out; have := GET.out; have := GER.out; have := GEA.out; have := GEB.out; omega) (.int .i64 (-1))) (show w.heap.size ≤ gb from by have := GEC.out; have := GET.out; have := GER.out; have := GEA.out; have := GEB.out; omega) (.int .i64 (-1))))
        have HF10 := Aside0.mk (show Kd.F k69 ((((w9.setCell ⟨gb, 1, none⟩ (.slice Q (prependV l1 cA).length q)).setCell ⟨gb, 2, none⟩ (.int .u32 cN)).setCell ⟨gb, 3, none⟩ (.int .i64 (-1))).setCell ⟨gb, 4, none⟩ (.int .i64 (-1))) (fun q => q < w.heap.size ∨ wD.heap.size ≤ q) Q (prependV l1 cA).length (prependV l1 cA) from (Kd.F_far (p := ⟨gb, 4, none⟩) (Kd.F_far (p := ⟨gb, 3, none⟩) (Kd.F_far (p := ⟨gb, 2, none⟩) (Kd.F_far (p := ⟨gb, 1, none⟩) HF9.out HNF.out (.slice Q (prependV l1 cA).length q)) HNF.out (.int .u32 cN)) HNF.out (.int .i64 (-1))) HNF.out (.int .i64 (-1))))
        have HKL := HQQ
        clear BKB9 BKA9 HB9 HF9 BKC9 hs1 hs2 hs3 hs4 hsf1 hsf2 hsf3 hsf4
        generalize ((((w9.setCell ⟨gb, 1, none⟩ (.slice Q (prependV l1 cA).length q)).setCell ⟨gb, 2, none⟩ (.int .u32 cN)).setCell ⟨gb, 3, none⟩ (.int .i64 (-1))).setCell ⟨gb, 4, none⟩ (.int .i64 (-1))) = w10 at BKB10 BKA10 HB10 HF10 ⊢
        rcases gd with _ | _
        · have HK1 := Aside0.mk (Kd.F_now HF10.out)
          go_wp2_with (first | ((with_reducible refine gate_dst (N := 82) rfl ?_); (try (refine gate_guard (by rfl) ?_; dsimp only)); refine load_blk rfl 34 (.tmp 14) rfl (g := gb) (off := 0) [.int .i64 o, .slice Q (prependV l1 cA).length q, .int .u32 cN, .int .i64 (-1), .int .i64 (-1), .slice A5 l5.length c5, .slice A6 l6.length c6] _ rfl BKB10.out (self_x _) Try.underlying34 rfl (by kernel_rfl) ?_) | (go_at_call 28; with_reducible refine (interregnumref05_GoodAttrs.calls k o Q q (prependV l1 cA) cN (-1) (-1) A5 c5 l5 A6 c6 l6 false _ HK1.out HKL.out (Kd.C_below HR5.out HB10.out) HC.out.2.1 (Kd.C_below HR6.out HB10.out) HC.out.2.2 HG.out).mono ?_; rintro e w12 ⟨rfl, hb⟩; have BKAG := Aside0.mk ((hb.block _ (blk_lt BKA10.out)).trans BKA10.out); have BKBG := Aside0.mk ((hb.block _ (blk_lt BKB10.out)).trans BKB10.out); have HBG := Aside0.mk (below_step HB10.out hb); have HFG := Aside0.mk (Kd.F_below HF10.out hb); clear hb) | ((with_reducible refine gate_store (t := 34) (p := 10) rfl ?_); refine store_new rfl 34 (.tmp 10) (.tmp 85) rfl [.int .i64 0, .slice none 0 0, .int .u32 0, .int .i64 0, .int .i64 0, .slice none 0 0, .slice none 0 0] (by rfl) (by rfl) BKAG.out (by rfl) (by kernel_rfl) (by intro v hv; simp only [List.mem_cons, List.not_mem_nil, or_false] at hv; rcases hv with rfl | rfl | rfl | rfl | rfl | rfl | rfl <;> rfl) ?_; intro w13 hx hg hs; have BKF := Aside0.mk hx; have HBF := Aside0.mk (HBG.out.grown hg HBG.out.size (fun k e => by injection e with e; have := GEC.out; have := GET.out; have := GER.out; have := GEA.out; have := GEB.out; omega)); clear hx hg hs))
          refine bodyPost_ret (results_ct rfl _ _ ga 34 #[.int .i64 0, .slice none 0 0, .int .u32 0, .int .i64 0, .int .i64 0, .slice none 0 0, .slice none 0 0] (0, 0) _ rfl BKF.out Try.underlying34 rfl (by kernel_rfl)) rfl ?_
          exact HQ_.out _ _ (by rw [show (expV (stopB cA tN tA al ll pe st fr) false (outA cA cN tA o l1 nx md pr l5 l6)) = (0, [], 0, 0, 0, [], [], false) from by unfold expV; exact if_pos (Or.inr rfl)]; exact ToldAt.zero HBF.out)
        · have HK1 := Aside0.mk (Kd.F_now HF10.out)
          go_wp2_with (first | ((with_reducible refine gate_dst (N := 82) rfl ?_); (try (refine gate_guard (by rfl) ?_; dsimp only)); refine load_blk rfl 34 (.tmp 14) rfl (g := gb) (off := 0) [.int .i64 o, .slice Q (prependV l1 cA).length q, .int .u32 cN, .int .i64 (-1), .int .i64 (-1), .slice A5 l5.length c5, .slice A6 l6.length c6] _ rfl BKB10.out (self_x _) Try.underlying34 rfl (by kernel_rfl) ?_) | (go_at_call 28; with_reducible refine (interregnumref05_GoodAttrs.calls k o Q q (prependV l1 cA) cN (-1) (-1) A5 c5 l5 A6 c6 l6 true _ HK1.out HKL.out (Kd.C_below HR5.out HB10.out) HC.out.2.1 (Kd.C_below HR6.out HB10.out) HC.out.2.2 HG.out).mono ?_; rintro e w12 ⟨rfl, hb⟩; have BKAG := Aside0.mk ((hb.block _ (blk_lt BKA10.out)).trans BKA10.out); have BKBG := Aside0.mk ((hb.block _ (blk_lt BKB10.out)).trans BKB10.out); have HBG := Aside0.mk (below_step HB10.out hb); have HFG := Aside0.mk (Kd.F_below HF10.out hb); clear hb) | ((with_reducible refine gate_dst (N := 86) rfl ?_); (try (refine gate_guard (by rfl) ?_; dsimp only)); refine load_blk rfl 34 (.tmp 14) rfl (g := gb) (off := 0) [.int .i64 o, .slice Q (prependV l1 cA).length q, .int .u32 cN, .int .i64 (-1), .int .i64 (-1), .slice A5 l5.length c5, .slice A6 l6.length c6] _ rfl BKBG.out (self_x _) Try.underlying34 rfl (by kernel_rfl) ?_) | ((with_reducible refine gate_store (t := 34) (p := 10) rfl ?_); refine store_new rfl 34 (.tmp 10) (.tmp 86) rfl [.int .i64 o, .slice Q (prependV l1 cA).length q, .int .u32 cN, .int .i64 (-1), .int .i64 (-1), .slice A5 l5.length c5, .slice A6 l6.length c6] (by rfl) (by rfl) BKAG.out (by rfl) (by kernel_rfl) (by intro v hv; simp only [List.mem_cons, List.not_mem_nil, or_false] at hv; rcases hv with rfl | rfl | rfl | rfl | rfl | rfl | rfl <;> rfl) ?_; intro w13 hx hg hs; have BKF := Aside0.mk hx; have HBF := Aside0.mk (HBG.out.grown hg HBG.out.size (fun k e => by injection e with e; have := GEC.out; have := GET.out; have := GER.out; have := GEA.out; have := GEB.out; omega)); have HFF := Aside0.mk (Kd.F_grown HFG.out hg (fun k hk e => by injection e with e; exact HNA.out k hk e)); clear hx hg hs))
          refine bodyPost_ret (results_ct rfl _ _ ga 34 #[.int .i64 o, .slice Q (prependV l1 cA).length q, .int .u32 cN, .int .i64 (-1), .int .i64 (-1), .slice A5 l5.length c5, .slice A6 l6.length c6] (0, 0) _ rfl BKF.out Try.underlying34 rfl (by kernel_rfl)) rfl ?_
          exact HQ_.out _ _ ⟨o, Q, q, (prependV l1 cA), cN, (-1), (-1), A5, c5, l5, A6, c6, l6, true, rfl, ⟨HKL.out, HC.out.2.1, HC.out.2.2⟩, Kd.F_now HFF.out, Kd.C_below HR5.out HBF.out, Kd.C_below HR6.out HBF.out, HBF.out, by rw [HST.out, HOUT.out]; rfl, fun h => by cases h⟩
    · have HST := Aside0.mk hst
      clear hst
      skip
      go_wp2_with (first | ((with_reducible refine gate_store (t := 34) (p := 10) rfl ?_); refine store_new rfl 34 (.tmp 10) (.tmp 59) rfl [.int .i64 0, .slice none 0 0, .int .u32 0, .int .i64 0, .int .i64 0, .slice none 0 0, .slice none 0 0] (by rfl) (by rfl) BKA5.out (by rfl) (by kernel_rfl) (by intro v hv; simp only [List.mem_cons, List.not_mem_nil, or_false] at hv; rcases hv with rfl | rfl | rfl | rfl | rfl | rfl | rfl <;> rfl) ?_; intro w9 hx hg hs; have BKF := Aside0.mk hx; have HBF := Aside0.mk (HB5.out.grown hg HB5.out.size (fun k e => by injection e with e; have := GEC.out; have := GET.out; have := GER.out; have := GEA.out; omega)); clear hx hg hs))
      refine bodyPost_ret (results_ct rfl _ _ ga 34 #[.int .i64 0, .slice none 0 0, .int .u32 0, .int .i64 0, .int .i64 0, .slice none 0 0, .slice none 0 0] (0, 0) _ rfl BKF.out Try.underlying34 rfl (by kernel_rfl)) rfl ?_
      exact HQ_.out _ _ (by rw [show (expV (stopB cA tN tA al ll pe st fr) gd (outA cA cN tA o l1 nx md pr l5 l6)) = (0, [], 0, 0, 0, [], [], false) from by unfold expV; exact if_pos (Or.inl HST.out)]; exact ToldAt.zero HBF.out)
open Go.Proofs.Ytjdebhkdbdbepaa.Mid
set_option maxHeartbeats 4000000 in
set_option maxRecDepth 100000 in
open Go.Proofs.Ytjdebhkdbdbepaa.Mid in
theorem tells_not (k : Nat) (cA cI cN cH cG cL cS cD tN tA : Int) (AI : Option Addr) (nI cIn : Nat) (AO : Option Addr) (cOut : Nat) (lo : List S87) (ll : Bool) (pa pl pe o : Int) (A1 : Option Addr) (c1 : Nat) (l1 : List S69) (nx md pr : Int) (A5 : Option Addr) (c5 : Nat) (l5 : List Int) (A6 : Option Addr) (c6 : Nat) (l6 : List S73) (st fr : Int) (sm : Bool) (w : World) (hro : Kd.C k87 w AO lo.length lo) (hco : lo.length ≤ cOut) (hr1 : Kd.C k69 w A1 l1.length l1) (hc1 : l1.length ≤ c1) (hr5 : Kd.C (Kd.int .u32) w A5 l5.length l5) (hc5 : l5.length ≤ c5) (hr6 : Kd.C k73 w A6 l6.length l6) (hc6 : l6.length ≤ c6) (hs : interregnumlaw16_small.f k o l1 nx md pr l5 l6 = some sm) (hc : (!sm || decide (100 < (lo.length : Int))) = true) :
    Calls Try.prog 3 #[.agg #[.int .i64 cA, .int .u32 cI, .int .u32 cN, .int .i64 cH, .int .i64 cG, .int .i64 cL, .int .i64 cS, .int .i64 cD], .agg #[.int .i64 tN, .int .i64 tA, .slice AI nI cIn, .slice AO lo.length cOut], .bool ll, .agg #[.int .u32 pa, .int .i64 pl, .int .i64 pe, .int .i64 o, .slice A1 l1.length c1, .int .u32 nx, .int .i64 md, .int .i64 pr, .slice A5 l5.length c5, .slice A6 l6.length c6, .int .i64 st], .int .i64 fr] w fun e w' => e = .returned (.bool true) ∧ Below w.heap.size w w' := by
  have HS := Aside0.mk hs
  clear hs
  have HRO := Aside0.mk hro
  have HCO := Aside0.mk hco
  have HR1 := Aside0.mk hr1
  have HC1 := Aside0.mk hc1
  have HR5 := Aside0.mk hr5
  have HC5 := Aside0.mk hc5
  have HR6 := Aside0.mk hr6
  have HC6 := Aside0.mk hc6
  have hu24 := Try.underlying24
  have hu27 := Try.underlying27
  have hu36 := Try.underlying36
  have hu34 := Try.underlying34
  have HB := Aside0.mk (Below.refl w.heap.size w)
  clear hro hco hr1 hc1 hr5 hc5 hr6 hc6
  rcases sm with _ | _
  · clear hc
    go_enter Try.func3, Try.ntmps3
    go_upto_region 1 with (first | ((with_reducible refine gate_dst (N := 5) rfl ?_); refine box_event ?hg (N := 5) ?hd (cs := #[.int .i64 cA, .int .u32 cI, .int .u32 cN, .int .i64 cH, .int .i64 cG, .int .i64 cL, .int .i64 cS, .int .i64 cD]) (t := 24) ?hr ?_; (case hd => rfl); (case hg => rfl); (case hr => first | (go_simp; done) | (go_simp; rfl)); intro gc hg w1 hbox hb; have HB1 := Aside0.mk (below_step HB.out hb); have BKC1 := Aside0.mk hbox; have GEC := Aside0.mk (show w.heap.size ≤ gc from by rw [hg]; exact Nat.le_refl _); clear hbox hb hg) | ((with_reducible refine gate_dst (N := 6) rfl ?_); refine box_event ?hg (N := 6) ?hd (cs := #[.int .i64 tN, .int .i64 tA, .slice AI nI cIn, .slice AO lo.length cOut]) (t := 27) ?hr ?_; (case hd => rfl); (case hg => rfl); (case hr => first | (go_simp; done) | (go_simp; rfl)); intro gt hg w2 hbox hb; have BKC2 := Aside0.mk ((hb.block _ (blk_lt BKC1.out)).trans BKC1.out); have HB2 := Aside0.mk (below_step HB1.out hb); have BKT2 := Aside0.mk hbox; have GET := Aside0.mk (show gc < gt from by rw [hg]; exact blk_lt BKC1.out); clear hbox hb hg) | ((with_reducible refine gate_dst (N := 8) rfl ?_); refine box_event ?hg (N := 8) ?hd (cs := #[.int .u32 pa, .int .i64 pl, .int .i64 pe, .int .i64 o, .slice A1 l1.length c1, .int .u32 nx, .int .i64 md, .int .i64 pr, .slice A5 l5.length c5, .slice A6 l6.length c6, .int .i64 st]) (t := 36) ?hr ?_; (case hd => rfl); (case hg => rfl); (case hr => first | (go_simp; done) | (go_simp; rfl)); intro gr hg w3 hbox hb; have BKC3 := Aside0.mk ((hb.block _ (blk_lt BKC2.out)).trans BKC2.out); have BKT3 := Aside0.mk ((hb.block _ (blk_lt BKT2.out)).trans BKT2.out); have HB3 := Aside0.mk (below_step HB2.out hb); have BKR3 := Aside0.mk hbox; have GER := Aside0.mk (show gt < gr from by rw [hg]; exact blk_lt BKT2.out); clear hbox hb hg))
    go_wp2_with (first | ((with_reducible refine gate_dst (N := 16) rfl ?_); (try (refine gate_guard (by rfl) ?_; dsimp only)); refine load_blk rfl 34 (.tmp 15) rfl (g := gr) (off := 3) [.int .i64 o, .slice A1 l1.length c1, .int .u32 nx, .int .i64 md, .int .i64 pr, .slice A5 l5.length c5, .slice A6 l6.length c6] _ rfl BKR3.out (seven_x pa pl pe o A1 l1.length c1 nx md pr A5 l5.length c5 A6 l6.length c6 st) Try.underlying34 rfl (by kernel_rfl) ?_) | (go_at_call 8; refine (interregnumlaw16_small.calls k o A1 c1 l1 nx md pr A5 c5 l5 A6 c6 l6 false _ (Kd.C_below HR1.out HB3.out) HC1.out (Kd.C_below HR5.out HB3.out) HC5.out (Kd.C_below HR6.out HB3.out) HC6.out HS.out).mono ?_; rintro e w4 ⟨rfl, hb⟩; have BKC4 := Aside0.mk ((hb.block _ (blk_lt BKC3.out)).trans BKC3.out); have BKT4 := Aside0.mk ((hb.block _ (blk_lt BKT3.out)).trans BKT3.out); have BKR4 := Aside0.mk ((hb.block _ (blk_lt BKR3.out)).trans BKR3.out); have HB4 := Aside0.mk (below_step HB3.out hb); have hT3 : w4.cell? ⟨gt, 3, none⟩ = some (.slice AO lo.length cOut) := (blk_cell BKT4.out 3).trans rfl; clear hb) | (go_at_call 9; with_reducible refine (answers_ _).mono ?_; rintro e w5 ⟨rfl, hb⟩; have HB5 := Aside0.mk (below_step HB4.out hb); clear hb))
    go_ret
    exact ⟨rfl, HB5.out⟩
  · have e1 : decide (100 < (lo.length : Int)) = true := hc
    clear hc
    go_enter Try.func3, Try.ntmps3
    go_upto_region 1 with (first | ((with_reducible refine gate_dst (N := 5) rfl ?_); refine box_event ?hg (N := 5) ?hd (cs := #[.int .i64 cA, .int .u32 cI, .int .u32 cN, .int .i64 cH, .int .i64 cG, .int .i64 cL, .int .i64 cS, .int .i64 cD]) (t := 24) ?hr ?_; (case hd => rfl); (case hg => rfl); (case hr => first | (go_simp; done) | (go_simp; rfl)); intro gc hg w1 hbox hb; have HB1 := Aside0.mk (below_step HB.out hb); have BKC1 := Aside0.mk hbox; have GEC := Aside0.mk (show w.heap.size ≤ gc from by rw [hg]; exact Nat.le_refl _); clear hbox hb hg) | ((with_reducible refine gate_dst (N := 6) rfl ?_); refine box_event ?hg (N := 6) ?hd (cs := #[.int .i64 tN, .int .i64 tA, .slice AI nI cIn, .slice AO lo.length cOut]) (t := 27) ?hr ?_; (case hd => rfl); (case hg => rfl); (case hr => first | (go_simp; done) | (go_simp; rfl)); intro gt hg w2 hbox hb; have BKC2 := Aside0.mk ((hb.block _ (blk_lt BKC1.out)).trans BKC1.out); have HB2 := Aside0.mk (below_step HB1.out hb); have BKT2 := Aside0.mk hbox; have GET := Aside0.mk (show gc < gt from by rw [hg]; exact blk_lt BKC1.out); clear hbox hb hg) | ((with_reducible refine gate_dst (N := 8) rfl ?_); refine box_event ?hg (N := 8) ?hd (cs := #[.int .u32 pa, .int .i64 pl, .int .i64 pe, .int .i64 o, .slice A1 l1.length c1, .int .u32 nx, .int .i64 md, .int .i64 pr, .slice A5 l5.length c5, .slice A6 l6.length c6, .int .i64 st]) (t := 36) ?hr ?_; (case hd => rfl); (case hg => rfl); (case hr => first | (go_simp; done) | (go_simp; rfl)); intro gr hg w3 hbox hb; have BKC3 := Aside0.mk ((hb.block _ (blk_lt BKC2.out)).trans BKC2.out); have BKT3 := Aside0.mk ((hb.block _ (blk_lt BKT2.out)).trans BKT2.out); have HB3 := Aside0.mk (below_step HB2.out hb); have BKR3 := Aside0.mk hbox; have GER := Aside0.mk (show gt < gr from by rw [hg]; exact blk_lt BKT2.out); clear hbox hb hg))
    go_wp2_with (first | ((with_reducible refine gate_dst (N := 16) rfl ?_); (try (refine gate_guard (by rfl) ?_; dsimp only)); refine load_blk rfl 34 (.tmp 15) rfl (g := gr) (off := 3) [.int .i64 o, .slice A1 l1.length c1, .int .u32 nx, .int .i64 md, .int .i64 pr, .slice A5 l5.length c5, .slice A6 l6.length c6] _ rfl BKR3.out (seven_x pa pl pe o A1 l1.length c1 nx md pr A5 l5.length c5 A6 l6.length c6 st) Try.underlying34 rfl (by kernel_rfl) ?_) | (go_at_call 8; refine (interregnumlaw16_small.calls k o A1 c1 l1 nx md pr A5 c5 l5 A6 c6 l6 true _ (Kd.C_below HR1.out HB3.out) HC1.out (Kd.C_below HR5.out HB3.out) HC5.out (Kd.C_below HR6.out HB3.out) HC6.out HS.out).mono ?_; rintro e w4 ⟨rfl, hb⟩; have BKC4 := Aside0.mk ((hb.block _ (blk_lt BKC3.out)).trans BKC3.out); have BKT4 := Aside0.mk ((hb.block _ (blk_lt BKT3.out)).trans BKT3.out); have BKR4 := Aside0.mk ((hb.block _ (blk_lt BKR3.out)).trans BKR3.out); have HB4 := Aside0.mk (below_step HB3.out hb); have hT3 : w4.cell? ⟨gt, 3, none⟩ = some (.slice AO lo.length cOut) := (blk_cell BKT4.out 3).trans rfl; clear hb) | (go_at_call 9; with_reducible refine (answers_ _).mono ?_; rintro e w5 ⟨rfl, hb⟩; have HB5 := Aside0.mk (below_step HB4.out hb); clear hb))
    go_ret
    exact ⟨rfl, HB5.out⟩
set_option maxHeartbeats 4000000 in
set_option maxRecDepth 100000 in
open Go.Proofs.Ytjdebhkdbdbepaa.Mid in
theorem tells_same (k : Nat) (cA cI cN cH cG cL cS cD tN tA : Int) (AI : Option Addr) (nI cIn : Nat) (AO : Option Addr) (cOut : Nat) (lo : List S87) (ll : Bool) (pa pl pe o : Int) (A1 : Option Addr) (c1 : Nat) (l1 : List S69) (nx md pr : Int) (A5 : Option Addr) (c5 : Nat) (l5 : List Int) (A6 : Option Addr) (c6 : Nat) (l6 : List S73) (st fr : Int) (rp rq : Int) (al gd : Bool) (z0 : Int) (z1 : List S69) (z2 z3 z4 : Int) (z5 : List Int) (z6 : List S73) (zb : Bool) (w : World) (hro : Kd.C k87 w AO lo.length lo) (hco : lo.length ≤ cOut) (hr1 : Kd.C k69 w A1 l1.length l1) (hc1 : l1.length ≤ c1) (hr5 : Kd.C (Kd.int .u32) w A5 l5.length l5) (hc5 : l5.length ≤ c5) (hr6 : Kd.C k73 w A6 l6.length l6) (hc6 : l6.length ≤ c6) (hs : interregnumlaw16_small.f k o l1 nx md pr l5 l6 = some true) (hl : decide (100 < (lo.length : Int)) = false) (hp : policy_Apply.f lo pa pl = some (rp, al)) (hq : interregnumref11_Apply.f k lo pa pl = some (rq, al)) (hgo : stopB cA tN tA al ll pe st fr = false → (l1.length < 4000 ∧ (∀ y ∈ l1, slices_Clone_int_int.f y.f1 = some y.f1) ∧ (∀ y ∈ l1, y.f1.length < 4000) ∧ slices_Clone_uint32_uint32.f l5 = some l5 ∧ l6.length < 4000 ∧ (∀ r ∈ l6, bytes_Clone.f r.f2 = some r.f2)) ∧ attr_Good.f k (outA cA cN tA o l1 nx md pr l5 l6).1 (outA cA cN tA o l1 nx md pr l5 l6).2.1 (outA cA cN tA o l1 nx md pr l5 l6).2.2.1 (outA cA cN tA o l1 nx md pr l5 l6).2.2.2.1 (outA cA cN tA o l1 nx md pr l5 l6).2.2.2.2.1 (outA cA cN tA o l1 nx md pr l5 l6).2.2.2.2.2.1 (outA cA cN tA o l1 nx md pr l5 l6).2.2.2.2.2.2 = some gd) (hpp : interregnumref05_Prepend.f k l1 cA = some (prependV l1 cA)) (hgr : interregnumref05_GoodAttrs.f k (outA cA cN tA o l1 nx md pr l5 l6).1 (outA cA cN tA o l1 nx md pr l5 l6).2.1 (outA cA cN tA o l1 nx md pr l5 l6).2.2.1 (outA cA cN tA o l1 nx md pr l5 l6).2.2.2.1 (outA cA cN tA o l1 nx md pr l5 l6).2.2.2.2.1 (outA cA cN tA o l1 nx md pr l5 l6).2.2.2.2.2.1 (outA cA cN tA o l1 nx md pr l5 l6).2.2.2.2.2.2 = some gd) (hz : expV (stopB cA tN tA al ll pe st fr) gd (outA cA cN tA o l1 nx md pr l5 l6) = (z0, z1, z2, z3, z4, z5, z6, zb)) (hsm : interregnumref05_SameAttrs.f k z0 z1 z2 z3 z4 z5 z6 z0 z1 z2 z3 z4 z5 z6 = some true) :
    Calls Try.prog 3 #[.agg #[.int .i64 cA, .int .u32 cI, .int .u32 cN, .int .i64 cH, .int .i64 cG, .int .i64 cL, .int .i64 cS, .int .i64 cD], .agg #[.int .i64 tN, .int .i64 tA, .slice AI nI cIn, .slice AO lo.length cOut], .bool ll, .agg #[.int .u32 pa, .int .i64 pl, .int .i64 pe, .int .i64 o, .slice A1 l1.length c1, .int .u32 nx, .int .i64 md, .int .i64 pr, .slice A5 l5.length c5, .slice A6 l6.length c6, .int .i64 st], .int .i64 fr] w fun e w' => e = .returned (.bool true) ∧ Below w.heap.size w w' := by
  have HS := Aside0.mk hs
  have HP := Aside0.mk hp
  have HQ := Aside0.mk hq
  have HGO := Aside0.mk hgo
  have HPP := Aside0.mk hpp
  have HGR := Aside0.mk hgr
  have HZ := Aside0.mk hz
  have HSM := Aside0.mk hsm
  clear hs hp hq hgo hpp hgr hz hsm
  have HRO := Aside0.mk hro
  have HCO := Aside0.mk hco
  have HR1 := Aside0.mk hr1
  have HC1 := Aside0.mk hc1
  have HR5 := Aside0.mk hr5
  have HC5 := Aside0.mk hc5
  have HR6 := Aside0.mk hr6
  have HC6 := Aside0.mk hc6
  have hu24 := Try.underlying24
  have hu27 := Try.underlying27
  have hu36 := Try.underlying36
  have hu34 := Try.underlying34
  have HB := Aside0.mk (Below.refl w.heap.size w)
  clear hro hco hr1 hc1 hr5 hc5 hr6 hc6
  have e1 := hl
  clear hl
  go_enter Try.func3, Try.ntmps3
  go_upto_region 1 with (first | ((with_reducible refine gate_dst (N := 5) rfl ?_); refine box_event ?hg (N := 5) ?hd (cs := #[.int .i64 cA, .int .u32 cI, .int .u32 cN, .int .i64 cH, .int .i64 cG, .int .i64 cL, .int .i64 cS, .int .i64 cD]) (t := 24) ?hr ?_; (case hd => rfl); (case hg => rfl); (case hr => first | (go_simp; done) | (go_simp; rfl)); intro gc hg w1 hbox hb; have HB1 := Aside0.mk (below_step HB.out hb); have BKC1 := Aside0.mk hbox; have GEC := Aside0.mk (show w.heap.size ≤ gc from by rw [hg]; exact Nat.le_refl _); clear hbox hb hg) | ((with_reducible refine gate_dst (N := 6) rfl ?_); refine box_event ?hg (N := 6) ?hd (cs := #[.int .i64 tN, .int .i64 tA, .slice AI nI cIn, .slice AO lo.length cOut]) (t := 27) ?hr ?_; (case hd => rfl); (case hg => rfl); (case hr => first | (go_simp; done) | (go_simp; rfl)); intro gt hg w2 hbox hb; have BKC2 := Aside0.mk ((hb.block _ (blk_lt BKC1.out)).trans BKC1.out); have HB2 := Aside0.mk (below_step HB1.out hb); have BKT2 := Aside0.mk hbox; have GET := Aside0.mk (show gc < gt from by rw [hg]; exact blk_lt BKC1.out); clear hbox hb hg) | ((with_reducible refine gate_dst (N := 8) rfl ?_); refine box_event ?hg (N := 8) ?hd (cs := #[.int .u32 pa, .int .i64 pl, .int .i64 pe, .int .i64 o, .slice A1 l1.length c1, .int .u32 nx, .int .i64 md, .int .i64 pr, .slice A5 l5.length c5, .slice A6 l6.length c6, .int .i64 st]) (t := 36) ?hr ?_; (case hd => rfl); (case hg => rfl); (case hr => first | (go_simp; done) | (go_simp; rfl)); intro gr hg w3 hbox hb; have BKC3 := Aside0.mk ((hb.block _ (blk_lt BKC2.out)).trans BKC2.out); have BKT3 := Aside0.mk ((hb.block _ (blk_lt BKT2.out)).trans BKT2.out); have HB3 := Aside0.mk (below_step HB2.out hb); have BKR3 := Aside0.mk hbox; have GER := Aside0.mk (show gt < gr from by rw [hg]; exact blk_lt BKT2.out); clear hbox hb hg))
  go_upto_region 3 with (first | ((with_reducible refine gate_dst (N := 16) rfl ?_); (try (refine gate_guard (by rfl) ?_; dsimp only)); refine load_blk rfl 34 (.tmp 15) rfl (g := gr) (off := 3) [.int .i64 o, .slice A1 l1.length c1, .int .u32 nx, .int .i64 md, .int .i64 pr, .slice A5 l5.length c5, .slice A6 l6.length c6] _ rfl BKR3.out (seven_x pa pl pe o A1 l1.length c1 nx md pr A5 l5.length c5 A6 l6.length c6 st) Try.underlying34 rfl (by kernel_rfl) ?_) | (go_at_call 8; refine (interregnumlaw16_small.calls k o A1 c1 l1 nx md pr A5 c5 l5 A6 c6 l6 true _ (Kd.C_below HR1.out HB3.out) HC1.out (Kd.C_below HR5.out HB3.out) HC5.out (Kd.C_below HR6.out HB3.out) HC6.out HS.out).mono ?_; rintro e w4 ⟨rfl, hb⟩; have BKC4 := Aside0.mk ((hb.block _ (blk_lt BKC3.out)).trans BKC3.out); have BKT4 := Aside0.mk ((hb.block _ (blk_lt BKT3.out)).trans BKT3.out); have BKR4 := Aside0.mk ((hb.block _ (blk_lt BKR3.out)).trans BKR3.out); have HB4 := Aside0.mk (below_step HB3.out hb); have hT3 : w4.cell? ⟨gt, 3, none⟩ = some (.slice AO lo.length cOut) := (blk_cell BKT4.out 3).trans rfl; clear hb))
  clear hT3 e1
  go_upto_region 4 with (first | ((with_reducible refine gate_dst (N := 27) rfl ?_); (try (refine gate_guard (by rfl) ?_; dsimp only)); refine load_blk rfl 24 (.tmp 5) rfl (g := gc) (off := 0) [.int .i64 cA, .int .u32 cI, .int .u32 cN, .int .i64 cH, .int .i64 cG, .int .i64 cL, .int .i64 cS, .int .i64 cD] _ rfl BKC4.out (self_x _) Try.underlying24 rfl (by kernel_rfl) ?_) | ((with_reducible refine gate_dst (N := 28) rfl ?_); (try (refine gate_guard (by rfl) ?_; dsimp only)); refine load_blk rfl 27 (.tmp 6) rfl (g := gt) (off := 0) [.int .i64 tN, .int .i64 tA, .slice AI nI cIn, .slice AO lo.length cOut] _ rfl BKT4.out (self_x _) Try.underlying27 rfl (by kernel_rfl) ?_) | ((with_reducible refine gate_dst (N := 30) rfl ?_); (try (refine gate_guard (by rfl) ?_; dsimp only)); refine load_blk rfl 36 (.tmp 8) rfl (g := gr) (off := 0) [.int .u32 pa, .int .i64 pl, .int .i64 pe, .int .i64 o, .slice A1 l1.length c1, .int .u32 nx, .int .i64 md, .int .i64 pr, .slice A5 l5.length c5, .slice A6 l6.length c6, .int .i64 st] _ rfl BKR4.out (self_x _) Try.underlying36 rfl (by kernel_rfl) ?_) | (go_at_call 10; refine (export_told k cA cI cN cH cG cL cS cD tN tA AI nI cIn AO cOut lo ll pa pl pe o A1 c1 l1 nx md pr A5 c5 l5 A6 c6 l6 st fr rp al gd _ (Kd.C_below HRO.out HB4.out) HCO.out (Kd.C_below HR1.out HB4.out) HC1.out (Kd.C_below HR5.out HB4.out) HC5.out (Kd.C_below HR6.out HB4.out) HC6.out HP.out HGO.out _ (fun e w' h => h)).mono ?_; rintro e w5 ⟨x0, X1, y1, p1, x2, x3, x4, X5, y5, p5, X6, y6, p6, xb, rfl, hy, hk1, hk5, hk6, hb, hv, -⟩; rw [HZ.out] at hv; simp only [Prod.mk.injEq] at hv; obtain ⟨rfl, rfl, rfl, rfl, rfl, rfl, rfl, rfl⟩ := hv; have HY := Aside0.mk hy; have HK1 := Aside0.mk hk1; have HK5 := Aside0.mk hk5; have HK6 := Aside0.mk hk6; have BKC5 := Aside0.mk ((hb.block _ (blk_lt BKC4.out)).trans BKC4.out); have BKT5 := Aside0.mk ((hb.block _ (blk_lt BKT4.out)).trans BKT4.out); have BKR5 := Aside0.mk ((hb.block _ (blk_lt BKR4.out)).trans BKR4.out); have HB5 := Aside0.mk (below_step HB4.out hb); have HW5 := Aside0.mk (Below.refl w5.heap.size w5); clear hy hk1 hk5 hk6 hb) | ((with_reducible refine gate_dst (N := 11) rfl ?_); refine box_event ?hg (N := 11) ?hd (cs := #[.int .i64 0, .slice none 0 0, .int .u32 0, .int .i64 0, .int .i64 0, .slice none 0 0, .slice none 0 0]) (t := 34) ?hr ?_; (case hd => rfl); (case hg => rfl); (case hr => first | (go_simp; done) | (go_simp; rfl)); intro ga hg w6 hbox hb; have BKC6 := Aside0.mk ((hb.block _ (blk_lt BKC5.out)).trans BKC5.out); have BKT6 := Aside0.mk ((hb.block _ (blk_lt BKT5.out)).trans BKT5.out); have BKR6 := Aside0.mk ((hb.block _ (blk_lt BKR5.out)).trans BKR5.out); have HB6 := Aside0.mk (below_step HB5.out hb); have HW6 := Aside0.mk (below_step HW5.out hb); have BKA6 := Aside0.mk hbox; have GA3 := Aside0.mk (show w5.heap.size ≤ ga from by rw [hg]; exact Nat.le_refl _); have GEA := Aside0.mk (show gr < ga from by rw [hg]; exact blk_lt BKR5.out); clear hbox hb hg) | ((with_reducible refine gate_store (t := 34) (p := 11) rfl ?_); refine store_new rfl 34 (.tmp 11) (.tmp 33) rfl [.int .i64 z0, .slice X1 z1.length y1, .int .u32 z2, .int .i64 z3, .int .i64 z4, .slice X5 z5.length y5, .slice X6 z6.length y6] (by rfl) (by rfl) BKA6.out (by rfl) (by kernel_rfl) (by intro v hv; simp only [List.mem_cons, List.not_mem_nil, or_false] at hv; rcases hv with rfl | rfl | rfl | rfl | rfl | rfl | rfl <;> rfl) ?_; intro w7 hx hg hs; have BKA7 := Aside0.mk hx; have HB7 := Aside0.mk (HB6.out.grown hg HB6.out.size (fun k e => by injection e with e; have := GEC.out; have := GET.out; have := GER.out; have := GEA.out; omega)); have HW7 := Aside0.mk (HW6.out.grown hg HW6.out.size (fun k e => by injection e with e; have := GA3.out; omega)); have BKC7 := Aside0.mk ((hg.block _ (blk_lt BKC6.out) (fun e => by injection e with e; have := GEA.out; have := GER.out; have := GET.out; omega)).trans BKC6.out); have BKT7 := Aside0.mk ((hg.block _ (blk_lt BKT6.out) (fun e => by injection e with e; have := GEA.out; have := GER.out; have := GET.out; omega)).trans BKT6.out); have BKR7 := Aside0.mk ((hg.block _ (blk_lt BKR6.out) (fun e => by injection e with e; have := GEA.out; have := GER.out; have := GET.out; omega)).trans BKR6.out); clear hx hg hs))
  go_upto_region 5 with (first | ((with_reducible refine gate_dst (N := 36) rfl ?_); (try (refine gate_guard (by rfl) ?_; dsimp only)); refine load_blk rfl 24 (.tmp 5) rfl (g := gc) (off := 0) [.int .i64 cA, .int .u32 cI, .int .u32 cN, .int .i64 cH, .int .i64 cG, .int .i64 cL, .int .i64 cS, .int .i64 cD] _ rfl BKC7.out (self_x _) Try.underlying24 rfl (by kernel_rfl) ?_) | ((with_reducible refine gate_dst (N := 37) rfl ?_); (try (refine gate_guard (by rfl) ?_; dsimp only)); refine load_blk rfl 27 (.tmp 6) rfl (g := gt) (off := 0) [.int .i64 tN, .int .i64 tA, .slice AI nI cIn, .slice AO lo.length cOut] _ rfl BKT7.out (self_x _) Try.underlying27 rfl (by kernel_rfl) ?_) | ((with_reducible refine gate_dst (N := 39) rfl ?_); (try (refine gate_guard (by rfl) ?_; dsimp only)); refine load_blk rfl 36 (.tmp 8) rfl (g := gr) (off := 0) [.int .u32 pa, .int .i64 pl, .int .i64 pe, .int .i64 o, .slice A1 l1.length c1, .int .u32 nx, .int .i64 md, .int .i64 pr, .slice A5 l5.length c5, .slice A6 l6.length c6, .int .i64 st] _ rfl BKR7.out (self_x _) Try.underlying36 rfl (by kernel_rfl) ?_) | (go_at_call 11; refine (rexport_told k cA cI cN cH cG cL cS cD tN tA AI nI cIn AO cOut lo ll pa pl pe o A1 c1 l1 nx md pr A5 c5 l5 A6 c6 l6 st fr rq al gd _ (Kd.C_below HRO.out HB7.out) HCO.out (Kd.C_below HR1.out HB7.out) HC1.out (Kd.C_below HR5.out HB7.out) HC5.out (Kd.C_below HR6.out HB7.out) HC6.out HQ.out HPP.out HGR.out _ (fun e w' h => h)).mono ?_; rintro e w8 ⟨x0, U1, d1, p1, x2, x3, x4, U5, d5, p5, U6, d6, p6, xb, rfl, hy, hk1, hk5, hk6, hb, hv, -⟩; rw [HZ.out] at hv; simp only [Prod.mk.injEq] at hv; obtain ⟨rfl, rfl, rfl, rfl, rfl, rfl, rfl, rfl⟩ := hv; have HYU := Aside0.mk hy; have HU1 := Aside0.mk hk1; have HU5 := Aside0.mk hk5; have HU6 := Aside0.mk hk6; have BKA8 := Aside0.mk ((hb.block _ (blk_lt BKA7.out)).trans BKA7.out); have HB8 := Aside0.mk (below_step HB7.out hb); have HW8 := Aside0.mk (below_step HW7.out hb); have HV8 := Aside0.mk (Below.refl w8.heap.size w8); clear hy hk1 hk5 hk6 hb) | ((with_reducible refine gate_dst (N := 13) rfl ?_); refine box_event ?hg (N := 13) ?hd (cs := #[.int .i64 0, .slice none 0 0, .int .u32 0, .int .i64 0, .int .i64 0, .slice none 0 0, .slice none 0 0]) (t := 34) ?hr ?_; (case hd => rfl); (case hg => rfl); (case hr => first | (go_simp; done) | (go_simp; rfl)); intro gd_ hg w9 hbox hb; have BKA9 := Aside0.mk ((hb.block _ (blk_lt BKA8.out)).trans BKA8.out); have HB9 := Aside0.mk (below_step HB8.out hb); have HW9 := Aside0.mk (below_step HW8.out hb); have HV9 := Aside0.mk (below_step HV8.out hb); have BKD9 := Aside0.mk hbox; have GD3 := Aside0.mk (show w8.heap.size ≤ gd_ from by rw [hg]; exact Nat.le_refl _); have GAD := Aside0.mk (show ga < gd_ from by rw [hg]; exact blk_lt BKA8.out); clear hbox hb hg) | ((with_reducible refine gate_store (t := 34) (p := 13) rfl ?_); refine store_new rfl 34 (.tmp 13) (.tmp 42) rfl [.int .i64 z0, .slice U1 z1.length d1, .int .u32 z2, .int .i64 z3, .int .i64 z4, .slice U5 z5.length d5, .slice U6 z6.length d6] (by rfl) (by rfl) BKD9.out (by rfl) (by kernel_rfl) (by intro v hv; simp only [List.mem_cons, List.not_mem_nil, or_false] at hv; rcases hv with rfl | rfl | rfl | rfl | rfl | rfl | rfl <;> rfl) ?_; intro w10 hx hg hs; have BKD10 := Aside0.mk hx; have HB10 := Aside0.mk (HB9.out.grown hg HB9.out.size (fun k e => by injection e with e; have := GEC.out; have := GET.out; have := GER.out; have := GEA.out; have := GAD.out; have := GA3.out; omega)); have HW10 := Aside0.mk (HW9.out.grown hg HW9.out.size (fun k e => by injection e with e; have := GEC.out; have := GET.out; have := GER.out; have := GEA.out; have := GAD.out; have := GA3.out; omega)); have HV10 := Aside0.mk (HV9.out.grown hg HV9.out.size (fun k e => by injection e with e; have := GD3.out; omega)); have BKA10 := Aside0.mk ((hg.block _ (blk_lt BKA9.out) (fun e => by injection e with e; have := GAD.out; omega)).trans BKA9.out); clear hx hg hs))
  have e7 : (zb == zb) = true := by simp
  go_wp2_with (first | (go_at_call 9; with_reducible refine (answers_ _).mono ?_; rintro e w11 ⟨rfl, hb⟩; have BKA11 := Aside0.mk ((hb.block _ (blk_lt BKA10.out)).trans BKA10.out); have BKD11 := Aside0.mk ((hb.block _ (blk_lt BKD10.out)).trans BKD10.out); have HB11 := Aside0.mk (below_step HB10.out hb); have HW11 := Aside0.mk (below_step HW10.out hb); have HV11 := Aside0.mk (below_step HV10.out hb); clear hb) | ((with_reducible refine gate_dst (N := 51) rfl ?_); (try (refine gate_guard (by rfl) ?_; dsimp only)); refine load_blk rfl 34 (.tmp 11) rfl (g := ga) (off := 0) [.int .i64 z0, .slice X1 z1.length y1, .int .u32 z2, .int .i64 z3, .int .i64 z4, .slice X5 z5.length y5, .slice X6 z6.length y6] _ rfl BKA11.out (self_x _) Try.underlying34 rfl (by kernel_rfl) ?_) | ((with_reducible refine gate_dst (N := 52) rfl ?_); (try (refine gate_guard (by rfl) ?_; dsimp only)); refine load_blk rfl 34 (.tmp 13) rfl (g := gd_) (off := 0) [.int .i64 z0, .slice U1 z1.length d1, .int .u32 z2, .int .i64 z3, .int .i64 z4, .slice U5 z5.length d5, .slice U6 z6.length d6] _ rfl BKD11.out (self_x _) Try.underlying34 rfl (by kernel_rfl) ?_) | (go_at_call 12; refine (interregnumref05_SameAttrs.calls k z0 X1 y1 z1 z2 z3 z4 X5 y5 z5 X6 y6 z6 z0 U1 d1 z1 z2 z3 z4 U5 d5 z5 U6 d6 z6 true _ (Kd.C_below HK1.out HW11.out) HY.out.1 (Kd.C_below HK5.out HW11.out) HY.out.2.1 (Kd.C_below HK6.out HW11.out) HY.out.2.2 (Kd.C_below HU1.out HV11.out) HYU.out.1 (Kd.C_below HU5.out HV11.out) HYU.out.2.1 (Kd.C_below HU6.out HV11.out) HYU.out.2.2 HSM.out).mono ?_; rintro e w12 ⟨rfl, hb⟩; have HB12 := Aside0.mk (below_step HB11.out hb); clear hb))
  go_ret
  exact ⟨rfl, HB12.out⟩
instance seg_dec : DecidableEq S69 := fun x y => decidable_of_iff (x.f0 = y.f0 ∧ x.f1 = y.f1) (by cases x; cases y; simp)
def sameV (k : Nat) (v : Int × List S69 × Int × Int × Int × List Int × List S73 × Bool) : Prop := interregnumref05_SameAttrs.f k v.1 v.2.1 v.2.2.1 v.2.2.2.1 v.2.2.2.2.1 v.2.2.2.2.2.1 v.2.2.2.2.2.2.1 v.1 v.2.1 v.2.2.1 v.2.2.2.1 v.2.2.2.2.1 v.2.2.2.2.2.1 v.2.2.2.2.2.2.1 = some true
instance sameV_dec (k : Nat) (v : Int × List S69 × Int × Int × Int × List Int × List S73 × Bool) : Decidable (sameV k v) := by unfold sameV; infer_instance
def canGo (l1 : List S69) (l5 : List Int) (l6 : List S73) : Prop := l1.length < 4000 ∧ (∀ y ∈ l1, slices_Clone_int_int.f y.f1 = some y.f1) ∧ (∀ y ∈ l1, y.f1.length < 4000) ∧ slices_Clone_uint32_uint32.f l5 = some l5 ∧ l6.length < 4000 ∧ (∀ r ∈ l6, bytes_Clone.f r.f2 = some r.f2)
instance canGo_dec (l1 : List S69) (l5 : List Int) (l6 : List S73) : Decidable (canGo l1 l5 l6) := by unfold canGo; infer_instance
def tellsOk (k : Nat) (cA cN tA o : Int) (l1 : List S69) (nx md pr : Int) (l5 : List Int) (l6 : List S73) (stop gd : Bool) : Prop := attr_Good.f k (outA cA cN tA o l1 nx md pr l5 l6).1 (outA cA cN tA o l1 nx md pr l5 l6).2.1 (outA cA cN tA o l1 nx md pr l5 l6).2.2.1 (outA cA cN tA o l1 nx md pr l5 l6).2.2.2.1 (outA cA cN tA o l1 nx md pr l5 l6).2.2.2.2.1 (outA cA cN tA o l1 nx md pr l5 l6).2.2.2.2.2.1 (outA cA cN tA o l1 nx md pr l5 l6).2.2.2.2.2.2 = some gd ∧ interregnumref05_GoodAttrs.f k (outA cA cN tA o l1 nx md pr l5 l6).1 (outA cA cN tA o l1 nx md pr l5 l6).2.1 (outA cA cN tA o l1 nx md pr l5 l6).2.2.1 (outA cA cN tA o l1 nx md pr l5 l6).2.2.2.1 (outA cA cN tA o l1 nx md pr l5 l6).2.2.2.2.1 (outA cA cN tA o l1 nx md pr l5 l6).2.2.2.2.2.1 (outA cA cN tA o l1 nx md pr l5 l6).2.2.2.2.2.2 = some gd ∧ canGo l1 l5 l6 ∧ interregnumref05_Prepend.f k l1 cA = some (prependV l1 cA) ∧ sameV k (expV stop gd (outA cA cN tA o l1 nx md pr l5 l6))
instance tellsOk_dec (k : Nat) (cA cN tA o : Int) (l1 : List S69) (nx md pr : Int) (l5 : List Int) (l6 : List S73) (stop gd : Bool) : Decidable (tellsOk k cA cN tA o l1 nx md pr l5 l6 stop gd) := by unfold tellsOk; infer_instance
def interregnumlaw16_ExportTells.f (k : Nat) (cA cI cN cH cG cL cS cD tN tA : Int) (li lo : List S87) (ll : Bool) (pa pl pe o : Int) (l1 : List S69) (nx md pr : Int) (l5 : List Int) (l6 : List S73) (st fr : Int) : Option Bool :=
  (interregnumlaw16_small.f k o l1 nx md pr l5 l6).bind fun sm => if (!sm || decide (100 < (lo.length : Int))) = true then some true else (policy_Apply.f lo pa pl).bind fun p => (attr_Good.f k (outA cA cN tA o l1 nx md pr l5 l6).1 (outA cA cN tA o l1 nx md pr l5 l6).2.1 (outA cA cN tA o l1 nx md pr l5 l6).2.2.1 (outA cA cN tA o l1 nx md pr l5 l6).2.2.2.1 (outA cA cN tA o l1 nx md pr l5 l6).2.2.2.2.1 (outA cA cN tA o l1 nx md pr l5 l6).2.2.2.2.2.1 (outA cA cN tA o l1 nx md pr l5 l6).2.2.2.2.2.2).bind fun gd => if (interregnumref11_Apply.f k lo pa pl).map Prod.snd = some p.2 ∧ tellsOk k cA cN tA o l1 nx md pr l5 l6 (stopB cA tN tA p.2 ll pe st fr) gd then some true else none
theorem interregnumlaw16_ExportTells.calls (k : Nat) (cA cI cN cH cG cL cS cD tN tA : Int) (AI : Option Addr) (cIn : Nat) (li : List S87) (AO : Option Addr) (cOut : Nat) (lo : List S87) (ll : Bool) (pa pl pe o : Int) (A1 : Option Addr) (c1 : Nat) (l1 : List S69) (nx md pr : Int) (A5 : Option Addr) (c5 : Nat) (l5 : List Int) (A6 : Option Addr) (c6 : Nat) (l6 : List S73) (st fr : Int) (r : Bool) (w : World) (hr1_2 : Kd.C k87 w AI li.length li) (hc1_2 : li.length ≤ cIn) (hr1_3 : Kd.C k87 w AO lo.length lo) (hc1_3 : lo.length ≤ cOut) (hr3_4 : Kd.C k69 w A1 l1.length l1) (hc3_4 : l1.length ≤ c1) (hr3_8 : Kd.C (Kd.int .u32) w A5 l5.length l5) (hc3_8 : l5.length ≤ c5) (hr3_9 : Kd.C k73 w A6 l6.length l6) (hc3_9 : l6.length ≤ c6) (h : interregnumlaw16_ExportTells.f k cA cI cN cH cG cL cS cD tN tA li lo ll pa pl pe o l1 nx md pr l5 l6 st fr = some r) :
    Calls Try.prog 3 #[.agg #[.int .i64 cA, .int .u32 cI, .int .u32 cN, .int .i64 cH, .int .i64 cG, .int .i64 cL, .int .i64 cS, .int .i64 cD], .agg #[.int .i64 tN, .int .i64 tA, .slice AI li.length cIn, .slice AO lo.length cOut], .bool ll, .agg #[.int .u32 pa, .int .i64 pl, .int .i64 pe, .int .i64 o, .slice A1 l1.length c1, .int .u32 nx, .int .i64 md, .int .i64 pr, .slice A5 l5.length c5, .slice A6 l6.length c6, .int .i64 st], .int .i64 fr] w fun e w' => e = .returned (.bool r) ∧ Below w.heap.size w w' := by
  unfold interregnumlaw16_ExportTells.f at h
  obtain ⟨sm, e1, h⟩ := Option.bind_eq_some_iff.mp h
  by_cases hc : (!sm || decide (100 < (lo.length : Int))) = true
  · rw [if_pos hc] at h
    obtain rfl := Option.some.inj h
    exact tells_not k cA cI cN cH cG cL cS cD tN tA AI li.length cIn AO cOut lo ll pa pl pe o A1 c1 l1 nx md pr A5 c5 l5 A6 c6 l6 st fr sm w hr1_3 hc1_3 hr3_4 hc3_4 hr3_8 hc3_8 hr3_9 hc3_9 e1 hc
  · rw [if_neg hc] at h
    obtain ⟨⟨rp, al⟩, e2, h⟩ := Option.bind_eq_some_iff.mp h
    obtain ⟨gd, e3, h⟩ := Option.bind_eq_some_iff.mp h
    by_cases hok : (interregnumref11_Apply.f k lo pa pl).map Prod.snd = some al ∧ tellsOk k cA cN tA o l1 nx md pr l5 l6 (stopB cA tN tA al ll pe st fr) gd
    · rw [if_pos hok] at h
      obtain rfl := Option.some.inj h
      obtain ⟨ha, hgx, hgr, hg, hpp, hsm⟩ := hok
      obtain ⟨⟨rq, aq⟩, hap, ha2⟩ := Option.map_eq_some_iff.mp ha
      obtain rfl : aq = al := ha2
      have hc := Bool.not_eq_true _ ▸ hc
      rw [Bool.or_eq_false_iff] at hc
      obtain ⟨hs, hl⟩ := hc
      obtain rfl : sm = true := by cases sm with | true => rfl | false => cases hs
      unfold sameV at hsm
      obtain ⟨z0, z1, z2, z3, z4, z5, z6, zb, hz⟩ : ∃ z0 z1 z2 z3 z4 z5 z6 zb, expV (stopB cA tN tA aq ll pe st fr) gd (outA cA cN tA o l1 nx md pr l5 l6) = (z0, z1, z2, z3, z4, z5, z6, zb) := ⟨_, _, _, _, _, _, _, _, rfl⟩
      rw [hz] at hsm
      exact tells_same k cA cI cN cH cG cL cS cD tN tA AI li.length cIn AO cOut lo ll pa pl pe o A1 c1 l1 nx md pr A5 c5 l5 A6 c6 l6 st fr rp rq aq gd z0 z1 z2 z3 z4 z5 z6 zb w hr1_3 hc1_3 hr3_4 hc3_4 hr3_8 hc3_8 hr3_9 hc3_9 e1 hl e2 hap (fun _ => ⟨hg, e3⟩) hpp hgr hz hsm
    · rw [if_neg hok] at h
      cases h


end Go.Proofs.Ytjdebhkdbdbepaa.PExportTells
