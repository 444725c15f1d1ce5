-- Lean text by a program of this repo (wip/tools/printx.py), out of Lean's own print of the translation
import Derived.Shelf.Abstract
import Derived.RangeFuncLeaves
import Derived.RangeFuncCalls
import Derived.RangeFuncBound
import Derived.RangeFuncNested
import Derived.Test.YtjdebhkdbdbepaaOwn
import Derived.Test.YtjdebhkdbdbepaaInts
import Derived.Test.YtjdebhkdbdbepaaMid
import Derived.Test.YtjdebhkdbdbepaaHelp
import Derived.ArgAppend
import Derived.Test.YtjdebhkdbdbepaaPExportStaticx0
import Derived.Test.YtjdebhkdbdbepaaPExportStaticx3
import Derived.Test.YtjdebhkdbdbepaaPExportStaticx4
import Derived.Test.YtjdebhkdbdbepaaPExportStaticx5
import Derived.Test.YtjdebhkdbdbepaaPExportStaticx6
import Derived.Test.YtjdebhkdbdbepaaPExportStaticx7
import Derived.Test.YtjdebhkdbdbepaaPExportStaticx9
namespace Go.Proofs.Ytjdebhkdbdbepaa.PExportStatic
open Go.RowKit Go.Proofs.YtjdebhkdbdbepaaW.PrintWords Go.Proofs.YtjdebhkdbdbepaaW.PrintLast Go.Proofs.YtjdebhkdbdbepaaW.PrintMore
attribute [local go_sem] max2_int min2_int max_two min_two max_three min_three max_four min_four   -- for this text's walks alone
set_option linter.unusedVariables false
set_option linter.unusedSimpArgs false

/-! ### interregnumlaw16_ExportStatic: function 7 -/
-- FN rounds=1 making=1
-- IMPORT Derived.ArgAppend
-- IMPORT Derived.Test.YtjdebhkdbdbepaaHelp
-- IMPORT Derived.Test.YtjdebhkdbdbepaaMid
-- IMPORT Derived.Test.YtjdebhkdbdbepaaInts
-- IMPORT Derived.Test.YtjdebhkdbdbepaaOwn
-- IMPORT Derived.RangeFuncNested
-- IMPORT Derived.RangeFuncBound
-- IMPORT Derived.RangeFuncCalls
-- IMPORT Derived.RangeFuncLeaves
-- IMPORT Derived.Shelf.Abstract
open Go.Proofs.Ytjdebhkdbdbepaa.Ints
open Go.Proofs.Ytjdebhkdbdbepaa.Own
open Go.Proofs.Ytjdebhkdbdbepaa.Help
open Go.Proofs.Ytjdebhkdbdbepaa.Mid
set_option maxHeartbeats 4000000 in
set_option maxRecDepth 100000 in
open Go.Proofs.Ytjdebhkdbdbepaa.Mid in
theorem static_out (k : Nat) (cA cI cN cH cG cL cS cD tN tA : Int) (AI : Option Addr) (nI cIn : Nat) (AO : Option Addr) (cOut : Nat) (lo : List S87) (pa pl nx : Int) (h1 h2 : Bool) (w : World) (hro : Kd.C k87 w AO lo.length lo) (hco : lo.length ≤ cOut) (hh1 : interregnumref05_Hop.f nx = some h1) (hh2 : interregnumref05_Hop.f cN = some h2) (hout : (decide (50 < (lo.length : Int)) || (!h1 || (!h2 || (decide (cA < 1) || (decide (4294967295 < cA) || decide (tN < 0)))))) = true) :
    Calls Try.prog 7 #[.agg #[.int .i64 cA, .int .u32 cI, .int .u32 cN, .int .i64 cH, .int .i64 cG, .int .i64 cL, .int .i64 cS, .int .i64 cD], .agg #[.int .i64 tN, .int .i64 tA, .slice AI nI cIn, .slice AO lo.length cOut], .agg #[.int .u32 pa, .int .i64 pl], .int .u32 nx] w fun e w' => e = .returned (.bool true) ∧ Below w.heap.size w w' := by
  have HO := Aside0.mk hout
  clear hout
  have HRO := Aside0.mk hro
  have HCO := Aside0.mk hco
  have HH1 := Aside0.mk hh1
  have HH2 := Aside0.mk hh2
  have hu24 := Try.underlying24
  have hu27 := Try.underlying27
  have hu36 := Try.underlying36
  have hu34 := Try.underlying34
  have hu29 := Try.underlying29
  have HB := Aside0.mk (Below.refl w.heap.size w)
  clear hro hco hh1 hh2
  go_enter Try.func7, Try.ntmps7
  go_upto_region 1 with (first | ((with_reducible refine gate_dst (N := 4) rfl ?_); refine box_event ?hg (N := 4) ?hd (cs := #[.int .i64 cA, .int .u32 cI, .int .u32 cN, .int .i64 cH, .int .i64 cG, .int .i64 cL, .int .i64 cS, .int .i64 cD]) (t := 24) ?hr ?_; (case hd => rfl); (case hg => rfl); (case hr => first | (go_simp; done) | (go_simp; rfl)); intro gc hg w1 hbox hb; have HB1 := Aside0.mk (below_step HB.out hb); have BKC1 := Aside0.mk hbox; have GEC := Aside0.mk (show w.heap.size ≤ gc from by rw [hg]; exact Nat.le_refl _); clear hbox hb hg) | ((with_reducible refine gate_dst (N := 5) rfl ?_); refine box_event ?hg (N := 5) ?hd (cs := #[.int .i64 tN, .int .i64 tA, .slice AI nI cIn, .slice AO lo.length cOut]) (t := 27) ?hr ?_; (case hd => rfl); (case hg => rfl); (case hr => first | (go_simp; done) | (go_simp; rfl)); intro gt hg w2 hbox hb; have BKC2 := Aside0.mk ((hb.block _ (blk_lt BKC1.out)).trans BKC1.out); have HB2 := Aside0.mk (below_step HB1.out hb); have BKT2 := Aside0.mk hbox; have GET := Aside0.mk (show gc < gt from by rw [hg]; exact blk_lt BKC1.out); clear hbox hb hg) | ((with_reducible refine gate_dst (N := 6) rfl ?_); refine box_event ?hg (N := 6) ?hd (cs := #[.int .u32 pa, .int .i64 pl]) (t := 29) ?hr ?_; (case hd => rfl); (case hg => rfl); (case hr => first | (go_simp; done) | (go_simp; rfl)); intro gp hg w3 hbox hb; have BKC3 := Aside0.mk ((hb.block _ (blk_lt BKC2.out)).trans BKC2.out); have BKT3 := Aside0.mk ((hb.block _ (blk_lt BKT2.out)).trans BKT2.out); have HB3 := Aside0.mk (below_step HB2.out hb); have BKP3 := Aside0.mk hbox; have GEP := Aside0.mk (show gt < gp from by rw [hg]; exact blk_lt BKT2.out); clear hbox hb hg))
  have hC0 : w3.cell? ⟨gc, 0, none⟩ = some (.int .i64 cA) := (blk_cell BKC3.out 0).trans rfl
  have hC2 : w3.cell? ⟨gc, 2, none⟩ = some (.int .u32 cN) := (blk_cell BKC3.out 2).trans rfl
  have hT0 : w3.cell? ⟨gt, 0, none⟩ = some (.int .i64 tN) := (blk_cell BKT3.out 0).trans rfl
  have hT3 : w3.cell? ⟨gt, 3, none⟩ = some (.slice AO lo.length cOut) := (blk_cell BKT3.out 3).trans rfl
  go_cut [42] (fun v42 wc => v42 = .bool (decide (50 < (lo.length : Int)) || (!h1 || (!h2 || (decide (cA < 1) || (decide (4294967295 < cA) || decide (tN < 0)))))) ∧ Aside0 (Below w.heap.size w wc) ∧ Aside0 (wc.heap[gc]? = some (.cells #[.int .i64 cA, .int .u32 cI, .int .u32 cN, .int .i64 cH, .int .i64 cG, .int .i64 cL, .int .i64 cS, .int .i64 cD] 24 (0, 0))) ∧ Aside0 (wc.heap[gt]? = some (.cells #[.int .i64 tN, .int .i64 tA, .slice AI nI cIn, .slice AO lo.length cOut] 27 (0, 0))) ∧ Aside0 (wc.heap[gp]? = some (.cells #[.int .u32 pa, .int .i64 pl] 29 (0, 0))))
  case first =>
    rcases e1 : decide (50 < (lo.length : Int)) with _ | _
    · rcases h1 with _ | _
      · go_wp2_with (first | (go_at_call 21; with_reducible refine (interregnumref05_Hop.calls nx _ _ HH1.out).mono ?_; rintro e wh ⟨rfl, ⟨nd, rfl⟩⟩) | (go_at_call 21; with_reducible refine (interregnumref05_Hop.calls cN _ _ HH2.out).mono ?_; rintro e wh ⟨rfl, ⟨nd, rfl⟩⟩))
        go_meet
        case rel => exact ⟨by simp [e1], ⟨(by first | exact HB3.out | exact pw_below_drewN HB3.out _ | exact pw_below_drewN (pw_below_drewN HB3.out _) _)⟩, ⟨(by first | exact BKC3.out | exact blk_drewN BKC3.out _ | exact blk_drewN (blk_drewN BKC3.out _) _)⟩, ⟨(by first | exact BKT3.out | exact blk_drewN BKT3.out _ | exact blk_drewN (blk_drewN BKT3.out _) _)⟩, ⟨(by first | exact BKP3.out | exact blk_drewN BKP3.out _ | exact blk_drewN (blk_drewN BKP3.out _) _)⟩⟩
      · rcases h2 with _ | _
        · go_wp2_with (first | (go_at_call 21; with_reducible refine (interregnumref05_Hop.calls nx _ _ HH1.out).mono ?_; rintro e wh ⟨rfl, ⟨nd, rfl⟩⟩) | (go_at_call 21; with_reducible refine (interregnumref05_Hop.calls cN _ _ HH2.out).mono ?_; rintro e wh ⟨rfl, ⟨nd, rfl⟩⟩))
          go_meet
          case rel => exact ⟨by simp [e1], ⟨(by first | exact HB3.out | exact pw_below_drewN HB3.out _ | exact pw_below_drewN (pw_below_drewN HB3.out _) _)⟩, ⟨(by first | exact BKC3.out | exact blk_drewN BKC3.out _ | exact blk_drewN (blk_drewN BKC3.out _) _)⟩, ⟨(by first | exact BKT3.out | exact blk_drewN BKT3.out _ | exact blk_drewN (blk_drewN BKT3.out _) _)⟩, ⟨(by first | exact BKP3.out | exact blk_drewN BKP3.out _ | exact blk_drewN (blk_drewN BKP3.out _) _)⟩⟩
        · rcases e4 : decide (cA < 1) with _ | _
          · rcases e5 : decide (4294967295 < cA) with _ | _
            · rcases e6 : decide (tN < 0) with _ | _
              · go_wp2_with (first | (go_at_call 21; with_reducible refine (interregnumref05_Hop.calls nx _ _ HH1.out).mono ?_; rintro e wh ⟨rfl, ⟨nd, rfl⟩⟩) | (go_at_call 21; with_reducible refine (interregnumref05_Hop.calls cN _ _ HH2.out).mono ?_; rintro e wh ⟨rfl, ⟨nd, rfl⟩⟩))
                go_meet
                case rel => exact ⟨by simp [e1, e4, e5, e6], ⟨(by first | exact HB3.out | exact pw_below_drewN HB3.out _ | exact pw_below_drewN (pw_below_drewN HB3.out _) _)⟩, ⟨(by first | exact BKC3.out | exact blk_drewN BKC3.out _ | exact blk_drewN (blk_drewN BKC3.out _) _)⟩, ⟨(by first | exact BKT3.out | exact blk_drewN BKT3.out _ | exact blk_drewN (blk_drewN BKT3.out _) _)⟩, ⟨(by first | exact BKP3.out | exact blk_drewN BKP3.out _ | exact blk_drewN (blk_drewN BKP3.out _) _)⟩⟩
              · go_wp2_with (first | (go_at_call 21; with_reducible refine (interregnumref05_Hop.calls nx _ _ HH1.out).mono ?_; rintro e wh ⟨rfl, ⟨nd, rfl⟩⟩) | (go_at_call 21; with_reducible refine (interregnumref05_Hop.calls cN _ _ HH2.out).mono ?_; rintro e wh ⟨rfl, ⟨nd, rfl⟩⟩))
                go_meet
                case rel => exact ⟨by simp [e1, e4, e5, e6], ⟨(by first | exact HB3.out | exact pw_below_drewN HB3.out _ | exact pw_below_drewN (pw_below_drewN HB3.out _) _)⟩, ⟨(by first | exact BKC3.out | exact blk_drewN BKC3.out _ | exact blk_drewN (blk_drewN BKC3.out _) _)⟩, ⟨(by first | exact BKT3.out | exact blk_drewN BKT3.out _ | exact blk_drewN (blk_drewN BKT3.out _) _)⟩, ⟨(by first | exact BKP3.out | exact blk_drewN BKP3.out _ | exact blk_drewN (blk_drewN BKP3.out _) _)⟩⟩
            · go_wp2_with (first | (go_at_call 21; with_reducible refine (interregnumref05_Hop.calls nx _ _ HH1.out).mono ?_; rintro e wh ⟨rfl, ⟨nd, rfl⟩⟩) | (go_at_call 21; with_reducible refine (interregnumref05_Hop.calls cN _ _ HH2.out).mono ?_; rintro e wh ⟨rfl, ⟨nd, rfl⟩⟩))
              go_meet
              case rel => exact ⟨by simp [e1, e4, e5], ⟨(by first | exact HB3.out | exact pw_below_drewN HB3.out _ | exact pw_below_drewN (pw_below_drewN HB3.out _) _)⟩, ⟨(by first | exact BKC3.out | exact blk_drewN BKC3.out _ | exact blk_drewN (blk_drewN BKC3.out _) _)⟩, ⟨(by first | exact BKT3.out | exact blk_drewN BKT3.out _ | exact blk_drewN (blk_drewN BKT3.out _) _)⟩, ⟨(by first | exact BKP3.out | exact blk_drewN BKP3.out _ | exact blk_drewN (blk_drewN BKP3.out _) _)⟩⟩
          · go_wp2_with (first | (go_at_call 21; with_reducible refine (interregnumref05_Hop.calls nx _ _ HH1.out).mono ?_; rintro e wh ⟨rfl, ⟨nd, rfl⟩⟩) | (go_at_call 21; with_reducible refine (interregnumref05_Hop.calls cN _ _ HH2.out).mono ?_; rintro e wh ⟨rfl, ⟨nd, rfl⟩⟩))
            go_meet
            case rel => exact ⟨by simp [e1, e4], ⟨(by first | exact HB3.out | exact pw_below_drewN HB3.out _ | exact pw_below_drewN (pw_below_drewN HB3.out _) _)⟩, ⟨(by first | exact BKC3.out | exact blk_drewN BKC3.out _ | exact blk_drewN (blk_drewN BKC3.out _) _)⟩, ⟨(by first | exact BKT3.out | exact blk_drewN BKT3.out _ | exact blk_drewN (blk_drewN BKT3.out _) _)⟩, ⟨(by first | exact BKP3.out | exact blk_drewN BKP3.out _ | exact blk_drewN (blk_drewN BKP3.out _) _)⟩⟩
    · go_wp2_with (first | (go_at_call 21; with_reducible refine (interregnumref05_Hop.calls nx _ _ HH1.out).mono ?_; rintro e wh ⟨rfl, ⟨nd, rfl⟩⟩) | (go_at_call 21; with_reducible refine (interregnumref05_Hop.calls cN _ _ HH2.out).mono ?_; rintro e wh ⟨rfl, ⟨nd, rfl⟩⟩))
      go_meet
      case rel => exact ⟨by simp [e1], ⟨(by first | exact HB3.out | exact pw_below_drewN HB3.out _ | exact pw_below_drewN (pw_below_drewN HB3.out _) _)⟩, ⟨(by first | exact BKC3.out | exact blk_drewN BKC3.out _ | exact blk_drewN (blk_drewN BKC3.out _) _)⟩, ⟨(by first | exact BKT3.out | exact blk_drewN BKT3.out _ | exact blk_drewN (blk_drewN BKT3.out _) _)⟩, ⟨(by first | exact BKP3.out | exact blk_drewN BKP3.out _ | exact blk_drewN (blk_drewN BKP3.out _) _)⟩⟩
  case rest =>
    obtain ⟨rfl, HBc, BKCc, BKTc, BKPc⟩ := hcut
    rw [HO.out]
    go_wp2_with (go_at_call 9; with_reducible refine (answers_ _).mono ?_; rintro e w5 ⟨rfl, hb⟩; have HBZ := Aside0.mk (below_step HBc.out hb); clear hb)
    go_ret
    exact ⟨rfl, HBZ.out⟩
set_option maxHeartbeats 4000000 in
set_option maxRecDepth 100000 in
open Go.Proofs.Ytjdebhkdbdbepaa.Mid in
theorem static_deny (k : Nat) (cA cI cN cH cG cL cS cD tN tA : Int) (AI : Option Addr) (nI cIn : Nat) (AO : Option Addr) (cOut : Nat) (lo : List S87) (pa pl nx : Int) (h1 h2 : Bool) (rp rp2 : Int) (w : World) (hro : Kd.C k87 w AO lo.length lo) (hco : lo.length ≤ cOut) (hh1 : interregnumref05_Hop.f nx = some h1) (hh2 : interregnumref05_Hop.f cN = some h2) (hout : (decide (50 < (lo.length : Int)) || (!h1 || (!h2 || (decide (cA < 1) || (decide (4294967295 < cA) || decide (tN < 0)))))) = false) (hp : policy_Apply.f lo pa pl = some (rp, false)) (hp2 : interregnumref11_Apply.f k lo pa pl = some (rp2, false)) :
    Calls Try.prog 7 #[.agg #[.int .i64 cA, .int .u32 cI, .int .u32 cN, .int .i64 cH, .int .i64 cG, .int .i64 cL, .int .i64 cS, .int .i64 cD], .agg #[.int .i64 tN, .int .i64 tA, .slice AI nI cIn, .slice AO lo.length cOut], .agg #[.int .u32 pa, .int .i64 pl], .int .u32 nx] w fun e w' => e = .returned (.bool true) ∧ Below w.heap.size w w' := by
  have HO := Aside0.mk hout
  have HP := Aside0.mk hp
  have HP2 := Aside0.mk hp2
  clear hout hp hp2
  have HRO := Aside0.mk hro
  have HCO := Aside0.mk hco
  have HH1 := Aside0.mk hh1
  have HH2 := Aside0.mk hh2
  have hu24 := Try.underlying24
  have hu27 := Try.underlying27
  have hu36 := Try.underlying36
  have hu34 := Try.underlying34
  have hu29 := Try.underlying29
  have HB := Aside0.mk (Below.refl w.heap.size w)
  clear hro hco hh1 hh2
  go_enter Try.func7, Try.ntmps7
  go_upto_region 1 with (first | ((with_reducible refine gate_dst (N := 4) rfl ?_); refine box_event ?hg (N := 4) ?hd (cs := #[.int .i64 cA, .int .u32 cI, .int .u32 cN, .int .i64 cH, .int .i64 cG, .int .i64 cL, .int .i64 cS, .int .i64 cD]) (t := 24) ?hr ?_; (case hd => rfl); (case hg => rfl); (case hr => first | (go_simp; done) | (go_simp; rfl)); intro gc hg w1 hbox hb; have HB1 := Aside0.mk (below_step HB.out hb); have BKC1 := Aside0.mk hbox; have GEC := Aside0.mk (show w.heap.size ≤ gc from by rw [hg]; exact Nat.le_refl _); clear hbox hb hg) | ((with_reducible refine gate_dst (N := 5) rfl ?_); refine box_event ?hg (N := 5) ?hd (cs := #[.int .i64 tN, .int .i64 tA, .slice AI nI cIn, .slice AO lo.length cOut]) (t := 27) ?hr ?_; (case hd => rfl); (case hg => rfl); (case hr => first | (go_simp; done) | (go_simp; rfl)); intro gt hg w2 hbox hb; have BKC2 := Aside0.mk ((hb.block _ (blk_lt BKC1.out)).trans BKC1.out); have HB2 := Aside0.mk (below_step HB1.out hb); have BKT2 := Aside0.mk hbox; have GET := Aside0.mk (show gc < gt from by rw [hg]; exact blk_lt BKC1.out); clear hbox hb hg) | ((with_reducible refine gate_dst (N := 6) rfl ?_); refine box_event ?hg (N := 6) ?hd (cs := #[.int .u32 pa, .int .i64 pl]) (t := 29) ?hr ?_; (case hd => rfl); (case hg => rfl); (case hr => first | (go_simp; done) | (go_simp; rfl)); intro gp hg w3 hbox hb; have BKC3 := Aside0.mk ((hb.block _ (blk_lt BKC2.out)).trans BKC2.out); have BKT3 := Aside0.mk ((hb.block _ (blk_lt BKT2.out)).trans BKT2.out); have HB3 := Aside0.mk (below_step HB2.out hb); have BKP3 := Aside0.mk hbox; have GEP := Aside0.mk (show gt < gp from by rw [hg]; exact blk_lt BKT2.out); clear hbox hb hg))
  have hC0 : w3.cell? ⟨gc, 0, none⟩ = some (.int .i64 cA) := (blk_cell BKC3.out 0).trans rfl
  have hC2 : w3.cell? ⟨gc, 2, none⟩ = some (.int .u32 cN) := (blk_cell BKC3.out 2).trans rfl
  have hT0 : w3.cell? ⟨gt, 0, none⟩ = some (.int .i64 tN) := (blk_cell BKT3.out 0).trans rfl
  have hT3 : w3.cell? ⟨gt, 3, none⟩ = some (.slice AO lo.length cOut) := (blk_cell BKT3.out 3).trans rfl
  go_cut [42] (fun v42 wc => v42 = .bool (decide (50 < (lo.length : Int)) || (!h1 || (!h2 || (decide (cA < 1) || (decide (4294967295 < cA) || decide (tN < 0)))))) ∧ Aside0 (Below w.heap.size w wc) ∧ Aside0 (wc.heap[gc]? = some (.cells #[.int .i64 cA, .int .u32 cI, .int .u32 cN, .int .i64 cH, .int .i64 cG, .int .i64 cL, .int .i64 cS, .int .i64 cD] 24 (0, 0))) ∧ Aside0 (wc.heap[gt]? = some (.cells #[.int .i64 tN, .int .i64 tA, .slice AI nI cIn, .slice AO lo.length cOut] 27 (0, 0))) ∧ Aside0 (wc.heap[gp]? = some (.cells #[.int .u32 pa, .int .i64 pl] 29 (0, 0))))
  case first =>
    rcases e1 : decide (50 < (lo.length : Int)) with _ | _
    · rcases h1 with _ | _
      · go_wp2_with (first | (go_at_call 21; with_reducible refine (interregnumref05_Hop.calls nx _ _ HH1.out).mono ?_; rintro e wh ⟨rfl, ⟨nd, rfl⟩⟩) | (go_at_call 21; with_reducible refine (interregnumref05_Hop.calls cN _ _ HH2.out).mono ?_; rintro e wh ⟨rfl, ⟨nd, rfl⟩⟩))
        go_meet
        case rel => exact ⟨by simp [e1], ⟨(by first | exact HB3.out | exact pw_below_drewN HB3.out _ | exact pw_below_drewN (pw_below_drewN HB3.out _) _)⟩, ⟨(by first | exact BKC3.out | exact blk_drewN BKC3.out _ | exact blk_drewN (blk_drewN BKC3.out _) _)⟩, ⟨(by first | exact BKT3.out | exact blk_drewN BKT3.out _ | exact blk_drewN (blk_drewN BKT3.out _) _)⟩, ⟨(by first | exact BKP3.out | exact blk_drewN BKP3.out _ | exact blk_drewN (blk_drewN BKP3.out _) _)⟩⟩
      · rcases h2 with _ | _
        · go_wp2_with (first | (go_at_call 21; with_reducible refine (interregnumref05_Hop.calls nx _ _ HH1.out).mono ?_; rintro e wh ⟨rfl, ⟨nd, rfl⟩⟩) | (go_at_call 21; with_reducible refine (interregnumref05_Hop.calls cN _ _ HH2.out).mono ?_; rintro e wh ⟨rfl, ⟨nd, rfl⟩⟩))
          go_meet
          case rel => exact ⟨by simp [e1], ⟨(by first | exact HB3.out | exact pw_below_drewN HB3.out _ | exact pw_below_drewN (pw_below_drewN HB3.out _) _)⟩, ⟨(by first | exact BKC3.out | exact blk_drewN BKC3.out _ | exact blk_drewN (blk_drewN BKC3.out _) _)⟩, ⟨(by first | exact BKT3.out | exact blk_drewN BKT3.out _ | exact blk_drewN (blk_drewN BKT3.out _) _)⟩, ⟨(by first | exact BKP3.out | exact blk_drewN BKP3.out _ | exact blk_drewN (blk_drewN BKP3.out _) _)⟩⟩
        · rcases e4 : decide (cA < 1) with _ | _
          · rcases e5 : decide (4294967295 < cA) with _ | _
            · rcases e6 : decide (tN < 0) with _ | _
              · go_wp2_with (first | (go_at_call 21; with_reducible refine (interregnumref05_Hop.calls nx _ _ HH1.out).mono ?_; rintro e wh ⟨rfl, ⟨nd, rfl⟩⟩) | (go_at_call 21; with_reducible refine (interregnumref05_Hop.calls cN _ _ HH2.out).mono ?_; rintro e wh ⟨rfl, ⟨nd, rfl⟩⟩))
                go_meet
                case rel => exact ⟨by simp [e1, e4, e5, e6], ⟨(by first | exact HB3.out | exact pw_below_drewN HB3.out _ | exact pw_below_drewN (pw_below_drewN HB3.out _) _)⟩, ⟨(by first | exact BKC3.out | exact blk_drewN BKC3.out _ | exact blk_drewN (blk_drewN BKC3.out _) _)⟩, ⟨(by first | exact BKT3.out | exact blk_drewN BKT3.out _ | exact blk_drewN (blk_drewN BKT3.out _) _)⟩, ⟨(by first | exact BKP3.out | exact blk_drewN BKP3.out _ | exact blk_drewN (blk_drewN BKP3.out _) _)⟩⟩
              · go_wp2_with (first | (go_at_call 21; with_reducible refine (interregnumref05_Hop.calls nx _ _ HH1.out).mono ?_; rintro e wh ⟨rfl, ⟨nd, rfl⟩⟩) | (go_at_call 21; with_reducible refine (interregnumref05_Hop.calls cN _ _ HH2.out).mono ?_; rintro e wh ⟨rfl, ⟨nd, rfl⟩⟩))
                go_meet
                case rel => exact ⟨by simp [e1, e4, e5, e6], ⟨(by first | exact HB3.out | exact pw_below_drewN HB3.out _ | exact pw_below_drewN (pw_below_drewN HB3.out _) _)⟩, ⟨(by first | exact BKC3.out | exact blk_drewN BKC3.out _ | exact blk_drewN (blk_drewN BKC3.out _) _)⟩, ⟨(by first | exact BKT3.out | exact blk_drewN BKT3.out _ | exact blk_drewN (blk_drewN BKT3.out _) _)⟩, ⟨(by first | exact BKP3.out | exact blk_drewN BKP3.out _ | exact blk_drewN (blk_drewN BKP3.out _) _)⟩⟩
            · go_wp2_with (first | (go_at_call 21; with_reducible refine (interregnumref05_Hop.calls nx _ _ HH1.out).mono ?_; rintro e wh ⟨rfl, ⟨nd, rfl⟩⟩) | (go_at_call 21; with_reducible refine (interregnumref05_Hop.calls cN _ _ HH2.out).mono ?_; rintro e wh ⟨rfl, ⟨nd, rfl⟩⟩))
              go_meet
              case rel => exact ⟨by simp [e1, e4, e5], ⟨(by first | exact HB3.out | exact pw_below_drewN HB3.out _ | exact pw_below_drewN (pw_below_drewN HB3.out _) _)⟩, ⟨(by first | exact BKC3.out | exact blk_drewN BKC3.out _ | exact blk_drewN (blk_drewN BKC3.out _) _)⟩, ⟨(by first | exact BKT3.out | exact blk_drewN BKT3.out _ | exact blk_drewN (blk_drewN BKT3.out _) _)⟩, ⟨(by first | exact BKP3.out | exact blk_drewN BKP3.out _ | exact blk_drewN (blk_drewN BKP3.out _) _)⟩⟩
          · go_wp2_with (first | (go_at_call 21; with_reducible refine (interregnumref05_Hop.calls nx _ _ HH1.out).mono ?_; rintro e wh ⟨rfl, ⟨nd, rfl⟩⟩) | (go_at_call 21; with_reducible refine (interregnumref05_Hop.calls cN _ _ HH2.out).mono ?_; rintro e wh ⟨rfl, ⟨nd, rfl⟩⟩))
            go_meet
            case rel => exact ⟨by simp [e1, e4], ⟨(by first | exact HB3.out | exact pw_below_drewN HB3.out _ | exact pw_below_drewN (pw_below_drewN HB3.out _) _)⟩, ⟨(by first | exact BKC3.out | exact blk_drewN BKC3.out _ | exact blk_drewN (blk_drewN BKC3.out _) _)⟩, ⟨(by first | exact BKT3.out | exact blk_drewN BKT3.out _ | exact blk_drewN (blk_drewN BKT3.out _) _)⟩, ⟨(by first | exact BKP3.out | exact blk_drewN BKP3.out _ | exact blk_drewN (blk_drewN BKP3.out _) _)⟩⟩
    · go_wp2_with (first | (go_at_call 21; with_reducible refine (interregnumref05_Hop.calls nx _ _ HH1.out).mono ?_; rintro e wh ⟨rfl, ⟨nd, rfl⟩⟩) | (go_at_call 21; with_reducible refine (interregnumref05_Hop.calls cN _ _ HH2.out).mono ?_; rintro e wh ⟨rfl, ⟨nd, rfl⟩⟩))
      go_meet
      case rel => exact ⟨by simp [e1], ⟨(by first | exact HB3.out | exact pw_below_drewN HB3.out _ | exact pw_below_drewN (pw_below_drewN HB3.out _) _)⟩, ⟨(by first | exact BKC3.out | exact blk_drewN BKC3.out _ | exact blk_drewN (blk_drewN BKC3.out _) _)⟩, ⟨(by first | exact BKT3.out | exact blk_drewN BKT3.out _ | exact blk_drewN (blk_drewN BKT3.out _) _)⟩, ⟨(by first | exact BKP3.out | exact blk_drewN BKP3.out _ | exact blk_drewN (blk_drewN BKP3.out _) _)⟩⟩
  case rest =>
    obtain ⟨rfl, HBc, BKCc, BKTc, BKPc⟩ := hcut
    rw [HO.out]
    have hD0 : wc.cell? ⟨gc, 0, none⟩ = some (.int .i64 cA) := (blk_cell BKCc.out 0).trans rfl
    go_upto_region 4 with (first | ((with_reducible refine gate_dst (N := 45) rfl ?_); (try (refine gate_guard (by rfl) ?_; dsimp only)); refine load_blk rfl 24 (.tmp 4) rfl (g := gc) (off := 0) [.int .i64 cA, .int .u32 cI, .int .u32 cN, .int .i64 cH, .int .i64 cG, .int .i64 cL, .int .i64 cS, .int .i64 cD] _ rfl BKCc.out (self_x _) Try.underlying24 rfl (by kernel_rfl) ?_) | ((with_reducible refine gate_dst (N := 46) rfl ?_); (try (refine gate_guard (by rfl) ?_; dsimp only)); refine load_blk rfl 27 (.tmp 5) rfl (g := gt) (off := 0) [.int .i64 tN, .int .i64 tA, .slice AI nI cIn, .slice AO lo.length cOut] _ rfl BKTc.out (self_x _) Try.underlying27 rfl (by kernel_rfl) ?_) | ((with_reducible refine gate_dst (N := 47) rfl ?_); (try (refine gate_guard (by rfl) ?_; dsimp only)); refine load_blk rfl 29 (.tmp 6) rfl (g := gp) (off := 0) [.int .u32 pa, .int .i64 pl] _ rfl BKPc.out (self_x _) Try.underlying29 rfl (by kernel_rfl) ?_) | (go_at_call 10; refine (export_stop k cA cI cN cH cG cL cS cD tN tA AI nI cIn AO cOut lo false pa pl (-1) 0 none 0 [] nx (-1) (-1) none 0 [] none 0 [] 0 cA rp false true _ (Kd.C_below HRO.out HBc.out) HCO.out (Kd.C_nil _ _) (Nat.le_refl _) (Kd.C_nil _ _) (Nat.le_refl _) (Kd.C_nil _ _) (Nat.le_refl _) HP.out (by simp [stopB])).mono ?_; rintro e w5 ⟨rfl, hb⟩; have BKC5 := Aside0.mk ((hb.block _ (blk_lt BKCc.out)).trans BKCc.out); have BKT5 := Aside0.mk ((hb.block _ (blk_lt BKTc.out)).trans BKTc.out); have BKP5 := Aside0.mk ((hb.block _ (blk_lt BKPc.out)).trans BKPc.out); have HB5 := Aside0.mk (below_step HBc.out hb); clear hb) | ((with_reducible refine gate_dst (N := 9) rfl ?_); refine box_event ?hg (N := 9) ?hd (cs := #[.int .i64 0, .slice none 0 0, .int .u32 0, .int .i64 0, .int .i64 0, .slice none 0 0, .slice none 0 0]) (t := 34) ?hr ?_; (case hd => rfl); (case hg => rfl); (case hr => first | (go_simp; done) | (go_simp; rfl)); intro ga hg w6 hbox hb; have BKC6 := Aside0.mk ((hb.block _ (blk_lt BKC5.out)).trans BKC5.out); have BKT6 := Aside0.mk ((hb.block _ (blk_lt BKT5.out)).trans BKT5.out); have BKP6 := Aside0.mk ((hb.block _ (blk_lt BKP5.out)).trans BKP5.out); have HB6 := Aside0.mk (below_step HB5.out hb); have BKA6 := Aside0.mk hbox; have GEA := Aside0.mk (show gp < ga from by rw [hg]; exact blk_lt BKP5.out); clear hbox hb hg) | ((with_reducible refine gate_store (t := 34) (p := 9) rfl ?_); refine store_new rfl 34 (.tmp 9) (.tmp 54) rfl [.int .i64 0, .slice none 0 0, .int .u32 0, .int .i64 0, .int .i64 0, .slice none 0 0, .slice none 0 0] (by rfl) (by rfl) BKA6.out (by rfl) (by kernel_rfl) (by intro v hv; simp only [List.mem_cons, List.not_mem_nil, or_false] at hv; rcases hv with rfl | rfl | rfl | rfl | rfl | rfl | rfl <;> rfl) ?_; intro w7 hx hg hs; have BKA7 := Aside0.mk hx; have HB7 := Aside0.mk (HB6.out.grown hg HB6.out.size (fun k e => by injection e with e; have := GEC.out; have := GET.out; have := GEP.out; have := GEA.out; omega)); have BKC7 := Aside0.mk ((hg.block _ (blk_lt BKC6.out) (fun e => by injection e with e; have := GEA.out; have := GEP.out; have := GET.out; omega)).trans BKC6.out); have BKT7 := Aside0.mk ((hg.block _ (blk_lt BKT6.out) (fun e => by injection e with e; have := GEA.out; have := GEP.out; have := GET.out; omega)).trans BKT6.out); have BKP7 := Aside0.mk ((hg.block _ (blk_lt BKP6.out) (fun e => by injection e with e; have := GEA.out; have := GEP.out; have := GET.out; omega)).trans BKP6.out); clear hx hg hs))
    have hT3 : w7.cell? ⟨gt, 3, none⟩ = some (.slice AO lo.length cOut) := (blk_cell BKT7.out 3).trans rfl
    clear hD0
    go_upto_region 5 with (first | ((with_reducible refine gate_dst (N := 59) rfl ?_); (try (refine gate_guard (by rfl) ?_; dsimp only)); refine load_blk rfl 29 (.tmp 6) rfl (g := gp) (off := 0) [.int .u32 pa, .int .i64 pl] _ rfl BKP7.out (self_x _) Try.underlying29 rfl (by kernel_rfl) ?_) | (go_at_call 22; refine (interregnumref11_Apply.calls k AO cOut lo pa pl rp2 false _ (Kd.C_below HRO.out HB7.out) HCO.out HP2.out).mono ?_; rintro e w8 ⟨rfl, hb⟩; have BKC8 := Aside0.mk ((hb.block _ (blk_lt BKC7.out)).trans BKC7.out); have BKT8 := Aside0.mk ((hb.block _ (blk_lt BKT7.out)).trans BKT7.out); have BKP8 := Aside0.mk ((hb.block _ (blk_lt BKP7.out)).trans BKP7.out); have BKA8 := Aside0.mk ((hb.block _ (blk_lt BKA7.out)).trans BKA7.out); have HB8 := Aside0.mk (below_step HB7.out hb); clear hb))
    clear hT3
    go_wp2_with (go_at_call 9; with_reducible refine (answers_ _).mono ?_; rintro e w9 ⟨rfl, hb⟩; have HB9 := Aside0.mk (below_step HB8.out hb); clear hb)
    go_ret
    exact ⟨rfl, HB9.out⟩
set_option maxHeartbeats 4000000 in
set_option maxRecDepth 100000 in
open Go.Proofs.Ytjdebhkdbdbepaa.Mid in
theorem static_int (k : Nat) (cA cI cN cH cG cL cS cD tN tA : Int) (AI : Option Addr) (nI cIn : Nat) (AO : Option Addr) (cOut : Nat) (lo : List S87) (pa pl nx : Int) (h1 h2 : Bool) (rp rp2 : Int) (w : World) (hro : Kd.C k87 w AO lo.length lo) (hco : lo.length ≤ cOut) (hh1 : interregnumref05_Hop.f nx = some h1) (hh2 : interregnumref05_Hop.f cN = some h2) (hout : (decide (50 < (lo.length : Int)) || (!h1 || (!h2 || (decide (cA < 1) || (decide (4294967295 < cA) || decide (tN < 0)))))) = false) (hp : policy_Apply.f lo pa pl = some (rp, true)) (hp2 : interregnumref11_Apply.f k lo pa pl = some (rp2, true)) (hst : stopB cA tN tA true false (-1) 0 cA = false) (heq : tA = cA) (hgd : attr_Good.f k 0 [] nx (-1) 100 [] [] = some true) :
    Calls Try.prog 7 #[.agg #[.int .i64 cA, .int .u32 cI, .int .u32 cN, .int .i64 cH, .int .i64 cG, .int .i64 cL, .int .i64 cS, .int .i64 cD], .agg #[.int .i64 tN, .int .i64 tA, .slice AI nI cIn, .slice AO lo.length cOut], .agg #[.int .u32 pa, .int .i64 pl], .int .u32 nx] w fun e w' => e = .returned (.bool true) ∧ Below w.heap.size w w' := by
  have HO := Aside0.mk hout
  have HP := Aside0.mk hp
  have HP2 := Aside0.mk hp2
  clear hout hp hp2
  have HST := Aside0.mk hst
  have HEQ := Aside0.mk heq
  have HGD := Aside0.mk hgd
  clear hst heq hgd
  have HRO := Aside0.mk hro
  have HCO := Aside0.mk hco
  have HH1 := Aside0.mk hh1
  have HH2 := Aside0.mk hh2
  have hu24 := Try.underlying24
  have hu27 := Try.underlying27
  have hu36 := Try.underlying36
  have hu34 := Try.underlying34
  have hu29 := Try.underlying29
  have HB := Aside0.mk (Below.refl w.heap.size w)
  clear hro hco hh1 hh2
  go_enter Try.func7, Try.ntmps7
  go_upto_region 1 with (first | ((with_reducible refine gate_dst (N := 4) rfl ?_); refine box_event ?hg (N := 4) ?hd (cs := #[.int .i64 cA, .int .u32 cI, .int .u32 cN, .int .i64 cH, .int .i64 cG, .int .i64 cL, .int .i64 cS, .int .i64 cD]) (t := 24) ?hr ?_; (case hd => rfl); (case hg => rfl); (case hr => first | (go_simp; done) | (go_simp; rfl)); intro gc hg w1 hbox hb; have HB1 := Aside0.mk (below_step HB.out hb); have BKC1 := Aside0.mk hbox; have GEC := Aside0.mk (show w.heap.size ≤ gc from by rw [hg]; exact Nat.le_refl _); clear hbox hb hg) | ((with_reducible refine gate_dst (N := 5) rfl ?_); refine box_event ?hg (N := 5) ?hd (cs := #[.int .i64 tN, .int .i64 tA, .slice AI nI cIn, .slice AO lo.length cOut]) (t := 27) ?hr ?_; (case hd => rfl); (case hg => rfl); (case hr => first | (go_simp; done) | (go_simp; rfl)); intro gt hg w2 hbox hb; have BKC2 := Aside0.mk ((hb.block _ (blk_lt BKC1.out)).trans BKC1.out); have HB2 := Aside0.mk (below_step HB1.out hb); have BKT2 := Aside0.mk hbox; have GET := Aside0.mk (show gc < gt from by rw [hg]; exact blk_lt BKC1.out); clear hbox hb hg) | ((with_reducible refine gate_dst (N := 6) rfl ?_); refine box_event ?hg (N := 6) ?hd (cs := #[.int .u32 pa, .int .i64 pl]) (t := 29) ?hr ?_; (case hd => rfl); (case hg => rfl); (case hr => first | (go_simp; done) | (go_simp; rfl)); intro gp hg w3 hbox hb; have BKC3 := Aside0.mk ((hb.block _ (blk_lt BKC2.out)).trans BKC2.out); have BKT3 := Aside0.mk ((hb.block _ (blk_lt BKT2.out)).trans BKT2.out); have HB3 := Aside0.mk (below_step HB2.out hb); have BKP3 := Aside0.mk hbox; have GEP := Aside0.mk (show gt < gp from by rw [hg]; exact blk_lt BKT2.out); clear hbox hb hg))
  have hC0 : w3.cell? ⟨gc, 0, none⟩ = some (.int .i64 cA) := (blk_cell BKC3.out 0).trans rfl
  have hC2 : w3.cell? ⟨gc, 2, none⟩ = some (.int .u32 cN) := (blk_cell BKC3.out 2).trans rfl
  have hT0 : w3.cell? ⟨gt, 0, none⟩ = some (.int .i64 tN) := (blk_cell BKT3.out 0).trans rfl
  have hT3 : w3.cell? ⟨gt, 3, none⟩ = some (.slice AO lo.length cOut) := (blk_cell BKT3.out 3).trans rfl
  go_cut [42] (fun v42 wc => v42 = .bool (decide (50 < (lo.length : Int)) || (!h1 || (!h2 || (decide (cA < 1) || (decide (4294967295 < cA) || decide (tN < 0)))))) ∧ Aside0 (Below w.heap.size w wc) ∧ Aside0 (wc.heap[gc]? = some (.cells #[.int .i64 cA, .int .u32 cI, .int .u32 cN, .int .i64 cH, .int .i64 cG, .int .i64 cL, .int .i64 cS, .int .i64 cD] 24 (0, 0))) ∧ Aside0 (wc.heap[gt]? = some (.cells #[.int .i64 tN, .int .i64 tA, .slice AI nI cIn, .slice AO lo.length cOut] 27 (0, 0))) ∧ Aside0 (wc.heap[gp]? = some (.cells #[.int .u32 pa, .int .i64 pl] 29 (0, 0))))
  case first =>
    rcases e1 : decide (50 < (lo.length : Int)) with _ | _
    · rcases h1 with _ | _
      · go_wp2_with (first | (go_at_call 21; with_reducible refine (interregnumref05_Hop.calls nx _ _ HH1.out).mono ?_; rintro e wh ⟨rfl, ⟨nd, rfl⟩⟩) | (go_at_call 21; with_reducible refine (interregnumref05_Hop.calls cN _ _ HH2.out).mono ?_; rintro e wh ⟨rfl, ⟨nd, rfl⟩⟩))
        go_meet
        case rel => exact ⟨by simp [e1], ⟨(by first | exact HB3.out | exact pw_below_drewN HB3.out _ | exact pw_below_drewN (pw_below_drewN HB3.out _) _)⟩, ⟨(by first | exact BKC3.out | exact blk_drewN BKC3.out _ | exact blk_drewN (blk_drewN BKC3.out _) _)⟩, ⟨(by first | exact BKT3.out | exact blk_drewN BKT3.out _ | exact blk_drewN (blk_drewN BKT3.out _) _)⟩, ⟨(by first | exact BKP3.out | exact blk_drewN BKP3.out _ | exact blk_drewN (blk_drewN BKP3.out _) _)⟩⟩
      · rcases h2 with _ | _
        · go_wp2_with (first | (go_at_call 21; with_reducible refine (interregnumref05_Hop.calls nx _ _ HH1.out).mono ?_; rintro e wh ⟨rfl, ⟨nd, rfl⟩⟩) | (go_at_call 21; with_reducible refine (interregnumref05_Hop.calls cN _ _ HH2.out).mono ?_; rintro e wh ⟨rfl, ⟨nd, rfl⟩⟩))
          go_meet
          case rel => exact ⟨by simp [e1], ⟨(by first | exact HB3.out | exact pw_below_drewN HB3.out _ | exact pw_below_drewN (pw_below_drewN HB3.out _) _)⟩, ⟨(by first | exact BKC3.out | exact blk_drewN BKC3.out _ | exact blk_drewN (blk_drewN BKC3.out _) _)⟩, ⟨(by first | exact BKT3.out | exact blk_drewN BKT3.out _ | exact blk_drewN (blk_drewN BKT3.out _) _)⟩, ⟨(by first | exact BKP3.out | exact blk_drewN BKP3.out _ | exact blk_drewN (blk_drewN BKP3.out _) _)⟩⟩
        · rcases e4 : decide (cA < 1) with _ | _
          · rcases e5 : decide (4294967295 < cA) with _ | _
            · rcases e6 : decide (tN < 0) with _ | _
              · go_wp2_with (first | (go_at_call 21; with_reducible refine (interregnumref05_Hop.calls nx _ _ HH1.out).mono ?_; rintro e wh ⟨rfl, ⟨nd, rfl⟩⟩) | (go_at_call 21; with_reducible refine (interregnumref05_Hop.calls cN _ _ HH2.out).mono ?_; rintro e wh ⟨rfl, ⟨nd, rfl⟩⟩))
                go_meet
                case rel => exact ⟨by simp [e1, e4, e5, e6], ⟨(by first | exact HB3.out | exact pw_below_drewN HB3.out _ | exact pw_below_drewN (pw_below_drewN HB3.out _) _)⟩, ⟨(by first | exact BKC3.out | exact blk_drewN BKC3.out _ | exact blk_drewN (blk_drewN BKC3.out _) _)⟩, ⟨(by first | exact BKT3.out | exact blk_drewN BKT3.out _ | exact blk_drewN (blk_drewN BKT3.out _) _)⟩, ⟨(by first | exact BKP3.out | exact blk_drewN BKP3.out _ | exact blk_drewN (blk_drewN BKP3.out _) _)⟩⟩
              · go_wp2_with (first | (go_at_call 21; with_reducible refine (interregnumref05_Hop.calls nx _ _ HH1.out).mono ?_; rintro e wh ⟨rfl, ⟨nd, rfl⟩⟩) | (go_at_call 21; with_reducible refine (interregnumref05_Hop.calls cN _ _ HH2.out).mono ?_; rintro e wh ⟨rfl, ⟨nd, rfl⟩⟩))
                go_meet
                case rel => exact ⟨by simp [e1, e4, e5, e6], ⟨(by first | exact HB3.out | exact pw_below_drewN HB3.out _ | exact pw_below_drewN (pw_below_drewN HB3.out _) _)⟩, ⟨(by first | exact BKC3.out | exact blk_drewN BKC3.out _ | exact blk_drewN (blk_drewN BKC3.out _) _)⟩, ⟨(by first | exact BKT3.out | exact blk_drewN BKT3.out _ | exact blk_drewN (blk_drewN BKT3.out _) _)⟩, ⟨(by first | exact BKP3.out | exact blk_drewN BKP3.out _ | exact blk_drewN (blk_drewN BKP3.out _) _)⟩⟩
            · go_wp2_with (first | (go_at_call 21; with_reducible refine (interregnumref05_Hop.calls nx _ _ HH1.out).mono ?_; rintro e wh ⟨rfl, ⟨nd, rfl⟩⟩) | (go_at_call 21; with_reducible refine (interregnumref05_Hop.calls cN _ _ HH2.out).mono ?_; rintro e wh ⟨rfl, ⟨nd, rfl⟩⟩))
              go_meet
              case rel => exact ⟨by simp [e1, e4, e5], ⟨(by first | exact HB3.out | exact pw_below_drewN HB3.out _ | exact pw_below_drewN (pw_below_drewN HB3.out _) _)⟩, ⟨(by first | exact BKC3.out | exact blk_drewN BKC3.out _ | exact blk_drewN (blk_drewN BKC3.out _) _)⟩, ⟨(by first | exact BKT3.out | exact blk_drewN BKT3.out _ | exact blk_drewN (blk_drewN BKT3.out _) _)⟩, ⟨(by first | exact BKP3.out | exact blk_drewN BKP3.out _ | exact blk_drewN (blk_drewN BKP3.out _) _)⟩⟩
          · go_wp2_with (first | (go_at_call 21; with_reducible refine (interregnumref05_Hop.calls nx _ _ HH1.out).mono ?_; rintro e wh ⟨rfl, ⟨nd, rfl⟩⟩) | (go_at_call 21; with_reducible refine (interregnumref05_Hop.calls cN _ _ HH2.out).mono ?_; rintro e wh ⟨rfl, ⟨nd, rfl⟩⟩))
            go_meet
            case rel => exact ⟨by simp [e1, e4], ⟨(by first | exact HB3.out | exact pw_below_drewN HB3.out _ | exact pw_below_drewN (pw_below_drewN HB3.out _) _)⟩, ⟨(by first | exact BKC3.out | exact blk_drewN BKC3.out _ | exact blk_drewN (blk_drewN BKC3.out _) _)⟩, ⟨(by first | exact BKT3.out | exact blk_drewN BKT3.out _ | exact blk_drewN (blk_drewN BKT3.out _) _)⟩, ⟨(by first | exact BKP3.out | exact blk_drewN BKP3.out _ | exact blk_drewN (blk_drewN BKP3.out _) _)⟩⟩
    · go_wp2_with (first | (go_at_call 21; with_reducible refine (interregnumref05_Hop.calls nx _ _ HH1.out).mono ?_; rintro e wh ⟨rfl, ⟨nd, rfl⟩⟩) | (go_at_call 21; with_reducible refine (interregnumref05_Hop.calls cN _ _ HH2.out).mono ?_; rintro e wh ⟨rfl, ⟨nd, rfl⟩⟩))
      go_meet
      case rel => exact ⟨by simp [e1], ⟨(by first | exact HB3.out | exact pw_below_drewN HB3.out _ | exact pw_below_drewN (pw_below_drewN HB3.out _) _)⟩, ⟨(by first | exact BKC3.out | exact blk_drewN BKC3.out _ | exact blk_drewN (blk_drewN BKC3.out _) _)⟩, ⟨(by first | exact BKT3.out | exact blk_drewN BKT3.out _ | exact blk_drewN (blk_drewN BKT3.out _) _)⟩, ⟨(by first | exact BKP3.out | exact blk_drewN BKP3.out _ | exact blk_drewN (blk_drewN BKP3.out _) _)⟩⟩
  case rest =>
    obtain ⟨rfl, HBc, BKCc, BKTc, BKPc⟩ := hcut
    rw [HO.out]
    have hD0 : wc.cell? ⟨gc, 0, none⟩ = some (.int .i64 cA) := (blk_cell BKCc.out 0).trans rfl
    go_upto_region 4 with (first | ((with_reducible refine gate_dst (N := 45) rfl ?_); (try (refine gate_guard (by rfl) ?_; dsimp only)); refine load_blk rfl 24 (.tmp 4) rfl (g := gc) (off := 0) [.int .i64 cA, .int .u32 cI, .int .u32 cN, .int .i64 cH, .int .i64 cG, .int .i64 cL, .int .i64 cS, .int .i64 cD] _ rfl BKCc.out (self_x _) Try.underlying24 rfl (by kernel_rfl) ?_) | ((with_reducible refine gate_dst (N := 46) rfl ?_); (try (refine gate_guard (by rfl) ?_; dsimp only)); refine load_blk rfl 27 (.tmp 5) rfl (g := gt) (off := 0) [.int .i64 tN, .int .i64 tA, .slice AI nI cIn, .slice AO lo.length cOut] _ rfl BKTc.out (self_x _) Try.underlying27 rfl (by kernel_rfl) ?_) | ((with_reducible refine gate_dst (N := 47) rfl ?_); (try (refine gate_guard (by rfl) ?_; dsimp only)); refine load_blk rfl 29 (.tmp 6) rfl (g := gp) (off := 0) [.int .u32 pa, .int .i64 pl] _ rfl BKPc.out (self_x _) Try.underlying29 rfl (by kernel_rfl) ?_) | (go_at_call 10; refine (export_dflt_true k cA cI cN cH cG cL cS cD tN tA AI nI cIn AO cOut lo false pa pl (-1) 0 none 0 [] nx (-1) (-1) none 0 [] none 0 [] 0 cA rp true true _ (Kd.C_below HRO.out HBc.out) HCO.out (Kd.C_nil _ _) (Nat.le_refl _) (Kd.C_nil _ _) (Nat.le_refl _) (Kd.C_nil _ _) (Nat.le_refl _) HP.out (by decide) (fun y h => by cases h) (fun y h => by cases h) rfl (by decide) (fun y h => by cases h) HST.out HEQ.out rfl HGD.out).mono ?_; rintro e w5 ⟨X1, y1, X5, X6, rfl, g1, g2, g3, g4, hb⟩; have BKC5 := Aside0.mk ((hb.block _ (blk_lt BKCc.out)).trans BKCc.out); have BKT5 := Aside0.mk ((hb.block _ (blk_lt BKTc.out)).trans BKTc.out); have BKP5 := Aside0.mk ((hb.block _ (blk_lt BKPc.out)).trans BKPc.out); have HB5 := Aside0.mk (below_step HBc.out hb); have HW5 := Aside0.mk (Below.refl w5.heap.size w5); have G1 := Aside0.mk g1; have G2 := Aside0.mk g2; clear g1 g2 g3 g4 hb) | ((with_reducible refine gate_dst (N := 9) rfl ?_); refine box_event ?hg (N := 9) ?hd (cs := #[.int .i64 0, .slice none 0 0, .int .u32 0, .int .i64 0, .int .i64 0, .slice none 0 0, .slice none 0 0]) (t := 34) ?hr ?_; (case hd => rfl); (case hg => rfl); (case hr => first | (go_simp; done) | (go_simp; rfl)); intro ga hg w6 hbox hb; have BKC6 := Aside0.mk ((hb.block _ (blk_lt BKC5.out)).trans BKC5.out); have BKT6 := Aside0.mk ((hb.block _ (blk_lt BKT5.out)).trans BKT5.out); have BKP6 := Aside0.mk ((hb.block _ (blk_lt BKP5.out)).trans BKP5.out); have HB6 := Aside0.mk (below_step HB5.out hb); have BKA6 := Aside0.mk hbox; have GEA := Aside0.mk (show gp < ga from by rw [hg]; exact blk_lt BKP5.out); clear hbox hb hg) | ((with_reducible refine gate_store (t := 34) (p := 9) rfl ?_); refine store_new rfl 34 (.tmp 9) (.tmp 54) rfl [.int .i64 0, .slice X1 0 y1, .int .u32 nx, .int .i64 (-1), .int .i64 100, .slice X5 0 0, .slice X6 0 0] (by rfl) (by rfl) BKA6.out (by rfl) (by kernel_rfl) (by intro v hv; simp only [List.mem_cons, List.not_mem_nil, or_false] at hv; rcases hv with rfl | rfl | rfl | rfl | rfl | rfl | rfl <;> rfl) ?_; intro w7 hx hg hs; have BKA7 := Aside0.mk hx; have HB7 := Aside0.mk (HB6.out.grown hg HB6.out.size (fun k e => by injection e with e; have := GEC.out; have := GET.out; have := GEP.out; have := GEA.out; omega)); have BKC7 := Aside0.mk ((hg.block _ (blk_lt BKC6.out) (fun e => by injection e with e; have := GEA.out; have := GEP.out; have := GET.out; omega)).trans BKC6.out); have BKT7 := Aside0.mk ((hg.block _ (blk_lt BKT6.out) (fun e => by injection e with e; have := GEA.out; have := GEP.out; have := GET.out; omega)).trans BKT6.out); have BKP7 := Aside0.mk ((hg.block _ (blk_lt BKP6.out) (fun e => by injection e with e; have := GEA.out; have := GEP.out; have := GET.out; omega)).trans BKP6.out); clear hx hg hs))
    have hT3 : w7.cell? ⟨gt, 3, none⟩ = some (.slice AO lo.length cOut) := (blk_cell BKT7.out 3).trans rfl
    clear hD0
    go_upto_region 5 with (first | ((with_reducible refine gate_dst (N := 59) rfl ?_); (try (refine gate_guard (by rfl) ?_; dsimp only)); refine load_blk rfl 29 (.tmp 6) rfl (g := gp) (off := 0) [.int .u32 pa, .int .i64 pl] _ rfl BKP7.out (self_x _) Try.underlying29 rfl (by kernel_rfl) ?_) | (go_at_call 22; refine (interregnumref11_Apply.calls k AO cOut lo pa pl rp2 true _ (Kd.C_below HRO.out HB7.out) HCO.out HP2.out).mono ?_; rintro e w8 ⟨rfl, hb⟩; have BKC8 := Aside0.mk ((hb.block _ (blk_lt BKC7.out)).trans BKC7.out); have BKT8 := Aside0.mk ((hb.block _ (blk_lt BKT7.out)).trans BKT7.out); have BKP8 := Aside0.mk ((hb.block _ (blk_lt BKP7.out)).trans BKP7.out); have BKA8 := Aside0.mk ((hb.block _ (blk_lt BKA7.out)).trans BKA7.out); have HB8 := Aside0.mk (below_step HB7.out hb); clear hb))
    clear hT3
    have hT1 : w8.cell? ⟨gt, 1, none⟩ = some (.int .i64 tA) := (blk_cell BKT8.out 1).trans rfl
    have hC0 : w8.cell? ⟨gc, 0, none⟩ = some (.int .i64 cA) := (blk_cell BKC8.out 0).trans rfl
    have e1 : (tA == cA) = true := beq_iff_eq.mpr HEQ.out
    have e1n : (tA != cA) = false := by simp [HEQ.out]
    go_upto_region 8 with (fail)
    clear hT1 hC0 e1 e1n
    go_wp2_with (go_at_call 9; with_reducible refine (answers_ _).mono ?_; rintro e w9 ⟨rfl, hb⟩; have BKA9 := Aside0.mk ((hb.block _ (blk_lt BKA8.out)).trans BKA8.out); have HB9 := Aside0.mk (below_step HB8.out hb); clear hb; have ha1 : w9.cell? ⟨ga, 1, none⟩ = some (.slice X1 0 y1) := (blk_cell BKA9.out 1).trans rfl; have ha2 : w9.cell? ⟨ga, 2, none⟩ = some (.int .u32 nx) := (blk_cell BKA9.out 2).trans rfl; have ha4 : w9.cell? ⟨ga, 4, none⟩ = some (.int .i64 100) := (blk_cell BKA9.out 4).trans rfl)
    go_ret
    exact ⟨rfl, HB9.out⟩
set_option maxHeartbeats 4000000 in
set_option maxRecDepth 100000 in
open Go.Proofs.Ytjdebhkdbdbepaa.Mid in
theorem static_ext (k : Nat) (cA cI cN cH cG cL cS cD tN tA : Int) (AI : Option Addr) (nI cIn : Nat) (AO : Option Addr) (cOut : Nat) (lo : List S87) (pa pl nx : Int) (h1 h2 : Bool) (rp rp2 : Int) (w : World) (hro : Kd.C k87 w AO lo.length lo) (hco : lo.length ≤ cOut) (hh1 : interregnumref05_Hop.f nx = some h1) (hh2 : interregnumref05_Hop.f cN = some h2) (hout : (decide (50 < (lo.length : Int)) || (!h1 || (!h2 || (decide (cA < 1) || (decide (4294967295 < cA) || decide (tN < 0)))))) = false) (hp : policy_Apply.f lo pa pl = some (rp, true)) (hp2 : interregnumref11_Apply.f k lo pa pl = some (rp2, true)) (hst : stopB cA tN tA true false (-1) 0 cA = false) (heq : tA ≠ cA) (hgd : attr_Good.f k 0 (prependV [] cA) cN (-1) (-1) [] [] = some true) (hsp : interregnumref05_SamePath.f k (prependV [] cA) [⟨false, [cA]⟩] = some true) :
    Calls Try.prog 7 #[.agg #[.int .i64 cA, .int .u32 cI, .int .u32 cN, .int .i64 cH, .int .i64 cG, .int .i64 cL, .int .i64 cS, .int .i64 cD], .agg #[.int .i64 tN, .int .i64 tA, .slice AI nI cIn, .slice AO lo.length cOut], .agg #[.int .u32 pa, .int .i64 pl], .int .u32 nx] w fun e w' => e = .returned (.bool true) ∧ Below w.heap.size w w' := by
  have HO := Aside0.mk hout
  have HP := Aside0.mk hp
  have HP2 := Aside0.mk hp2
  clear hout hp hp2
  have HST := Aside0.mk hst
  have HEQ := Aside0.mk heq
  have HGD := Aside0.mk hgd
  clear hst heq hgd
  have HSP := Aside0.mk hsp
  clear hsp
  obtain ⟨y, hy⟩ : ∃ y : List Int, y = [cA] := ⟨_, rfl⟩
  rw [← hy] at HSP
  have NY := Aside0.mk hy
  clear hy
  have HRO := Aside0.mk hro
  have HCO := Aside0.mk hco
  have HH1 := Aside0.mk hh1
  have HH2 := Aside0.mk hh2
  have hu24 := Try.underlying24
  have hu27 := Try.underlying27
  have hu36 := Try.underlying36
  have hu34 := Try.underlying34
  have hu29 := Try.underlying29
  have HB := Aside0.mk (Below.refl w.heap.size w)
  clear hro hco hh1 hh2
  go_enter Try.func7, Try.ntmps7
  go_upto_region 1 with (first | ((with_reducible refine gate_dst (N := 4) rfl ?_); refine box_event ?hg (N := 4) ?hd (cs := #[.int .i64 cA, .int .u32 cI, .int .u32 cN, .int .i64 cH, .int .i64 cG, .int .i64 cL, .int .i64 cS, .int .i64 cD]) (t := 24) ?hr ?_; (case hd => rfl); (case hg => rfl); (case hr => first | (go_simp; done) | (go_simp; rfl)); intro gc hg w1 hbox hb; have HB1 := Aside0.mk (below_step HB.out hb); have BKC1 := Aside0.mk hbox; have GEC := Aside0.mk (show w.heap.size ≤ gc from by rw [hg]; exact Nat.le_refl _); clear hbox hb hg) | ((with_reducible refine gate_dst (N := 5) rfl ?_); refine box_event ?hg (N := 5) ?hd (cs := #[.int .i64 tN, .int .i64 tA, .slice AI nI cIn, .slice AO lo.length cOut]) (t := 27) ?hr ?_; (case hd => rfl); (case hg => rfl); (case hr => first | (go_simp; done) | (go_simp; rfl)); intro gt hg w2 hbox hb; have BKC2 := Aside0.mk ((hb.block _ (blk_lt BKC1.out)).trans BKC1.out); have HB2 := Aside0.mk (below_step HB1.out hb); have BKT2 := Aside0.mk hbox; have GET := Aside0.mk (show gc < gt from by rw [hg]; exact blk_lt BKC1.out); clear hbox hb hg) | ((with_reducible refine gate_dst (N := 6) rfl ?_); refine box_event ?hg (N := 6) ?hd (cs := #[.int .u32 pa, .int .i64 pl]) (t := 29) ?hr ?_; (case hd => rfl); (case hg => rfl); (case hr => first | (go_simp; done) | (go_simp; rfl)); intro gp hg w3 hbox hb; have BKC3 := Aside0.mk ((hb.block _ (blk_lt BKC2.out)).trans BKC2.out); have BKT3 := Aside0.mk ((hb.block _ (blk_lt BKT2.out)).trans BKT2.out); have HB3 := Aside0.mk (below_step HB2.out hb); have BKP3 := Aside0.mk hbox; have GEP := Aside0.mk (show gt < gp from by rw [hg]; exact blk_lt BKT2.out); clear hbox hb hg))
  have hC0 : w3.cell? ⟨gc, 0, none⟩ = some (.int .i64 cA) := (blk_cell BKC3.out 0).trans rfl
  have hC2 : w3.cell? ⟨gc, 2, none⟩ = some (.int .u32 cN) := (blk_cell BKC3.out 2).trans rfl
  have hT0 : w3.cell? ⟨gt, 0, none⟩ = some (.int .i64 tN) := (blk_cell BKT3.out 0).trans rfl
  have hT3 : w3.cell? ⟨gt, 3, none⟩ = some (.slice AO lo.length cOut) := (blk_cell BKT3.out 3).trans rfl
  go_cut [42] (fun v42 wc => v42 = .bool (decide (50 < (lo.length : Int)) || (!h1 || (!h2 || (decide (cA < 1) || (decide (4294967295 < cA) || decide (tN < 0)))))) ∧ Aside0 (Below w.heap.size w wc) ∧ Aside0 (wc.heap[gc]? = some (.cells #[.int .i64 cA, .int .u32 cI, .int .u32 cN, .int .i64 cH, .int .i64 cG, .int .i64 cL, .int .i64 cS, .int .i64 cD] 24 (0, 0))) ∧ Aside0 (wc.heap[gt]? = some (.cells #[.int .i64 tN, .int .i64 tA, .slice AI nI cIn, .slice AO lo.length cOut] 27 (0, 0))) ∧ Aside0 (wc.heap[gp]? = some (.cells #[.int .u32 pa, .int .i64 pl] 29 (0, 0))))
  case first =>
    rcases e1 : decide (50 < (lo.length : Int)) with _ | _
    · rcases h1 with _ | _
      · go_wp2_with (first | (go_at_call 21; with_reducible refine (interregnumref05_Hop.calls nx _ _ HH1.out).mono ?_; rintro e wh ⟨rfl, ⟨nd, rfl⟩⟩) | (go_at_call 21; with_reducible refine (interregnumref05_Hop.calls cN _ _ HH2.out).mono ?_; rintro e wh ⟨rfl, ⟨nd, rfl⟩⟩))
        go_meet
        case rel => exact ⟨by simp [e1], ⟨(by first | exact HB3.out | exact pw_below_drewN HB3.out _ | exact pw_below_drewN (pw_below_drewN HB3.out _) _)⟩, ⟨(by first | exact BKC3.out | exact blk_drewN BKC3.out _ | exact blk_drewN (blk_drewN BKC3.out _) _)⟩, ⟨(by first | exact BKT3.out | exact blk_drewN BKT3.out _ | exact blk_drewN (blk_drewN BKT3.out _) _)⟩, ⟨(by first | exact BKP3.out | exact blk_drewN BKP3.out _ | exact blk_drewN (blk_drewN BKP3.out _) _)⟩⟩
      · rcases h2 with _ | _
        · go_wp2_with (first | (go_at_call 21; with_reducible refine (interregnumref05_Hop.calls nx _ _ HH1.out).mono ?_; rintro e wh ⟨rfl, ⟨nd, rfl⟩⟩) | (go_at_call 21; with_reducible refine (interregnumref05_Hop.calls cN _ _ HH2.out).mono ?_; rintro e wh ⟨rfl, ⟨nd, rfl⟩⟩))
          go_meet
          case rel => exact ⟨by simp [e1], ⟨(by first | exact HB3.out | exact pw_below_drewN HB3.out _ | exact pw_below_drewN (pw_below_drewN HB3.out _) _)⟩, ⟨(by first | exact BKC3.out | exact blk_drewN BKC3.out _ | exact blk_drewN (blk_drewN BKC3.out _) _)⟩, ⟨(by first | exact BKT3.out | exact blk_drewN BKT3.out _ | exact blk_drewN (blk_drewN BKT3.out _) _)⟩, ⟨(by first | exact BKP3.out | exact blk_drewN BKP3.out _ | exact blk_drewN (blk_drewN BKP3.out _) _)⟩⟩
        · rcases e4 : decide (cA < 1) with _ | _
          · rcases e5 : decide (4294967295 < cA) with _ | _
            · rcases e6 : decide (tN < 0) with _ | _
              · go_wp2_with (first | (go_at_call 21; with_reducible refine (interregnumref05_Hop.calls nx _ _ HH1.out).mono ?_; rintro e wh ⟨rfl, ⟨nd, rfl⟩⟩) | (go_at_call 21; with_reducible refine (interregnumref05_Hop.calls cN _ _ HH2.out).mono ?_; rintro e wh ⟨rfl, ⟨nd, rfl⟩⟩))
                go_meet
                case rel => exact ⟨by simp [e1, e4, e5, e6], ⟨(by first | exact HB3.out | exact pw_below_drewN HB3.out _ | exact pw_below_drewN (pw_below_drewN HB3.out _) _)⟩, ⟨(by first | exact BKC3.out | exact blk_drewN BKC3.out _ | exact blk_drewN (blk_drewN BKC3.out _) _)⟩, ⟨(by first | exact BKT3.out | exact blk_drewN BKT3.out _ | exact blk_drewN (blk_drewN BKT3.out _) _)⟩, ⟨(by first | exact BKP3.out | exact blk_drewN BKP3.out _ | exact blk_drewN (blk_drewN BKP3.out _) _)⟩⟩
              · go_wp2_with (first | (go_at_call 21; with_reducible refine (interregnumref05_Hop.calls nx _ _ HH1.out).mono ?_; rintro e wh ⟨rfl, ⟨nd, rfl⟩⟩) | (go_at_call 21; with_reducible refine (interregnumref05_Hop.calls cN _ _ HH2.out).mono ?_; rintro e wh ⟨rfl, ⟨nd, rfl⟩⟩))
                go_meet
                case rel => exact ⟨by simp [e1, e4, e5, e6], ⟨(by first | exact HB3.out | exact pw_below_drewN HB3.out _ | exact pw_below_drewN (pw_below_drewN HB3.out _) _)⟩, ⟨(by first | exact BKC3.out | exact blk_drewN BKC3.out _ | exact blk_drewN (blk_drewN BKC3.out _) _)⟩, ⟨(by first | exact BKT3.out | exact blk_drewN BKT3.out _ | exact blk_drewN (blk_drewN BKT3.out _) _)⟩, ⟨(by first | exact BKP3.out | exact blk_drewN BKP3.out _ | exact blk_drewN (blk_drewN BKP3.out _) _)⟩⟩
            · go_wp2_with (first | (go_at_call 21; with_reducible refine (interregnumref05_Hop.calls nx _ _ HH1.out).mono ?_; rintro e wh ⟨rfl, ⟨nd, rfl⟩⟩) | (go_at_call 21; with_reducible refine (interregnumref05_Hop.calls cN _ _ HH2.out).mono ?_; rintro e wh ⟨rfl, ⟨nd, rfl⟩⟩))
              go_meet
              case rel => exact ⟨by simp [e1, e4, e5], ⟨(by first | exact HB3.out | exact pw_below_drewN HB3.out _ | exact pw_below_drewN (pw_below_drewN HB3.out _) _)⟩, ⟨(by first | exact BKC3.out | exact blk_drewN BKC3.out _ | exact blk_drewN (blk_drewN BKC3.out _) _)⟩, ⟨(by first | exact BKT3.out | exact blk_drewN BKT3.out _ | exact blk_drewN (blk_drewN BKT3.out _) _)⟩, ⟨(by first | exact BKP3.out | exact blk_drewN BKP3.out _ | exact blk_drewN (blk_drewN BKP3.out _) _)⟩⟩
          · go_wp2_with (first | (go_at_call 21; with_reducible refine (interregnumref05_Hop.calls nx _ _ HH1.out).mono ?_; rintro e wh ⟨rfl, ⟨nd, rfl⟩⟩) | (go_at_call 21; with_reducible refine (interregnumref05_Hop.calls cN _ _ HH2.out).mono ?_; rintro e wh ⟨rfl, ⟨nd, rfl⟩⟩))
            go_meet
            case rel => exact ⟨by simp [e1, e4], ⟨(by first | exact HB3.out | exact pw_below_drewN HB3.out _ | exact pw_below_drewN (pw_below_drewN HB3.out _) _)⟩, ⟨(by first | exact BKC3.out | exact blk_drewN BKC3.out _ | exact blk_drewN (blk_drewN BKC3.out _) _)⟩, ⟨(by first | exact BKT3.out | exact blk_drewN BKT3.out _ | exact blk_drewN (blk_drewN BKT3.out _) _)⟩, ⟨(by first | exact BKP3.out | exact blk_drewN BKP3.out _ | exact blk_drewN (blk_drewN BKP3.out _) _)⟩⟩
    · go_wp2_with (first | (go_at_call 21; with_reducible refine (interregnumref05_Hop.calls nx _ _ HH1.out).mono ?_; rintro e wh ⟨rfl, ⟨nd, rfl⟩⟩) | (go_at_call 21; with_reducible refine (interregnumref05_Hop.calls cN _ _ HH2.out).mono ?_; rintro e wh ⟨rfl, ⟨nd, rfl⟩⟩))
      go_meet
      case rel => exact ⟨by simp [e1], ⟨(by first | exact HB3.out | exact pw_below_drewN HB3.out _ | exact pw_below_drewN (pw_below_drewN HB3.out _) _)⟩, ⟨(by first | exact BKC3.out | exact blk_drewN BKC3.out _ | exact blk_drewN (blk_drewN BKC3.out _) _)⟩, ⟨(by first | exact BKT3.out | exact blk_drewN BKT3.out _ | exact blk_drewN (blk_drewN BKT3.out _) _)⟩, ⟨(by first | exact BKP3.out | exact blk_drewN BKP3.out _ | exact blk_drewN (blk_drewN BKP3.out _) _)⟩⟩
  case rest =>
    obtain ⟨rfl, HBc, BKCc, BKTc, BKPc⟩ := hcut
    rw [HO.out]
    have hD0 : wc.cell? ⟨gc, 0, none⟩ = some (.int .i64 cA) := (blk_cell BKCc.out 0).trans rfl
    go_upto_region 4 with (first | ((with_reducible refine gate_dst (N := 45) rfl ?_); (try (refine gate_guard (by rfl) ?_; dsimp only)); refine load_blk rfl 24 (.tmp 4) rfl (g := gc) (off := 0) [.int .i64 cA, .int .u32 cI, .int .u32 cN, .int .i64 cH, .int .i64 cG, .int .i64 cL, .int .i64 cS, .int .i64 cD] _ rfl BKCc.out (self_x _) Try.underlying24 rfl (by kernel_rfl) ?_) | ((with_reducible refine gate_dst (N := 46) rfl ?_); (try (refine gate_guard (by rfl) ?_; dsimp only)); refine load_blk rfl 27 (.tmp 5) rfl (g := gt) (off := 0) [.int .i64 tN, .int .i64 tA, .slice AI nI cIn, .slice AO lo.length cOut] _ rfl BKTc.out (self_x _) Try.underlying27 rfl (by kernel_rfl) ?_) | ((with_reducible refine gate_dst (N := 47) rfl ?_); (try (refine gate_guard (by rfl) ?_; dsimp only)); refine load_blk rfl 29 (.tmp 6) rfl (g := gp) (off := 0) [.int .u32 pa, .int .i64 pl] _ rfl BKPc.out (self_x _) Try.underlying29 rfl (by kernel_rfl) ?_) | (go_at_call 10; refine (export_ext_true k cA cI cN cH cG cL cS cD tN tA AI nI cIn AO cOut lo false pa pl (-1) 0 none 0 [] nx (-1) (-1) none 0 [] none 0 [] 0 cA rp true true _ (Kd.C_below HRO.out HBc.out) HCO.out (Kd.C_nil _ _) (Nat.le_refl _) (Kd.C_nil _ _) (Nat.le_refl _) (Kd.C_nil _ _) (Nat.le_refl _) HP.out (by decide) (fun y h => by cases h) (fun y h => by cases h) rfl (by decide) (fun y h => by cases h) HST.out HEQ.out HGD.out).mono ?_; rintro e w5 ⟨X1, y1, X5, X6, rfl, g1, g2, g3, g4, hb⟩; have BKC5 := Aside0.mk ((hb.block _ (blk_lt BKCc.out)).trans BKCc.out); have BKT5 := Aside0.mk ((hb.block _ (blk_lt BKTc.out)).trans BKTc.out); have BKP5 := Aside0.mk ((hb.block _ (blk_lt BKPc.out)).trans BKPc.out); have HB5 := Aside0.mk (below_step HBc.out hb); have HW5 := Aside0.mk (Below.refl w5.heap.size w5); have G1 := Aside0.mk g1; have G2 := Aside0.mk g2; clear g1 g2 g3 g4 hb) | ((with_reducible refine gate_dst (N := 9) rfl ?_); refine box_event ?hg (N := 9) ?hd (cs := #[.int .i64 0, .slice none 0 0, .int .u32 0, .int .i64 0, .int .i64 0, .slice none 0 0, .slice none 0 0]) (t := 34) ?hr ?_; (case hd => rfl); (case hg => rfl); (case hr => first | (go_simp; done) | (go_simp; rfl)); intro ga hg w6 hbox hb; have BKC6 := Aside0.mk ((hb.block _ (blk_lt BKC5.out)).trans BKC5.out); have BKT6 := Aside0.mk ((hb.block _ (blk_lt BKT5.out)).trans BKT5.out); have BKP6 := Aside0.mk ((hb.block _ (blk_lt BKP5.out)).trans BKP5.out); have HB6 := Aside0.mk (below_step HB5.out hb); have BKA6 := Aside0.mk hbox; have GEA := Aside0.mk (show gp < ga from by rw [hg]; exact blk_lt BKP5.out); have HW6 := Aside0.mk (below_step HW5.out hb); have GA3 := Aside0.mk (show w5.heap.size ≤ ga from by rw [hg]; exact Nat.le_refl _); clear hbox hb hg) | ((with_reducible refine gate_store (t := 34) (p := 9) rfl ?_); refine store_new rfl 34 (.tmp 9) (.tmp 54) rfl [.int .i64 0, .slice X1 1 y1, .int .u32 cN, .int .i64 (-1), .int .i64 (-1), .slice X5 0 0, .slice X6 0 0] (by rfl) (by rfl) BKA6.out (by rfl) (by kernel_rfl) (by intro v hv; simp only [List.mem_cons, List.not_mem_nil, or_false] at hv; rcases hv with rfl | rfl | rfl | rfl | rfl | rfl | rfl <;> rfl) ?_; intro w7 hx hg hs; have BKA7 := Aside0.mk hx; have HB7 := Aside0.mk (HB6.out.grown hg HB6.out.size (fun k e => by injection e with e; have := GEC.out; have := GET.out; have := GEP.out; have := GEA.out; omega)); have BKC7 := Aside0.mk ((hg.block _ (blk_lt BKC6.out) (fun e => by injection e with e; have := GEA.out; have := GEP.out; have := GET.out; omega)).trans BKC6.out); have BKT7 := Aside0.mk ((hg.block _ (blk_lt BKT6.out) (fun e => by injection e with e; have := GEA.out; have := GEP.out; have := GET.out; omega)).trans BKT6.out); have BKP7 := Aside0.mk ((hg.block _ (blk_lt BKP6.out) (fun e => by injection e with e; have := GEA.out; have := GEP.out; have := GET.out; omega)).trans BKP6.out); have HW7 := Aside0.mk (HW6.out.grown hg HW6.out.size (fun k e => by injection e with e; have := GA3.out; omega)); clear hx hg hs))
    have hT3 : w7.cell? ⟨gt, 3, none⟩ = some (.slice AO lo.length cOut) := (blk_cell BKT7.out 3).trans rfl
    clear hD0
    go_upto_region 5 with (first | ((with_reducible refine gate_dst (N := 59) rfl ?_); (try (refine gate_guard (by rfl) ?_; dsimp only)); refine load_blk rfl 29 (.tmp 6) rfl (g := gp) (off := 0) [.int .u32 pa, .int .i64 pl] _ rfl BKP7.out (self_x _) Try.underlying29 rfl (by kernel_rfl) ?_) | (go_at_call 22; refine (interregnumref11_Apply.calls k AO cOut lo pa pl rp2 true _ (Kd.C_below HRO.out HB7.out) HCO.out HP2.out).mono ?_; rintro e w8 ⟨rfl, hb⟩; have BKC8 := Aside0.mk ((hb.block _ (blk_lt BKC7.out)).trans BKC7.out); have BKT8 := Aside0.mk ((hb.block _ (blk_lt BKT7.out)).trans BKT7.out); have BKP8 := Aside0.mk ((hb.block _ (blk_lt BKP7.out)).trans BKP7.out); have BKA8 := Aside0.mk ((hb.block _ (blk_lt BKA7.out)).trans BKA7.out); have HB8 := Aside0.mk (below_step HB7.out hb); have HW8 := Aside0.mk (below_step HW7.out hb); clear hb))
    clear hT3
    have hT1 : w8.cell? ⟨gt, 1, none⟩ = some (.int .i64 tA) := (blk_cell BKT8.out 1).trans rfl
    have hC0 : w8.cell? ⟨gc, 0, none⟩ = some (.int .i64 cA) := (blk_cell BKC8.out 0).trans rfl
    have e1 : (tA == cA) = false := beq_eq_false_iff_ne.mpr HEQ.out
    have e1n : (tA != cA) = true := by simp [HEQ.out]
    go_upto_region 9 with (fail)
    clear hT1 hC0 e1 e1n
    go_wp2_with (first | (go_at_call 9; with_reducible refine (answers_ _).mono ?_; rintro e w9 ⟨rfl, hb⟩; have BKA9 := Aside0.mk ((hb.block _ (blk_lt BKA8.out)).trans BKA8.out); have BKC9 := Aside0.mk ((hb.block _ (blk_lt BKC8.out)).trans BKC8.out); have HB9 := Aside0.mk (below_step HB8.out hb); have HW9 := Aside0.mk (below_step HW8.out hb); clear hb; have ha1 : w9.cell? ⟨ga, 1, none⟩ = some (.slice X1 1 y1) := (blk_cell BKA9.out 1).trans rfl; have ha2 : w9.cell? ⟨ga, 2, none⟩ = some (.int .u32 cN) := (blk_cell BKA9.out 2).trans rfl; have ha4 : w9.cell? ⟨ga, 4, none⟩ = some (.int .i64 (-1)) := (blk_cell BKA9.out 4).trans rfl; have hc0 : w9.cell? ⟨gc, 0, none⟩ = some (.int .i64 cA) := (blk_cell BKC9.out 0).trans rfl; have hc2 : w9.cell? ⟨gc, 2, none⟩ = some (.int .u32 cN) := (blk_cell BKC9.out 2).trans rfl) | ((with_reducible refine gate_dst (N := 117) rfl ?_); (try (refine gate_guard (by rfl) ?_; dsimp only)); refine Kd.R_lit (Kd.int .i64) _ 3 ?hg (N := 117) ?hd (xs := ([cA] : List Int)) (inner := [.int .i64 cA]) (ok := fun _ => True) (okp := fun _ => True) ?hr ?hp (fun _ hk => hk) trivial (Below.refl _ _) (Nat.le_refl _) (by simp) ?_; (case hd => rfl); (case hg => rfl); (case hr => first | (go_simp; done) | (go_simp; rfl)); (case hp => exact (Reps.one (show Kd.M (Kd.int .i64) _ _ _ cA [.int .i64 cA] from rfl) (Reps.none _ _))); intro v1 w10 ho hb hg_ hnew_; clear hg_ hnew_; rw [← NY.out] at ho; have HA10 := Aside0.mk ho; obtain ⟨Ao, co, eo⟩ := Kd.R_slice HA10.out; subst eo; have HB10 := Aside0.mk (below_step HB9.out hb); have HW10 := Aside0.mk (below_step HW9.out hb); have HBL := Aside0.mk hb; clear ho hb) | ((with_reducible refine gate_dst (N := 119) rfl ?_); (try (refine gate_guard (by rfl) ?_; dsimp only)); refine Kd.R_lit kc69 (w0 := w9) w9.heap.size 69 ?hg (N := 119) ?hd (xs := ([⟨false, y⟩] : List S69)) (inner := [.bool false, .slice Ao y.length co]) (ok := fun _ => True) (okp := fun _ => True) ?hr ?hp (fun _ hk => hk) trivial HBL.out HBL.out.size (by simp) ?_; (case hd => rfl); (case hg => rfl); (case hr => first | (go_simp; done) | (go_simp; rfl)); (case hp => exact (Reps.c2 (show kc69.M _ _ _ (⟨false, y⟩ : S69) [.bool false, .slice Ao y.length co] from kc_mk (Kd.R_reads' HA10.out).2.1 HA10.out) (Reps.none _ _))); intro v1 w11 ho hb hg_ hnew_; clear hg_ hnew_; have HA11 := Aside0.mk ho; obtain ⟨Ap, cp, ep⟩ := Kd.R_slice HA11.out; subst ep; have HB11 := Aside0.mk (below_step HB9.out hb); have HW11 := Aside0.mk (below_step HW9.out hb); have HL11 := Aside0.mk (kc_C (Kd.R_reads' HA11.out).2.2); have HLC := Aside0.mk (Kd.R_reads' HA11.out).2.1; clear ho hb) | (go_at_call 15; refine (interregnumref05_SamePath.calls k X1 y1 (prependV [] cA) Ap cp [⟨false, y⟩] true _ (Kd.C_below G2.out HW11.out) G1.out HL11.out HLC.out HSP.out).mono ?_; rintro e w12 ⟨rfl, ⟨nd, rfl⟩⟩))
    go_ret
    exact ⟨rfl, by first | exact HB11.out | exact pw_below_drewN HB11.out _⟩
def staticOk (k : Nat) (cA cN tA : Int) (lo : List S87) (pa pl nx : Int) (al : Bool) : Prop :=
  (interregnumref11_Apply.f k lo pa pl).map Prod.snd = some al ∧ (al = true → (tA = cA → attr_Good.f k 0 [] nx (-1) 100 [] [] = some true) ∧ (tA ≠ cA → attr_Good.f k 0 (prependV [] cA) cN (-1) (-1) [] [] = some true ∧ interregnumref05_SamePath.f k (prependV [] cA) [⟨false, [cA]⟩] = some true))
instance staticOk_dec (k : Nat) (cA cN tA : Int) (lo : List S87) (pa pl nx : Int) (al : Bool) : Decidable (staticOk k cA cN tA lo pa pl nx al) := by unfold staticOk; infer_instance
def interregnumlaw16_ExportStatic.f (k : Nat) (cA cI cN cH cG cL cS cD tN tA : Int) (li lo : List S87) (pa pl nx : Int) : Option Bool :=
  (interregnumref05_Hop.f nx).bind fun h1 => (interregnumref05_Hop.f cN).bind fun h2 => if (decide (50 < (lo.length : Int)) || (!h1 || (!h2 || (decide (cA < 1) || (decide (4294967295 < cA) || decide (tN < 0)))))) = true then some true else (policy_Apply.f lo pa pl).bind fun p => if staticOk k cA cN tA lo pa pl nx p.2 then some true else none
theorem interregnumlaw16_ExportStatic.calls (k : Nat) (cA cI cN cH cG cL cS cD tN tA : Int) (AI : Option Addr) (cIn : Nat) (li : List S87) (AO : Option Addr) (cOut : Nat) (lo : List S87) (pa pl nx : Int) (r : Bool) (w : World) (hr1_2 : Kd.C k87 w AI li.length li) (hc1_2 : li.length ≤ cIn) (hr1_3 : Kd.C k87 w AO lo.length lo) (hc1_3 : lo.length ≤ cOut) (h : interregnumlaw16_ExportStatic.f k cA cI cN cH cG cL cS cD tN tA li lo pa pl nx = some r) :
    Calls Try.prog 7 #[.agg #[.int .i64 cA, .int .u32 cI, .int .u32 cN, .int .i64 cH, .int .i64 cG, .int .i64 cL, .int .i64 cS, .int .i64 cD], .agg #[.int .i64 tN, .int .i64 tA, .slice AI li.length cIn, .slice AO lo.length cOut], .agg #[.int .u32 pa, .int .i64 pl], .int .u32 nx] w fun e w' => e = .returned (.bool r) ∧ Below w.heap.size w w' := by
  unfold interregnumlaw16_ExportStatic.f at h
  obtain ⟨h1, e1, h⟩ := Option.bind_eq_some_iff.mp h
  obtain ⟨h2, e2, h⟩ := Option.bind_eq_some_iff.mp h
  by_cases hout : (decide (50 < (lo.length : Int)) || (!h1 || (!h2 || (decide (cA < 1) || (decide (4294967295 < cA) || decide (tN < 0)))))) = true
  · rw [if_pos hout] at h
    obtain rfl := Option.some.inj h
    exact static_out k cA cI cN cH cG cL cS cD tN tA AI li.length cIn AO cOut lo pa pl nx h1 h2 w hr1_3 hc1_3 e1 e2 hout
  · rw [if_neg hout] at h
    obtain ⟨⟨rp, al⟩, e3, h⟩ := Option.bind_eq_some_iff.mp h
    by_cases hok : staticOk k cA cN tA lo pa pl nx al
    · rw [if_pos hok] at h
      obtain rfl := Option.some.inj h
      obtain ⟨e4, e5⟩ := hok
      obtain ⟨⟨rp2, al2⟩, e9, e6⟩ := Option.map_eq_some_iff.mp e4
      obtain rfl : al2 = al := e6
      have hout := Bool.not_eq_true _ ▸ hout
      cases al2 with
      | false => exact static_deny k cA cI cN cH cG cL cS cD tN tA AI li.length cIn AO cOut lo pa pl nx h1 h2 rp rp2 w hr1_3 hc1_3 e1 e2 hout e3 e9
      | true =>
        obtain ⟨e7, e8⟩ := e5 rfl
        have hst : stopB cA tN tA true false (-1) 0 cA = false := by
          have h6 : decide (tN < 0) = false := by
            simp only [Bool.or_eq_false_iff] at hout
            exact hout.2.2.2.2.2
          have h7 : ¬ tN < 0 := of_decide_eq_false h6
          have h8 : ((-1 : Int) == tN) = false := beq_eq_false_iff_ne.mpr (by omega)
          unfold stopB
          rw [h8]
          rfl
        by_cases heq : tA = cA
        · exact static_int k cA cI cN cH cG cL cS cD tN tA AI li.length cIn AO cOut lo pa pl nx h1 h2 rp rp2 w hr1_3 hc1_3 e1 e2 hout e3 e9 hst heq (e7 heq)
        · exact static_ext k cA cI cN cH cG cL cS cD tN tA AI li.length cIn AO cOut lo pa pl nx h1 h2 rp rp2 w hr1_3 hc1_3 e1 e2 hout e3 e9 hst heq (e8 heq).1 (e8 heq).2
    · rw [if_neg hok] at h
      cases h


end Go.Proofs.Ytjdebhkdbdbepaa.PExportStatic
