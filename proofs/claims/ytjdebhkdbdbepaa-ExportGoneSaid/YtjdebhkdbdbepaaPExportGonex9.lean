-- Lean text by a program of this repo (wip/tools/printx.py), out of Lean's own print of the translation
import Derived.Test.YtjdebhkdbdbepaaOwn
import Derived.Test.YtjdebhkdbdbepaaInts
import Derived.Test.YtjdebhkdbdbepaaMid
import Derived.Test.YtjdebhkdbdbepaaHelp
import Derived.ArgAppend
import Derived.Test.YtjdebhkdbdbepaaPExportGonex0
import Derived.Test.YtjdebhkdbdbepaaPExportGonex4
import Derived.Test.YtjdebhkdbdbepaaPExportGonex5
import Derived.Test.YtjdebhkdbdbepaaPExportGonex8
namespace Go.Proofs.Ytjdebhkdbdbepaa.PExportGone
open Go.RowKit Go.Proofs.YtjdebhkdbdbepaaW.PrintWords Go.Proofs.YtjdebhkdbdbepaaW.PrintLast Go.Proofs.YtjdebhkdbdbepaaW.PrintMore
attribute [local go_sem] max2_int min2_int max_two min_two max_three min_three max_four min_four   -- for this text's walks alone
set_option linter.unusedVariables false
set_option linter.unusedSimpArgs false

/-! ### interregnumlaw16_answers: function 9 -/
-- FN rounds=0 making=1
-- IMPORT Derived.ArgAppend
-- IMPORT Derived.Test.YtjdebhkdbdbepaaHelp
-- IMPORT Derived.Test.YtjdebhkdbdbepaaMid
-- IMPORT Derived.Test.YtjdebhkdbdbepaaInts
-- IMPORT Derived.Test.YtjdebhkdbdbepaaOwn
open Go.Proofs.Ytjdebhkdbdbepaa.Ints
open Go.Proofs.Ytjdebhkdbdbepaa.Own
open Go.Proofs.Ytjdebhkdbdbepaa.Help
open Go.Proofs.Ytjdebhkdbdbepaa.Mid
section
variable {P : Program} {ops : Array Oper} {rest : List Oper} {o : Oper} {a : Act} {W : World} {Q : Exit → Act → World → Prop}
/-- A slice of one element that is written out. -/
theorem lit_event (hgd : o.guard = none) {N : Tmp} (hd : o.dst = some N) {inner : Array Value} {e : TypeId} {n : Nat}
    (hrun : (execOp a.eval o).run P W = .ok (.value (.slice (some ⟨W.heap.size, 0, none⟩) n n)) (W.alloc (.cells inner e)))
    (h : ∀ g w1, g = W.heap.size → w1.heap[g]? = some (.cells inner e (0, 0)) → Below W.heap.size W w1 → wpList P ops Q rest (a.put o.dst (.slice (some ⟨g, 0, none⟩) n n)) w1) : wpList P ops Q (o :: rest) a W :=
  Kd.event_run hgd hrun (h _ _ rfl (alloc_at _ _) (below_alloc (Below.refl _ _) _))
end
theorem ans_delta : deltaV [] [(⟨⟨0, 0⟩, ⟨0, prependV [] 1, 167772169, -1, -1, [], []⟩⟩ : S54)] = [(⟨[], ⟨0, prependV [] 1, 167772169, -1, -1, [], []⟩, [⟨0, 0⟩]⟩ : S57)] := by kernel_rfl
theorem ans_can : canDelta [] [(⟨⟨0, 0⟩, ⟨0, prependV [] 1, 167772169, -1, -1, [], []⟩⟩ : S54)] := by unfold canDelta; refine ⟨by decide, by decide, fun x hx => ?_⟩; rw [List.mem_singleton] at hx; subst hx; exact ⟨by decide, by decide, rfl, by decide, fun r h => by cases h⟩
set_option maxHeartbeats 4000000 in
set_option maxRecDepth 100000 in
theorem ans_good : attr_Good.f 40 0 (prependV [] 1) 167772169 (-1) (-1) [] [] = some true := by kernel_rfl
set_option maxHeartbeats 4000000 in
set_option maxRecDepth 100000 in
theorem answers_ (w : World) : Calls Try.prog 9 #[] w fun e w' => e = .returned (.bool true) ∧ Below w.heap.size w w' := by
  have hu24 := Try.underlying24
  have hu27 := Try.underlying27
  have hu36 := Try.underlying36
  have hu34 := Try.underlying34
  have hu29 := Try.underlying29
  have hu54 := Try.underlying54
  have hu57 := Try.underlying57
  have HB := Aside0.mk (Below.refl w.heap.size w)
  go_enter Try.func9, Try.ntmps9
  go_upto_region 3 with (first | ((with_reducible refine gate_dst (N := 1) rfl ?_); refine box_event ?hg (N := 1) ?hd (cs := #[.int .i64 0, .int .u32 0, .int .u32 0, .int .i64 0, .int .i64 0, .int .i64 0, .int .i64 0, .int .i64 0]) (t := 24) ?hr ?_; (case hd => rfl); (case hg => rfl); (case hr => first | (go_simp; done) | (go_simp; rfl)); intro gc hg w1 hbox hb; have HB1 := Aside0.mk (below_step HB.out hb); have BKC1 := Aside0.mk hbox; have GEC := Aside0.mk (show w.heap.size ≤ gc from by rw [hg]; exact Nat.le_refl _); clear hbox hb hg) | ((with_reducible refine gate_store (t := 24) (p := 1) rfl ?_); refine store_new rfl 24 (.tmp 1) (.tmp 5) rfl [.int .i64 1, .int .u32 0, .int .u32 167772169, .int .i64 0, .int .i64 0, .int .i64 0, .int .i64 0, .int .i64 0] (by rfl) (by rfl) BKC1.out (by rfl) (by kernel_rfl) (by intro v hv; simp only [List.mem_cons, List.not_mem_nil, or_false] at hv; rcases hv with rfl | rfl | rfl | rfl | rfl | rfl | rfl | rfl <;> rfl) ?_; intro w2 hx hg hs; have BKC2 := Aside0.mk hx; have HB2 := Aside0.mk (HB1.out.grown hg HB1.out.size (fun k e => by injection e with e; have := GEC.out; omega)); clear hx hg hs) | ((with_reducible refine gate_dst (N := 7) rfl ?_); (try (refine gate_guard (by rfl) ?_; dsimp only)); refine load_blk rfl 24 (.tmp 1) rfl (g := gc) (off := 0) [.int .i64 1, .int .u32 0, .int .u32 167772169, .int .i64 0, .int .i64 0, .int .i64 0, .int .i64 0, .int .i64 0] _ rfl BKC2.out (self_x _) Try.underlying24 rfl (by kernel_rfl) ?_) | (go_at_call 10; refine (export_ext_true 40 1 0 167772169 0 0 0 0 0 3 2 none 0 0 none 0 [] false 0 0 (-1) 0 none 0 [] 167772161 (-1) (-1) none 0 [] none 0 [] 0 1 (-1) true true _ (Kd.C_nil _ _) (Nat.le_refl _) (Kd.C_nil _ _) (Nat.le_refl _) (Kd.C_nil _ _) (Nat.le_refl _) (Kd.C_nil _ _) (Nat.le_refl _) rfl (by decide) (fun y h => by cases h) (fun y h => by cases h) rfl (by decide) (fun y h => by cases h) rfl (by decide) ans_good).mono ?_; rintro e w3 ⟨X1, y1, X5, X6, rfl, g1, g2, g3, g4, hb⟩; have G1 := Aside0.mk g1; have G2 := Aside0.mk g2; have G3 := Aside0.mk g3; have G4 := Aside0.mk g4; have BKC3 := Aside0.mk ((hb.block _ (blk_lt BKC2.out)).trans BKC2.out); have HB3 := Aside0.mk (below_step HB2.out hb); have HW3 := Aside0.mk (Below.refl w3.heap.size w3); clear g1 g2 g3 g4 hb) | ((with_reducible refine gate_dst (N := 2) rfl ?_); refine box_event ?hg (N := 2) ?hd (cs := #[.int .i64 0, .slice none 0 0, .int .u32 0, .int .i64 0, .int .i64 0, .slice none 0 0, .slice none 0 0]) (t := 34) ?hr ?_; (case hd => rfl); (case hg => rfl); (case hr => first | (go_simp; done) | (go_simp; rfl)); intro ga hg w4 hbox hb; have BKC4 := Aside0.mk ((hb.block _ (blk_lt BKC3.out)).trans BKC3.out); have HB4 := Aside0.mk (below_step HB3.out hb); have BKA4 := Aside0.mk hbox; have GEA := Aside0.mk (show gc < ga from by rw [hg]; exact blk_lt BKC3.out); have HW4 := Aside0.mk (below_step HW3.out hb); have GA3 := Aside0.mk (show w3.heap.size ≤ ga from by rw [hg]; exact Nat.le_refl _); clear hbox hb hg) | ((with_reducible refine gate_store (t := 34) (p := 2) rfl ?_); refine store_new rfl 34 (.tmp 2) (.tmp 12) rfl [.int .i64 0, .slice X1 1 y1, .int .u32 167772169, .int .i64 (-1), .int .i64 (-1), .slice X5 0 0, .slice X6 0 0] (by rfl) (by rfl) BKA4.out (by rfl) (by kernel_rfl) (by intro v hv; simp only [List.mem_cons, List.not_mem_nil, or_false] at hv; rcases hv with rfl | rfl | rfl | rfl | rfl | rfl | rfl <;> rfl) ?_; intro w5 hx hg hs; have BKA5 := Aside0.mk hx; have HB5 := Aside0.mk (HB4.out.grown hg HB4.out.size (fun k e => by injection e with e; have := GEC.out; have := GEA.out; omega)); have HW5 := Aside0.mk (HW4.out.grown hg HW4.out.size (fun k e => by injection e with e; have := GA3.out; omega)); have BKC5 := Aside0.mk ((hg.block _ (blk_lt BKC4.out) (fun e => by injection e with e; have := GEA.out; omega)).trans BKC4.out); clear hx hg hs))
  go_wp2_with (first | ((with_reducible refine gate_dst (N := 14) rfl ?_); (try (refine gate_guard (by rfl) ?_; dsimp only)); refine load_blk rfl 34 (.tmp 2) rfl (g := ga) (off := 0) [.int .i64 0, .slice X1 1 y1, .int .u32 167772169, .int .i64 (-1), .int .i64 (-1), .slice X5 0 0, .slice X6 0 0] _ rfl BKA5.out (self_x _) Try.underlying34 rfl (by kernel_rfl) ?_) | ((with_reducible refine gate_dst (N := 16) rfl ?_); refine lit_event ?hg (N := 16) ?hd (inner := #[.int .u32 0, .int .i64 0, .int .i64 0, .slice X1 1 y1, .int .u32 167772169, .int .i64 (-1), .int .i64 (-1), .slice X5 0 0, .slice X6 0 0]) (e := 54) (n := 1) ?hr ?_; (case hd => rfl); (case hg => rfl); (case hr => first | (go_simp; done) | (go_simp; rfl)); intro gx w6 hg hbox hb; have BKX6 := Aside0.mk hbox; have BKC6 := Aside0.mk ((hb.block _ (blk_lt BKC5.out)).trans BKC5.out); have BKA6 := Aside0.mk ((hb.block _ (blk_lt BKA5.out)).trans BKA5.out); have HB6 := Aside0.mk (below_step HB5.out hb); have HW6 := Aside0.mk (below_step HW5.out hb); clear hg hbox hb) | (go_at_call 17; refine (delta_gen none (some ⟨gx, 0, none⟩) 0 1 [] [(⟨⟨0, 0⟩, ⟨0, prependV [] 1, 167772169, -1, -1, [], []⟩⟩ : S54)] _ (Kd.C_nil _ _) (Nat.le_refl _) (C_block1 (c := [.int .u32 0, .int .i64 0, .int .i64 0, .slice X1 1 y1, .int .u32 167772169, .int .i64 (-1), .int .i64 (-1), .slice X5 0 0, .slice X6 0 0]) BKX6.out rfl (k54_mk _ (⟨⟨0, 0⟩, ⟨0, prependV [] 1, 167772169, -1, -1, [], []⟩⟩ : S54) G1.out (Kd.C_below G2.out HW6.out) (Nat.le_refl _) (Kd.C_below G3.out HW6.out) (Nat.le_refl _) (Kd.C_below G4.out HW6.out))) (Nat.le_refl _) ans_can).mono ?_; rintro e w7 ⟨v7, rfl, hN, hb⟩; rw [ans_delta] at hN; obtain ⟨gR, cR, ev, _, _, _⟩ := Kd.N_form hN (by decide); have ev2 : v7 = .slice (some ⟨gR, 0, none⟩) 1 cR := ev; clear ev; subst ev2; obtain ⟨ad, A0_, c0_, A2_, c2_, A6_, c6_, A7_, c7_, A8_, c8_, eA, _, _, _, _, _, _, _, _, hc8, _⟩ := at_T57 (Kd.N_reads' hN).2.2 0 (by decide) (by decide); cases eA; replace hc8 : w7.cell? ⟨gR, 8, none⟩ = some (.slice A8_ 1 c8_) := hc8; have BKC7 := Aside0.mk ((hb.block _ (blk_lt BKC6.out)).trans BKC6.out); have BKA7 := Aside0.mk ((hb.block _ (blk_lt BKA6.out)).trans BKA6.out); have HB7 := Aside0.mk (below_step HB6.out hb); have ha1 : w7.cell? ⟨ga, 1, none⟩ = some (.slice X1 1 y1) := (blk_cell BKA7.out 1).trans rfl; have ha2 : w7.cell? ⟨ga, 2, none⟩ = some (.int .u32 167772169) := (blk_cell BKA7.out 2).trans rfl; have hc2 : w7.cell? ⟨gc, 2, none⟩ = some (.int .u32 167772169) := (blk_cell BKC7.out 2).trans rfl; clear hb hN))
  go_ret
  exact ⟨rfl, HB7.out⟩
def interregnumlaw16_answers.f : Option (Bool) := some true
theorem interregnumlaw16_answers.calls (r : Bool) (w : World) (h : interregnumlaw16_answers.f = some r) :
    Calls Try.prog 9 #[] w fun e w' => e = .returned (.bool r) ∧ Below w.heap.size w w' := by
  obtain rfl := Option.some.inj h
  exact answers_ w


end Go.Proofs.Ytjdebhkdbdbepaa.PExportGone
