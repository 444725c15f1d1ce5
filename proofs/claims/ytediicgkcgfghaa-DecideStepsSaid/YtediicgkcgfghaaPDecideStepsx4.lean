-- Lean text by a program of this repo (wip/tools/printx.py), out of Lean's own print of the translation
import Derived.Test.YtediicgkcgfghaaHelp
import Derived.Test.YtediicgkcgfghaaFlo
import Derived.Laws.Cover2
import Derived.Laws.FloatBits
import Derived.Test.YtediicgkcgfghaaPDecideStepsx0
import Derived.Test.YtediicgkcgfghaaPDecideStepsx2
import Derived.Test.YtediicgkcgfghaaPDecideStepsx3
namespace Go.Proofs.Ytediicgkcgfghaa.PDecideSteps
open Go.RowKit Go.Proofs.YtediicgkcgfghaaW.PrintWords Go.Proofs.YtediicgkcgfghaaW.PrintLast Go.Proofs.YtediicgkcgfghaaW.PrintMore
attribute [local go_sem] max2_int min2_int max_two min_two max_three min_three max_four min_four   -- for this text's walks alone
set_option linter.unusedVariables false
set_option linter.unusedSimpArgs false

/-! ### interregnumlaw15_DecideSteps: function 7 -/
-- FN rounds=0 making=1
-- IMPORT Derived.Laws.FloatBits
-- IMPORT Derived.Laws.Cover2
-- IMPORT Derived.Test.YtediicgkcgfghaaFlo
-- IMPORT Derived.Test.YtediicgkcgfghaaHelp
open Go.Proofs.Ytediicgkcgfghaa.Help
theorem C_block {α : Type} {d : Kd α} {w : World} {g e : Nat} {cells : Array Value} (hb : w.heap[g]? = some (.cells cells e (0, 0))) (xs : List α) (cs : List (List Value)) (hl : cs.length = xs.length) (hm : xs.length < 4000)
    (hk : ∀ (j : Nat) (x : α) (c : List Value), xs[j]? = some x → cs[j]? = some c → c.length = d.sz ∧ d.K w x c ∧ ∀ i u, c[i]? = some u → cells[j * d.sz + i]? = some u) : Kd.C d w (some ⟨g, 0, none⟩) xs.length xs := by
  refine ⟨rfl, by omega, fun _ => ⟨_, rfl, fun j p hj => ?_⟩⟩
  obtain ⟨hjl, _⟩ := List.getElem?_eq_some_iff.1 hj
  obtain ⟨h1, h2, h3⟩ := hk j p cs[j] hj (List.getElem?_eq_getElem (by omega))
  refine ⟨_, h1, h2, fun i u hi => ?_⟩
  have := h3 i u hi
  rw [← this]
  have e : (⟨g, 0, none⟩ : Addr).add (j * d.sz + i) = ⟨g, j * d.sz + i, none⟩ := by
    simp [Addr.add]
    intro h1 h2
    omega
  rw [e]
  exact blk_cell hb _
def sX (q a : Int) : S41 := if q = 0 then (⟨(⟨0, 0⟩ : S34), 1, (⟨0, [(⟨false, [7, 8]⟩ : S47)], 0, (-1), a, [], []⟩ : S39), 0⟩ : S41) else (if q = 1 then (⟨(⟨0, 0⟩ : S34), 1, (⟨0, [(⟨false, [7] ++ List.replicate (a % 9).toNat 0⟩ : S47)], 0, (-1), 100, [], []⟩ : S39), 0⟩ : S41) else (if q = 2 then (⟨(⟨0, 0⟩ : S34), 1, (⟨a % 3, [(⟨false, [7, 8]⟩ : S47)], 0, (-1), 100, [], []⟩ : S39), 0⟩ : S41) else (if q = 3 then (⟨(⟨0, 0⟩ : S34), 1, (⟨0, [(⟨false, [7, 8]⟩ : S47)], 0, a, 100, [], []⟩ : S39), 0⟩ : S41) else (if q = 4 then (⟨(⟨0, 0⟩ : S34), 1, (⟨0, [(⟨false, [7, 8]⟩ : S47)], 0, (-1), 100, [], []⟩ : S39), 0⟩ : S41) else (if q = 5 then (⟨(⟨0, 0⟩ : S34), 1, (⟨0, [(⟨false, [7, 8]⟩ : S47)], 0, (-1), 100, [], []⟩ : S39), 0⟩ : S41) else ((⟨(⟨0, 0⟩ : S34), 1, (⟨0, [(⟨false, [7, 8]⟩ : S47)], 0, (-1), 100, [], []⟩ : S39), a % 3⟩ : S41)))))))
def sY (q a : Int) : S41 := if q = 0 then (⟨(⟨0, 0⟩ : S34), 2, (⟨0, [(⟨false, [7, 8]⟩ : S47)], 0, (-1), a, [], []⟩ : S39), 0⟩ : S41) else (if q = 1 then (⟨(⟨0, 0⟩ : S34), 2, (⟨0, [(⟨false, [7] ++ List.replicate (a % 9).toNat 0⟩ : S47)], 0, (-1), 100, [], []⟩ : S39), 0⟩ : S41) else (if q = 2 then (⟨(⟨0, 0⟩ : S34), 2, (⟨a % 3, [(⟨false, [7, 8]⟩ : S47)], 0, (-1), 100, [], []⟩ : S39), 0⟩ : S41) else (if q = 3 then (⟨(⟨0, 0⟩ : S34), 2, (⟨0, [(⟨false, [7, 8]⟩ : S47)], 0, a, 100, [], []⟩ : S39), 0⟩ : S41) else (if q = 4 then (⟨(⟨0, 0⟩ : S34), 2, (⟨0, [(⟨false, [7, 8]⟩ : S47)], 0, (-1), 100, [], []⟩ : S39), 0⟩ : S41) else (if q = 5 then (⟨(⟨0, 0⟩ : S34), 2, (⟨0, [(⟨false, [7, 8]⟩ : S47)], 0, (-1), 100, [], []⟩ : S39), 0⟩ : S41) else ((⟨(⟨0, 0⟩ : S34), 2, (⟨0, [(⟨false, [7, 8]⟩ : S47)], 0, (-1), 100, [], []⟩ : S39), a % 3⟩ : S41)))))))
def sI (q a1 a2 : Int) : List S49 := if q = 0 then [(⟨1, 2, 5⟩ : S49), (⟨2, 2, 5⟩ : S49)] else (if q = 1 then [(⟨1, 2, 5⟩ : S49), (⟨2, 2, 5⟩ : S49)] else (if q = 2 then [(⟨1, 2, 5⟩ : S49), (⟨2, 2, 5⟩ : S49)] else (if q = 3 then [(⟨1, 2, 5⟩ : S49), (⟨2, 2, 5⟩ : S49)] else (if q = 4 then [(⟨1, 1 + a1 % 2, 5⟩ : S49), (⟨2, 1 + a2 % 2, 5⟩ : S49)] else (if q = 5 then [(⟨1, 2, a1⟩ : S49), (⟨2, 2, a2⟩ : S49)] else ([(⟨1, 2, 5⟩ : S49), (⟨2, 2, 5⟩ : S49)]))))))
def sF (q a1 a2 : Int) : Bool := if q = 0 then decide (a2 ≤ a1) else (if q = 1 then decide (a1 % 9 ≤ a2 % 9) else (if q = 2 then decide (a1 % 3 ≤ a2 % 3) else (if q = 3 then decide (a1 ≤ a2) else (if q = 4 then decide (a2 % 2 ≤ a1 % 2) else (if q = 5 then decide (a1 ≤ a2) else ((!(decide (a1 % 3 = 2)) || decide (a2 % 3 = 2))))))))
def stepsOk (a0 a1 a2 : Int) : Prop := (0 ≤ a0 ∧ a0 < 256) ∧ (0 ≤ a1 ∧ a1 < 65536) ∧ (0 ≤ a2 ∧ a2 < 65536) ∧ interregnumlaw15_answers.f = some true ∧
  decide_Best.f 1 (sI (a0.tmod 7) a1 a2) [sX (a0.tmod 7) a1, sY (a0.tmod 7) a2] = some (if sF (a0.tmod 7) a1 a2 = true then 0 else 1, true) ∧
  decide_Best.f 1 (sI (a0.tmod 7) a1 a2) [sY (a0.tmod 7) a2, sX (a0.tmod 7) a1] = some (if sF (a0.tmod 7) a1 a2 = true then 1 else 0, true)
instance (a0 a1 a2 : Int) : Decidable (stepsOk a0 a1 a2) := by unfold stepsOk; infer_instance
theorem C_block1 {α : Type} {d : Kd α} {w : World} {g e : Nat} {c : List Value} {x : α} (hb : w.heap[g]? = some (.cells c.toArray e (0, 0))) (hl : c.length = d.sz) (hk : d.K w x c) : Kd.C d w (some ⟨g, 0, none⟩) 1 [x] := by
  refine C_block hb [x] [c] rfl (by simp) (fun j y c' hy hc => ?_)
  rcases j with _ | j
  · simp only [List.getElem?_cons_zero, Option.some.injEq] at hy hc
    subst hy
    subst hc
    exact ⟨hl, hk, fun i u hi => by simpa using hi⟩
  · simp at hy
theorem C_block2 {α : Type} {d : Kd α} {w : World} {g e : Nat} {c1 c2 : List Value} {x y : α} (hb : w.heap[g]? = some (.cells (c1 ++ c2).toArray e (0, 0))) (hl1 : c1.length = d.sz) (hl2 : c2.length = d.sz) (hk1 : d.K w x c1) (hk2 : d.K w y c2) : Kd.C d w (some ⟨g, 0, none⟩) 2 [x, y] := by
  refine C_block hb [x, y] [c1, c2] rfl (by simp) (fun j z c' hz hc => ?_)
  rcases j with _ | _ | j
  · simp only [List.getElem?_cons_zero, Option.some.injEq] at hz hc
    subst hz
    subst hc
    refine ⟨hl1, hk1, fun i u hi => ?_⟩
    obtain ⟨h, _⟩ := List.getElem?_eq_some_iff.1 hi
    rw [Nat.zero_mul, Nat.zero_add, List.getElem?_toArray, List.getElem?_append_left h]
    exact hi
  · simp only [List.getElem?_cons_zero, List.getElem?_cons_succ, Nat.zero_add, Option.some.injEq] at hz hc
    subst hz
    subst hc
    refine ⟨hl2, hk2, fun i u hi => ?_⟩
    rw [Nat.zero_add, Nat.one_mul, List.getElem?_toArray, List.getElem?_append_right (by omega), hl1, Nat.add_sub_cancel_left]
    exact hi
  · simp at hz
set_option maxHeartbeats 8000000 in
set_option maxRecDepth 100000 in
theorem steps_walk (a0 a1 a2 : Int) (w : World) (hok : stepsOk a0 a1 a2) :
    Calls Try.prog 7 #[.int .u8 a0, .int .u16 a1, .int .u16 a2] w fun e w' => e = .returned (.bool true) ∧ Below w.heap.size w w' := by
  obtain ⟨h0, h1, h2, hans, hf1, hf2⟩ := hok
  have HA0 := Aside0.mk h0
  have HA1 := Aside0.mk h1
  have HA2 := Aside0.mk h2
  have HANS := Aside0.mk hans
  have HF1 := Aside0.mk hf1
  have HF2 := Aside0.mk hf2
  clear h0 h1 h2 hans hf1 hf2
  have hu41 := Try.underlying41
  have hu39 := Try.underlying39
  have hu47 := Try.underlying47
  have hu49 := Try.underlying49
  go_enter Try.func7, Try.ntmps7
  go_upto_region 2 with (first | ((with_reducible refine gate_dst (N := 7) rfl ?_); refine box_event ?hg (N := 7) ?hd (cs := #[.int .u32 0, .int .i64 0, .int .i64 0, .int .i64 0, .slice none 0 0, .int .u32 0, .int .i64 0, .int .i64 0, .slice none 0 0, .slice none 0 0, .int .i64 0]) (t := 41) ?hr ?_; (case hd => rfl); (case hg => rfl); (case hr => first | (go_simp; done) | (go_simp; rfl)); intro g7 hg w7 hbox hb; have HB7 := Aside0.mk hb; have BK7 := Aside0.mk hbox; have GE7 := Aside0.mk (show w.heap.size + 2 ≤ g7 from by rw [hg]; simp); have hz0 := (show w7.cell? ⟨g7, 0, none⟩ = some (.int .u32 0) from (blk_cell hbox 0).trans rfl); have hf0 := blk_frozen hbox 0; have hz1 := (show w7.cell? ⟨g7, 1, none⟩ = some (.int .i64 0) from (blk_cell hbox 1).trans rfl); have hf1 := blk_frozen hbox 1; have hz2 := (show w7.cell? ⟨g7, 2, none⟩ = some (.int .i64 0) from (blk_cell hbox 2).trans rfl); have hf2 := blk_frozen hbox 2; have hz3 := (show w7.cell? ⟨g7, 3, none⟩ = some (.int .i64 0) from (blk_cell hbox 3).trans rfl); have hf3 := blk_frozen hbox 3; have hz4 := (show w7.cell? ⟨g7, 4, none⟩ = some (.slice none 0 0) from (blk_cell hbox 4).trans rfl); have hf4 := blk_frozen hbox 4; have hz5 := (show w7.cell? ⟨g7, 5, none⟩ = some (.int .u32 0) from (blk_cell hbox 5).trans rfl); have hf5 := blk_frozen hbox 5; have hz6 := (show w7.cell? ⟨g7, 6, none⟩ = some (.int .i64 0) from (blk_cell hbox 6).trans rfl); have hf6 := blk_frozen hbox 6; have hz7 := (show w7.cell? ⟨g7, 7, none⟩ = some (.int .i64 0) from (blk_cell hbox 7).trans rfl); have hf7 := blk_frozen hbox 7; have hz8 := (show w7.cell? ⟨g7, 8, none⟩ = some (.slice none 0 0) from (blk_cell hbox 8).trans rfl); have hf8 := blk_frozen hbox 8; have hz9 := (show w7.cell? ⟨g7, 9, none⟩ = some (.slice none 0 0) from (blk_cell hbox 9).trans rfl); have hf9 := blk_frozen hbox 9; have hz10 := (show w7.cell? ⟨g7, 10, none⟩ = some (.int .i64 0) from (blk_cell hbox 10).trans rfl); have hf10 := blk_frozen hbox 10; clear hbox hb hg))
  have BX := Aside0.mk (show (((((((((((w7.setCell ⟨g7, 0, none⟩ (.int .u32 0)).setCell ⟨g7, 1, none⟩ (.int .i64 0)).setCell ⟨g7, 2, none⟩ (.int .i64 1)).setCell ⟨g7, 3, none⟩ (.int .i64 0)).setCell ⟨g7, 4, none⟩ (.slice (some ⟨w.heap.size + 1, 0, none⟩) 1 1)).setCell ⟨g7, 5, none⟩ (.int .u32 0)).setCell ⟨g7, 6, none⟩ (.int .i64 (-1))).setCell ⟨g7, 7, none⟩ (.int .i64 100)).setCell ⟨g7, 8, none⟩ (.slice none 0 0)).setCell ⟨g7, 9, none⟩ (.slice none 0 0)).setCell ⟨g7, 10, none⟩ (.int .i64 0)).heap[g7]? = some (.cells #[.int .u32 0, .int .i64 0, .int .i64 1, .int .i64 0, .slice (some ⟨w.heap.size + 1, 0, none⟩) 1 1, .int .u32 0, .int .i64 (-1), .int .i64 100, .slice none 0 0, .slice none 0 0, .int .i64 0] 41 (0, 0)) from by
    refine blk_put (cs := #[.int .u32 0, .int .i64 0, .int .i64 1, .int .i64 0, .slice (some ⟨w.heap.size + 1, 0, none⟩) 1 1, .int .u32 0, .int .i64 (-1), .int .i64 100, .slice none 0 0, .slice none 0 0, .int .i64 0]) ?_ 10 _ rfl
    refine blk_put (cs := #[.int .u32 0, .int .i64 0, .int .i64 1, .int .i64 0, .slice (some ⟨w.heap.size + 1, 0, none⟩) 1 1, .int .u32 0, .int .i64 (-1), .int .i64 100, .slice none 0 0, .slice none 0 0, .int .i64 0]) ?_ 9 _ rfl
    refine blk_put (cs := #[.int .u32 0, .int .i64 0, .int .i64 1, .int .i64 0, .slice (some ⟨w.heap.size + 1, 0, none⟩) 1 1, .int .u32 0, .int .i64 (-1), .int .i64 100, .slice none 0 0, .slice none 0 0, .int .i64 0]) ?_ 8 _ rfl
    refine blk_put (cs := #[.int .u32 0, .int .i64 0, .int .i64 1, .int .i64 0, .slice (some ⟨w.heap.size + 1, 0, none⟩) 1 1, .int .u32 0, .int .i64 (-1), .int .i64 0, .slice none 0 0, .slice none 0 0, .int .i64 0]) ?_ 7 _ rfl
    refine blk_put (cs := #[.int .u32 0, .int .i64 0, .int .i64 1, .int .i64 0, .slice (some ⟨w.heap.size + 1, 0, none⟩) 1 1, .int .u32 0, .int .i64 0, .int .i64 0, .slice none 0 0, .slice none 0 0, .int .i64 0]) ?_ 6 _ rfl
    refine blk_put (cs := #[.int .u32 0, .int .i64 0, .int .i64 1, .int .i64 0, .slice (some ⟨w.heap.size + 1, 0, none⟩) 1 1, .int .u32 0, .int .i64 0, .int .i64 0, .slice none 0 0, .slice none 0 0, .int .i64 0]) ?_ 5 _ rfl
    refine blk_put (cs := #[.int .u32 0, .int .i64 0, .int .i64 1, .int .i64 0, .slice none 0 0, .int .u32 0, .int .i64 0, .int .i64 0, .slice none 0 0, .slice none 0 0, .int .i64 0]) ?_ 4 _ rfl
    refine blk_put (cs := #[.int .u32 0, .int .i64 0, .int .i64 1, .int .i64 0, .slice none 0 0, .int .u32 0, .int .i64 0, .int .i64 0, .slice none 0 0, .slice none 0 0, .int .i64 0]) ?_ 3 _ rfl
    refine blk_put (cs := #[.int .u32 0, .int .i64 0, .int .i64 0, .int .i64 0, .slice none 0 0, .int .u32 0, .int .i64 0, .int .i64 0, .slice none 0 0, .slice none 0 0, .int .i64 0]) ?_ 2 _ rfl
    refine blk_put (cs := #[.int .u32 0, .int .i64 0, .int .i64 0, .int .i64 0, .slice none 0 0, .int .u32 0, .int .i64 0, .int .i64 0, .slice none 0 0, .slice none 0 0, .int .i64 0]) ?_ 1 _ rfl
    refine blk_put (cs := #[.int .u32 0, .int .i64 0, .int .i64 0, .int .i64 0, .slice none 0 0, .int .u32 0, .int .i64 0, .int .i64 0, .slice none 0 0, .slice none 0 0, .int .i64 0]) ?_ 0 _ rfl
    exact BK7.out)
  have HB8 := Aside0.mk (show Below (w.heap.size + 2) ((w.alloc (.cells #[.int .i64 7, .int .i64 8] 3)).alloc (.cells #[.bool false, .slice (some ⟨w.heap.size, 0, none⟩) 2 2] 47)) (((((((((((w7.setCell ⟨g7, 0, none⟩ (.int .u32 0)).setCell ⟨g7, 1, none⟩ (.int .i64 0)).setCell ⟨g7, 2, none⟩ (.int .i64 1)).setCell ⟨g7, 3, none⟩ (.int .i64 0)).setCell ⟨g7, 4, none⟩ (.slice (some ⟨w.heap.size + 1, 0, none⟩) 1 1)).setCell ⟨g7, 5, none⟩ (.int .u32 0)).setCell ⟨g7, 6, none⟩ (.int .i64 (-1))).setCell ⟨g7, 7, none⟩ (.int .i64 100)).setCell ⟨g7, 8, none⟩ (.slice none 0 0)).setCell ⟨g7, 9, none⟩ (.slice none 0 0)).setCell ⟨g7, 10, none⟩ (.int .i64 0)) from by
    repeat (refine Below.setCell ?_ GE7.out _)
    exact HB7.out.mono (by simp))
  clear BK7 HB7 hz0 hf0 hz1 hf1 hz2 hf2 hz3 hf3 hz4 hf4 hz5 hf5 hz6 hf6 hz7 hf7 hz8 hf8 hz9 hf9 hz10 hf10
  generalize (((((((((((w7.setCell ⟨g7, 0, none⟩ (.int .u32 0)).setCell ⟨g7, 1, none⟩ (.int .i64 0)).setCell ⟨g7, 2, none⟩ (.int .i64 1)).setCell ⟨g7, 3, none⟩ (.int .i64 0)).setCell ⟨g7, 4, none⟩ (.slice (some ⟨w.heap.size + 1, 0, none⟩) 1 1)).setCell ⟨g7, 5, none⟩ (.int .u32 0)).setCell ⟨g7, 6, none⟩ (.int .i64 (-1))).setCell ⟨g7, 7, none⟩ (.int .i64 100)).setCell ⟨g7, 8, none⟩ (.slice none 0 0)).setCell ⟨g7, 9, none⟩ (.slice none 0 0)).setCell ⟨g7, 10, none⟩ (.int .i64 0)) = w8 at BX HB8 ⊢
  have hx := BX.out
  have hx0 : w8.cell? ⟨g7, 0, none⟩ = some (.int .u32 0) := (blk_cell BX.out 0).trans rfl
  have hx1 : w8.cell? ⟨g7, 1, none⟩ = some (.int .i64 0) := (blk_cell BX.out 1).trans rfl
  have hx2 : w8.cell? ⟨g7, 2, none⟩ = some (.int .i64 1) := (blk_cell BX.out 2).trans rfl
  have hx3 : w8.cell? ⟨g7, 3, none⟩ = some (.int .i64 0) := (blk_cell BX.out 3).trans rfl
  have hx4 : w8.cell? ⟨g7, 4, none⟩ = some (.slice (some ⟨w.heap.size + 1, 0, none⟩) 1 1) := (blk_cell BX.out 4).trans rfl
  have hx5 : w8.cell? ⟨g7, 5, none⟩ = some (.int .u32 0) := (blk_cell BX.out 5).trans rfl
  have hx6 : w8.cell? ⟨g7, 6, none⟩ = some (.int .i64 (-1)) := (blk_cell BX.out 6).trans rfl
  have hx7 : w8.cell? ⟨g7, 7, none⟩ = some (.int .i64 100) := (blk_cell BX.out 7).trans rfl
  have hx8 : w8.cell? ⟨g7, 8, none⟩ = some (.slice none 0 0) := (blk_cell BX.out 8).trans rfl
  have hx9 : w8.cell? ⟨g7, 9, none⟩ = some (.slice none 0 0) := (blk_cell BX.out 9).trans rfl
  have hx10 : w8.cell? ⟨g7, 10, none⟩ = some (.int .i64 0) := (blk_cell BX.out 10).trans rfl
  clear hx
  go_upto_region 3 with (first | ((with_reducible refine gate_dst (N := 8) rfl ?_); refine box_event ?hg (N := 8) ?hd (cs := #[.int .u32 0, .int .i64 0, .int .i64 0, .int .i64 0, .slice none 0 0, .int .u32 0, .int .i64 0, .int .i64 0, .slice none 0 0, .slice none 0 0, .int .i64 0]) (t := 41) ?hr ?_; (case hd => rfl); (case hg => rfl); (case hr => first | (go_simp; done) | (go_simp; rfl)); intro g8 hg w8 hbox hb; have HB9 := Aside0.mk hb; have BK8 := Aside0.mk hbox; have GE8 := Aside0.mk (show g7 < g8 from by rw [hg]; exact blk_lt BX.out); have hz0 := (show w8.cell? ⟨g8, 0, none⟩ = some (.int .u32 0) from (blk_cell hbox 0).trans rfl); have hf0 := blk_frozen hbox 0; have hz1 := (show w8.cell? ⟨g8, 1, none⟩ = some (.int .i64 0) from (blk_cell hbox 1).trans rfl); have hf1 := blk_frozen hbox 1; have hz2 := (show w8.cell? ⟨g8, 2, none⟩ = some (.int .i64 0) from (blk_cell hbox 2).trans rfl); have hf2 := blk_frozen hbox 2; have hz3 := (show w8.cell? ⟨g8, 3, none⟩ = some (.int .i64 0) from (blk_cell hbox 3).trans rfl); have hf3 := blk_frozen hbox 3; have hz4 := (show w8.cell? ⟨g8, 4, none⟩ = some (.slice none 0 0) from (blk_cell hbox 4).trans rfl); have hf4 := blk_frozen hbox 4; have hz5 := (show w8.cell? ⟨g8, 5, none⟩ = some (.int .u32 0) from (blk_cell hbox 5).trans rfl); have hf5 := blk_frozen hbox 5; have hz6 := (show w8.cell? ⟨g8, 6, none⟩ = some (.int .i64 0) from (blk_cell hbox 6).trans rfl); have hf6 := blk_frozen hbox 6; have hz7 := (show w8.cell? ⟨g8, 7, none⟩ = some (.int .i64 0) from (blk_cell hbox 7).trans rfl); have hf7 := blk_frozen hbox 7; have hz8 := (show w8.cell? ⟨g8, 8, none⟩ = some (.slice none 0 0) from (blk_cell hbox 8).trans rfl); have hf8 := blk_frozen hbox 8; have hz9 := (show w8.cell? ⟨g8, 9, none⟩ = some (.slice none 0 0) from (blk_cell hbox 9).trans rfl); have hf9 := blk_frozen hbox 9; have hz10 := (show w8.cell? ⟨g8, 10, none⟩ = some (.int .i64 0) from (blk_cell hbox 10).trans rfl); have hf10 := blk_frozen hbox 10; clear hbox hb hg))
  have BY := Aside0.mk (show (((((((((((w8.setCell ⟨g8, 0, none⟩ (.int .u32 0)).setCell ⟨g8, 1, none⟩ (.int .i64 0)).setCell ⟨g8, 2, none⟩ (.int .i64 1)).setCell ⟨g8, 3, none⟩ (.int .i64 0)).setCell ⟨g8, 4, none⟩ (.slice (some ⟨w.heap.size + 1, 0, none⟩) 1 1)).setCell ⟨g8, 5, none⟩ (.int .u32 0)).setCell ⟨g8, 6, none⟩ (.int .i64 (-1))).setCell ⟨g8, 7, none⟩ (.int .i64 100)).setCell ⟨g8, 8, none⟩ (.slice none 0 0)).setCell ⟨g8, 9, none⟩ (.slice none 0 0)).setCell ⟨g8, 10, none⟩ (.int .i64 0)).heap[g8]? = some (.cells #[.int .u32 0, .int .i64 0, .int .i64 1, .int .i64 0, .slice (some ⟨w.heap.size + 1, 0, none⟩) 1 1, .int .u32 0, .int .i64 (-1), .int .i64 100, .slice none 0 0, .slice none 0 0, .int .i64 0] 41 (0, 0)) from by
    refine blk_put (cs := #[.int .u32 0, .int .i64 0, .int .i64 1, .int .i64 0, .slice (some ⟨w.heap.size + 1, 0, none⟩) 1 1, .int .u32 0, .int .i64 (-1), .int .i64 100, .slice none 0 0, .slice none 0 0, .int .i64 0]) ?_ 10 _ rfl
    refine blk_put (cs := #[.int .u32 0, .int .i64 0, .int .i64 1, .int .i64 0, .slice (some ⟨w.heap.size + 1, 0, none⟩) 1 1, .int .u32 0, .int .i64 (-1), .int .i64 100, .slice none 0 0, .slice none 0 0, .int .i64 0]) ?_ 9 _ rfl
    refine blk_put (cs := #[.int .u32 0, .int .i64 0, .int .i64 1, .int .i64 0, .slice (some ⟨w.heap.size + 1, 0, none⟩) 1 1, .int .u32 0, .int .i64 (-1), .int .i64 100, .slice none 0 0, .slice none 0 0, .int .i64 0]) ?_ 8 _ rfl
    refine blk_put (cs := #[.int .u32 0, .int .i64 0, .int .i64 1, .int .i64 0, .slice (some ⟨w.heap.size + 1, 0, none⟩) 1 1, .int .u32 0, .int .i64 (-1), .int .i64 0, .slice none 0 0, .slice none 0 0, .int .i64 0]) ?_ 7 _ rfl
    refine blk_put (cs := #[.int .u32 0, .int .i64 0, .int .i64 1, .int .i64 0, .slice (some ⟨w.heap.size + 1, 0, none⟩) 1 1, .int .u32 0, .int .i64 0, .int .i64 0, .slice none 0 0, .slice none 0 0, .int .i64 0]) ?_ 6 _ rfl
    refine blk_put (cs := #[.int .u32 0, .int .i64 0, .int .i64 1, .int .i64 0, .slice (some ⟨w.heap.size + 1, 0, none⟩) 1 1, .int .u32 0, .int .i64 0, .int .i64 0, .slice none 0 0, .slice none 0 0, .int .i64 0]) ?_ 5 _ rfl
    refine blk_put (cs := #[.int .u32 0, .int .i64 0, .int .i64 1, .int .i64 0, .slice none 0 0, .int .u32 0, .int .i64 0, .int .i64 0, .slice none 0 0, .slice none 0 0, .int .i64 0]) ?_ 4 _ rfl
    refine blk_put (cs := #[.int .u32 0, .int .i64 0, .int .i64 1, .int .i64 0, .slice none 0 0, .int .u32 0, .int .i64 0, .int .i64 0, .slice none 0 0, .slice none 0 0, .int .i64 0]) ?_ 3 _ rfl
    refine blk_put (cs := #[.int .u32 0, .int .i64 0, .int .i64 0, .int .i64 0, .slice none 0 0, .int .u32 0, .int .i64 0, .int .i64 0, .slice none 0 0, .slice none 0 0, .int .i64 0]) ?_ 2 _ rfl
    refine blk_put (cs := #[.int .u32 0, .int .i64 0, .int .i64 0, .int .i64 0, .slice none 0 0, .int .u32 0, .int .i64 0, .int .i64 0, .slice none 0 0, .slice none 0 0, .int .i64 0]) ?_ 1 _ rfl
    refine blk_put (cs := #[.int .u32 0, .int .i64 0, .int .i64 0, .int .i64 0, .slice none 0 0, .int .u32 0, .int .i64 0, .int .i64 0, .slice none 0 0, .slice none 0 0, .int .i64 0]) ?_ 0 _ rfl
    exact BK8.out)
  have far : ∀ (k : Nat), k ≠ g8 → (((((((((((w8.setCell ⟨g8, 0, none⟩ (.int .u32 0)).setCell ⟨g8, 1, none⟩ (.int .i64 0)).setCell ⟨g8, 2, none⟩ (.int .i64 1)).setCell ⟨g8, 3, none⟩ (.int .i64 0)).setCell ⟨g8, 4, none⟩ (.slice (some ⟨w.heap.size + 1, 0, none⟩) 1 1)).setCell ⟨g8, 5, none⟩ (.int .u32 0)).setCell ⟨g8, 6, none⟩ (.int .i64 (-1))).setCell ⟨g8, 7, none⟩ (.int .i64 100)).setCell ⟨g8, 8, none⟩ (.slice none 0 0)).setCell ⟨g8, 9, none⟩ (.slice none 0 0)).setCell ⟨g8, 10, none⟩ (.int .i64 0)).heap[k]? = w8.heap[k]? := fun k hk => by
    refine (Below.heap_setCell _ ⟨g8, _, none⟩ _ k hk).trans ?_
    refine (Below.heap_setCell _ ⟨g8, _, none⟩ _ k hk).trans ?_
    refine (Below.heap_setCell _ ⟨g8, _, none⟩ _ k hk).trans ?_
    refine (Below.heap_setCell _ ⟨g8, _, none⟩ _ k hk).trans ?_
    refine (Below.heap_setCell _ ⟨g8, _, none⟩ _ k hk).trans ?_
    refine (Below.heap_setCell _ ⟨g8, _, none⟩ _ k hk).trans ?_
    refine (Below.heap_setCell _ ⟨g8, _, none⟩ _ k hk).trans ?_
    refine (Below.heap_setCell _ ⟨g8, _, none⟩ _ k hk).trans ?_
    refine (Below.heap_setCell _ ⟨g8, _, none⟩ _ k hk).trans ?_
    refine (Below.heap_setCell _ ⟨g8, _, none⟩ _ k hk).trans ?_
    refine (Below.heap_setCell _ ⟨g8, _, none⟩ _ k hk).trans ?_
    rfl
  have BX9 := Aside0.mk (((far g7 (by have := GE8.out; omega)).trans (HB9.out.block g7 (blk_lt BX.out))).trans BX.out)
  have HB10 := Aside0.mk (show Below (w.heap.size + 2) ((w.alloc (.cells #[.int .i64 7, .int .i64 8] 3)).alloc (.cells #[.bool false, .slice (some ⟨w.heap.size, 0, none⟩) 2 2] 47)) (((((((((((w8.setCell ⟨g8, 0, none⟩ (.int .u32 0)).setCell ⟨g8, 1, none⟩ (.int .i64 0)).setCell ⟨g8, 2, none⟩ (.int .i64 1)).setCell ⟨g8, 3, none⟩ (.int .i64 0)).setCell ⟨g8, 4, none⟩ (.slice (some ⟨w.heap.size + 1, 0, none⟩) 1 1)).setCell ⟨g8, 5, none⟩ (.int .u32 0)).setCell ⟨g8, 6, none⟩ (.int .i64 (-1))).setCell ⟨g8, 7, none⟩ (.int .i64 100)).setCell ⟨g8, 8, none⟩ (.slice none 0 0)).setCell ⟨g8, 9, none⟩ (.slice none 0 0)).setCell ⟨g8, 10, none⟩ (.int .i64 0)) from by
    repeat (refine Below.setCell ?_ (show w.heap.size + 2 ≤ g8 by have := GE8.out; have := GE7.out; omega) _)
    exact HB8.out.trans (HB9.out.mono (by have := HB8.out.size; simp at this; omega)))
  clear far BX BK8 HB8 HB9 hz0 hf0 hz1 hf1 hz2 hf2 hz3 hf3 hz4 hf4 hz5 hf5 hz6 hf6 hz7 hf7 hz8 hf8 hz9 hf9 hz10 hf10 hx0 hx1 hx2 hx3 hx4 hx5 hx6 hx7 hx8 hx9 hx10
  generalize (((((((((((w8.setCell ⟨g8, 0, none⟩ (.int .u32 0)).setCell ⟨g8, 1, none⟩ (.int .i64 0)).setCell ⟨g8, 2, none⟩ (.int .i64 1)).setCell ⟨g8, 3, none⟩ (.int .i64 0)).setCell ⟨g8, 4, none⟩ (.slice (some ⟨w.heap.size + 1, 0, none⟩) 1 1)).setCell ⟨g8, 5, none⟩ (.int .u32 0)).setCell ⟨g8, 6, none⟩ (.int .i64 (-1))).setCell ⟨g8, 7, none⟩ (.int .i64 100)).setCell ⟨g8, 8, none⟩ (.slice none 0 0)).setCell ⟨g8, 9, none⟩ (.slice none 0 0)).setCell ⟨g8, 10, none⟩ (.int .i64 0)) = w9 at BY BX9 HB10 ⊢
  have hy2 : w9.cell? ⟨g8, 2, none⟩ = some (.int .i64 1) := (blk_cell BY.out 2).trans rfl
  have hfy2 := blk_frozen BY.out 2
  go_upto_region 4 with (fail)
  have BX := Aside0.mk ((Below.heap_setCell w9 ⟨g8, 2, none⟩ (.int .i64 2) g7 (by have := GE8.out; show g7 ≠ g8; omega)).trans BX9.out)
  have BY := Aside0.mk (show (w9.setCell ⟨g8, 2, none⟩ (.int .i64 2)).heap[g8]? = some (.cells #[.int .u32 0, .int .i64 0, .int .i64 2, .int .i64 0, .slice (some ⟨w.heap.size + 1, 0, none⟩) 1 1, .int .u32 0, .int .i64 (-1), .int .i64 100, .slice none 0 0, .slice none 0 0, .int .i64 0] 41 (0, 0)) from blk_put BY.out 2 _ rfl)
  have HB11 := Aside0.mk (Below.setCell (p := ⟨g8, 2, none⟩) HB10.out (show w.heap.size + 2 ≤ g8 by have := GE8.out; have := GE7.out; omega) (.int .i64 2))
  clear hy2 hfy2 BX9 HB10
  generalize w9.setCell ⟨g8, 2, none⟩ (.int .i64 2) = w10 at BX BY HB11 ⊢
  have BQ := Aside0.mk (show w10.heap[w.heap.size]? = some (.cells #[.int .i64 7, .int .i64 8] 3 (0, 0)) from (HB11.out.block w.heap.size (by omega)).trans (((below_alloc (Below.refl _ _) _).block _ (by simp)).trans (alloc_at w _)))
  have BP := Aside0.mk (show w10.heap[w.heap.size + 1]? = some (.cells #[.bool false, .slice (some ⟨w.heap.size, 0, none⟩) 2 2] 47 (0, 0)) from (HB11.out.block (w.heap.size + 1) (by omega)).trans (by simpa using alloc_at (w.alloc (.cells #[.int .i64 7, .int .i64 8] 3)) _))
  have HB := Aside0.mk (show Below w.heap.size w w10 from (below_alloc (below_alloc (Below.refl _ _) _) _).trans (HB11.out.mono (by omega)))
  have GE := Aside0.mk (show w.heap.size + 2 ≤ g7 ∧ g7 < g8 ∧ g8 < w10.heap.size from ⟨GE7.out, GE8.out, blk_lt BY.out⟩)
  clear HB11 GE7 GE8
  go_upto_region 7 with (fail)
  have BI := Aside0.mk (show (w10.alloc (.cells #[.int .i64 1, .int .i64 2, .int .u32 5, .int .i64 2, .int .i64 2, .int .u32 5] 49)).heap[w10.heap.size]? = some (.cells #[.int .i64 1, .int .i64 2, .int .u32 5, .int .i64 2, .int .i64 2, .int .u32 5] 49 (0, 0)) from alloc_at _ _)
  replace BX := Aside0.mk (((below_alloc (Below.refl _ w10) (.cells #[.int .i64 1, .int .i64 2, .int .u32 5, .int .i64 2, .int .i64 2, .int .u32 5] 49)).block g7 (blk_lt BX.out)).trans BX.out)
  replace BY := Aside0.mk (((below_alloc (Below.refl _ w10) (.cells #[.int .i64 1, .int .i64 2, .int .u32 5, .int .i64 2, .int .i64 2, .int .u32 5] 49)).block g8 (blk_lt BY.out)).trans BY.out)
  replace BQ := Aside0.mk (((below_alloc (Below.refl _ w10) (.cells #[.int .i64 1, .int .i64 2, .int .u32 5, .int .i64 2, .int .i64 2, .int .u32 5] 49)).block _ (blk_lt BQ.out)).trans BQ.out)
  replace BP := Aside0.mk (((below_alloc (Below.refl _ w10) (.cells #[.int .i64 1, .int .i64 2, .int .u32 5, .int .i64 2, .int .i64 2, .int .u32 5] 49)).block _ (blk_lt BP.out)).trans BP.out)
  replace HB := Aside0.mk (below_alloc HB.out (.cells #[.int .i64 1, .int .i64 2, .int .u32 5, .int .i64 2, .int .i64 2, .int .u32 5] 49))
  generalize w10.alloc (.cells #[.int .i64 1, .int .i64 2, .int .u32 5, .int .i64 2, .int .i64 2, .int .u32 5] 49) = wc at BI BX BY BQ BP HB ⊢
  generalize w10.heap.size = gi at BI GE ⊢
  generalize hgq : w.heap.size = gq at BQ BP BX BY GE ⊢
  have HGQ := Aside0.mk hgq
  clear hgq
  have hq : a0.tmod 7 = 0 ∨ a0.tmod 7 = 1 ∨ a0.tmod 7 = 2 ∨ a0.tmod 7 = 3 ∨ a0.tmod 7 = 4 ∨ a0.tmod 7 = 5 ∨ a0.tmod 7 = 6 := by
    rw [Int.tmod_eq_emod_of_nonneg HA0.out.1]
    omega
  have n78 : ¬ g7 = g8 := by have := GE.out; omega
  have n87 : ¬ g8 = g7 := by have := GE.out; omega
  have hw1 : wrap64 a1 = a1 := by have := HA1.out; unfold wrap64; omega
  have hw2 : wrap64 a2 = a2 := by have := HA2.out; unfold wrap64; omega
  rcases hq with hq | hq | hq | hq | hq | hq | hq
  · rw [hq] at HF1 HF2
    rw [hq]
    clear hq
    replace HF1 := Aside0.mk (show decide_Best.f 1 [(⟨1, 2, 5⟩ : S49), (⟨2, 2, 5⟩ : S49)] [(⟨(⟨0, 0⟩ : S34), 1, (⟨0, [(⟨false, [7, 8]⟩ : S47)], 0, (-1), a1, [], []⟩ : S39), 0⟩ : S41), (⟨(⟨0, 0⟩ : S34), 2, (⟨0, [(⟨false, [7, 8]⟩ : S47)], 0, (-1), a2, [], []⟩ : S39), 0⟩ : S41)] = some (if (decide (a2 ≤ a1)) = true then 0 else 1, true) from HF1.out)
    replace HF2 := Aside0.mk (show decide_Best.f 1 [(⟨1, 2, 5⟩ : S49), (⟨2, 2, 5⟩ : S49)] [(⟨(⟨0, 0⟩ : S34), 2, (⟨0, [(⟨false, [7, 8]⟩ : S47)], 0, (-1), a2, [], []⟩ : S39), 0⟩ : S41), (⟨(⟨0, 0⟩ : S34), 1, (⟨0, [(⟨false, [7, 8]⟩ : S47)], 0, (-1), a1, [], []⟩ : S39), 0⟩ : S41)] = some (if (decide (a2 ≤ a1)) = true then 1 else 0, true) from HF2.out)
    have hx7 : wc.cell? ⟨g7, 7, none⟩ = some (.int .i64 100) := (blk_cell BX.out 7).trans rfl
    have hfx7 := blk_frozen BX.out 7
    have hy7 : wc.cell? ⟨g8, 7, none⟩ = some (.int .i64 100) := (blk_cell BY.out 7).trans rfl
    have hfy7 := blk_frozen BY.out 7
    go_upto_region 29 with (fail)
    clear hw1 hw2 
    have far : ∀ (k : Nat), k ≠ g7 → k ≠ g8 → ((wc.setCell ⟨g7, 7, none⟩ (.int .i64 (a1))).setCell ⟨g8, 7, none⟩ (.int .i64 (a2))).heap[k]? = wc.heap[k]? := fun k h1 h2 => (Below.heap_setCell _ ⟨g8, _, none⟩ _ k h2).trans (Below.heap_setCell _ ⟨g7, _, none⟩ _ k h1)
    replace BX := Aside0.mk (show ((wc.setCell ⟨g7, 7, none⟩ (.int .i64 (a1))).setCell ⟨g8, 7, none⟩ (.int .i64 (a2))).heap[g7]? = some (.cells #[.int .u32 0, .int .i64 0, .int .i64 1, .int .i64 0, .slice (some ⟨gq + 1, 0, none⟩) 1 1, .int .u32 0, .int .i64 (-1), .int .i64 (a1), .slice none 0 0, .slice none 0 0, .int .i64 0] 41 (0, 0)) from (Below.heap_setCell _ ⟨g8, _, none⟩ _ g7 n78).trans (blk_put BX.out 7 _ rfl))
    replace BY := Aside0.mk (show ((wc.setCell ⟨g7, 7, none⟩ (.int .i64 (a1))).setCell ⟨g8, 7, none⟩ (.int .i64 (a2))).heap[g8]? = some (.cells #[.int .u32 0, .int .i64 0, .int .i64 2, .int .i64 0, .slice (some ⟨gq + 1, 0, none⟩) 1 1, .int .u32 0, .int .i64 (-1), .int .i64 (a2), .slice none 0 0, .slice none 0 0, .int .i64 0] 41 (0, 0)) from blk_put ((Below.heap_setCell _ ⟨g7, _, none⟩ _ g8 n87).trans BY.out) 7 _ rfl)
    replace BI := Aside0.mk ((far gi (by have := GE.out; omega) (by have := GE.out; omega)).trans BI.out)
    replace BQ := Aside0.mk ((far gq (by have := GE.out; omega) (by have := GE.out; omega)).trans BQ.out)
    replace BP := Aside0.mk ((far (gq + 1) (by have := GE.out; omega) (by have := GE.out; omega)).trans BP.out)
    replace HB := Aside0.mk (Below.setCell (p := ⟨g8, 7, none⟩) (Below.setCell (p := ⟨g7, 7, none⟩) HB.out (by have := GE.out; have := HGQ.out; show _ ≤ g7; omega) (.int .i64 (a1))) (by have := GE.out; have := HGQ.out; show _ ≤ g8; omega) (.int .i64 (a2)))
    clear far n78 n87 hx7 hfx7 hy7 hfy7
    generalize ((wc.setCell ⟨g7, 7, none⟩ (.int .i64 (a1))).setCell ⟨g8, 7, none⟩ (.int .i64 (a2))) = wt at BX BY BI BQ BP HB ⊢
    have CQ := (C_block2 (c1 := [.int .i64 7]) (c2 := [.int .i64 8]) (x := (7 : Int)) (y := 8) (d := Kd.int .i64) BQ.out rfl rfl rfl rfl)
    have CX := Aside0.mk (C_block1 (c := [.bool false, .slice (some ⟨gq, 0, none⟩) 2 2]) (x := (⟨false, [7, 8]⟩ : S47)) (d := k47) BP.out rfl (k47_mk _ _ (Nat.le_refl _) CQ))
    have CY := Aside0.mk CX.out
    have CI := Aside0.mk (C_block2 (c1 := [.int .i64 1, .int .i64 2, .int .u32 5]) (c2 := [.int .i64 2, .int .i64 2, .int .u32 5]) (x := (⟨1, 2, 5⟩ : S49)) (y := (⟨2, 2, 5⟩ : S49)) (d := k49) BI.out rfl rfl (k49_mk _ _) (k49_mk _ _))
    clear CQ BQ BP BI
    by_cases hc : a2 ≤ a1
    · have hd : decide (a2 ≤ a1) = true := decide_eq_true hc
      rw [hd] at HF1 HF2
      rw [hd]
      clear hc hd
      replace HF1 := Aside0.mk (show decide_Best.f 1 [(⟨1, 2, 5⟩ : S49), (⟨2, 2, 5⟩ : S49)] [(⟨(⟨0, 0⟩ : S34), 1, (⟨0, [(⟨false, [7, 8]⟩ : S47)], 0, (-1), a1, [], []⟩ : S39), 0⟩ : S41), (⟨(⟨0, 0⟩ : S34), 2, (⟨0, [(⟨false, [7, 8]⟩ : S47)], 0, (-1), a2, [], []⟩ : S39), 0⟩ : S41)] = some (0, true) from HF1.out)
      replace HF2 := Aside0.mk (show decide_Best.f 1 [(⟨1, 2, 5⟩ : S49), (⟨2, 2, 5⟩ : S49)] [(⟨(⟨0, 0⟩ : S34), 2, (⟨0, [(⟨false, [7, 8]⟩ : S47)], 0, (-1), a2, [], []⟩ : S39), 0⟩ : S41), (⟨(⟨0, 0⟩ : S34), 1, (⟨0, [(⟨false, [7, 8]⟩ : S47)], 0, (-1), a1, [], []⟩ : S39), 0⟩ : S41)] = some (1, true) from HF2.out)
      have hx0 : wt.cell? ⟨g7, 0, none⟩ = some (.int .u32 0) := (blk_cell BX.out 0).trans rfl
      have hy0 : wt.cell? ⟨g8, 0, none⟩ = some (.int .u32 0) := (blk_cell BY.out 0).trans rfl
      have hx1 : wt.cell? ⟨g7, 1, none⟩ = some (.int .i64 0) := (blk_cell BX.out 1).trans rfl
      have hy1 : wt.cell? ⟨g8, 1, none⟩ = some (.int .i64 0) := (blk_cell BY.out 1).trans rfl
      have hx2 : wt.cell? ⟨g7, 2, none⟩ = some (.int .i64 1) := (blk_cell BX.out 2).trans rfl
      have hy2 : wt.cell? ⟨g8, 2, none⟩ = some (.int .i64 2) := (blk_cell BY.out 2).trans rfl
      have hx3 : wt.cell? ⟨g7, 3, none⟩ = some (.int .i64 0) := (blk_cell BX.out 3).trans rfl
      have hy3 : wt.cell? ⟨g8, 3, none⟩ = some (.int .i64 0) := (blk_cell BY.out 3).trans rfl
      have hx4 : wt.cell? ⟨g7, 4, none⟩ = some (.slice (some ⟨gq + 1, 0, none⟩) 1 1) := (blk_cell BX.out 4).trans rfl
      have hy4 : wt.cell? ⟨g8, 4, none⟩ = some (.slice (some ⟨gq + 1, 0, none⟩) 1 1) := (blk_cell BY.out 4).trans rfl
      have hx5 : wt.cell? ⟨g7, 5, none⟩ = some (.int .u32 0) := (blk_cell BX.out 5).trans rfl
      have hy5 : wt.cell? ⟨g8, 5, none⟩ = some (.int .u32 0) := (blk_cell BY.out 5).trans rfl
      have hx6 : wt.cell? ⟨g7, 6, none⟩ = some (.int .i64 (-1)) := (blk_cell BX.out 6).trans rfl
      have hy6 : wt.cell? ⟨g8, 6, none⟩ = some (.int .i64 (-1)) := (blk_cell BY.out 6).trans rfl
      have hx7 : wt.cell? ⟨g7, 7, none⟩ = some (.int .i64 (a1)) := (blk_cell BX.out 7).trans rfl
      have hy7 : wt.cell? ⟨g8, 7, none⟩ = some (.int .i64 (a2)) := (blk_cell BY.out 7).trans rfl
      have hx8 : wt.cell? ⟨g7, 8, none⟩ = some (.slice none 0 0) := (blk_cell BX.out 8).trans rfl
      have hy8 : wt.cell? ⟨g8, 8, none⟩ = some (.slice none 0 0) := (blk_cell BY.out 8).trans rfl
      have hx9 : wt.cell? ⟨g7, 9, none⟩ = some (.slice none 0 0) := (blk_cell BX.out 9).trans rfl
      have hy9 : wt.cell? ⟨g8, 9, none⟩ = some (.slice none 0 0) := (blk_cell BY.out 9).trans rfl
      have hx10 : wt.cell? ⟨g7, 10, none⟩ = some (.int .i64 0) := (blk_cell BX.out 10).trans rfl
      have hy10 : wt.cell? ⟨g8, 10, none⟩ = some (.int .i64 0) := (blk_cell BY.out 10).trans rfl
      go_wp2_with fail
      refine (decide_Best.calls 1 (some ⟨gi, 0, none⟩) 2 [(⟨1, 2, 5⟩ : S49), (⟨2, 2, 5⟩ : S49)] (some ⟨wt.heap.size, 0, none⟩) 2 [(⟨(⟨0, 0⟩ : S34), 1, (⟨0, [(⟨false, [7, 8]⟩ : S47)], 0, (-1), a1, [], []⟩ : S39), 0⟩ : S41), (⟨(⟨0, 0⟩ : S34), 2, (⟨0, [(⟨false, [7, 8]⟩ : S47)], 0, (-1), a2, [], []⟩ : S39), 0⟩ : S41)] 0 true (wt.alloc (.cells #[.int .u32 0, .int .i64 0, .int .i64 1, .int .i64 0, .slice (some ⟨gq + 1, 0, none⟩) 1 1, .int .u32 0, .int .i64 (-1), .int .i64 (a1), .slice none 0 0, .slice none 0 0, .int .i64 0, .int .u32 0, .int .i64 0, .int .i64 2, .int .i64 0, .slice (some ⟨gq + 1, 0, none⟩) 1 1, .int .u32 0, .int .i64 (-1), .int .i64 (a2), .slice none 0 0, .slice none 0 0, .int .i64 0] 41)) (Kd.C_alloc CI.out _) (Nat.le_refl _) (C_block2 (c1 := [.int .u32 0, .int .i64 0, .int .i64 1, .int .i64 0, .slice (some ⟨gq + 1, 0, none⟩) 1 1, .int .u32 0, .int .i64 (-1), .int .i64 (a1), .slice none 0 0, .slice none 0 0, .int .i64 0]) (c2 := [.int .u32 0, .int .i64 0, .int .i64 2, .int .i64 0, .slice (some ⟨gq + 1, 0, none⟩) 1 1, .int .u32 0, .int .i64 (-1), .int .i64 (a2), .slice none 0 0, .slice none 0 0, .int .i64 0]) (alloc_at wt _) rfl rfl (k41_mk _ (⟨(⟨0, 0⟩ : S34), 1, (⟨0, [(⟨false, [7, 8]⟩ : S47)], 0, (-1), a1, [], []⟩ : S39), 0⟩ : S41) (Nat.le_refl _) (Kd.C_alloc CX.out _) (Nat.le_refl _) (Kd.C_nil _ _) (Nat.le_refl _) (Kd.C_nil _ _)) (k41_mk _ (⟨(⟨0, 0⟩ : S34), 2, (⟨0, [(⟨false, [7, 8]⟩ : S47)], 0, (-1), a2, [], []⟩ : S39), 0⟩ : S41) (Nat.le_refl _) (Kd.C_alloc CY.out _) (Nat.le_refl _) (Kd.C_nil _ _) (Nat.le_refl _) (Kd.C_nil _ _))) (Nat.le_refl _) HF1.out).mono ?_
      rintro e w1 ⟨rfl, hb1⟩
      have hbw : Below wt.heap.size wt w1 := (below_alloc (Below.refl _ _) _).trans (hb1.mono (by simp))
      replace HB := Aside0.mk (HB.out.trans (hbw.mono HB.out.size))
      replace BX := Aside0.mk ((hbw.block g7 (blk_lt BX.out)).trans BX.out)
      replace BY := Aside0.mk ((hbw.block g8 (blk_lt BY.out)).trans BY.out)
      replace CI := Aside0.mk (Kd.C_below CI.out hbw)
      replace CX := Aside0.mk (Kd.C_below CX.out hbw)
      replace CY := Aside0.mk (Kd.C_below CY.out hbw)
      clear hb1 hbw hx0 hy0 hx1 hy1 hx2 hy2 hx3 hy3 hx4 hy4 hx5 hy5 hx6 hy6 hx7 hy7 hx8 hy8 hx9 hy9 hx10 hy10
      have hx0 : w1.cell? ⟨g7, 0, none⟩ = some (.int .u32 0) := (blk_cell BX.out 0).trans rfl
      have hy0 : w1.cell? ⟨g8, 0, none⟩ = some (.int .u32 0) := (blk_cell BY.out 0).trans rfl
      have hx1 : w1.cell? ⟨g7, 1, none⟩ = some (.int .i64 0) := (blk_cell BX.out 1).trans rfl
      have hy1 : w1.cell? ⟨g8, 1, none⟩ = some (.int .i64 0) := (blk_cell BY.out 1).trans rfl
      have hx2 : w1.cell? ⟨g7, 2, none⟩ = some (.int .i64 1) := (blk_cell BX.out 2).trans rfl
      have hy2 : w1.cell? ⟨g8, 2, none⟩ = some (.int .i64 2) := (blk_cell BY.out 2).trans rfl
      have hx3 : w1.cell? ⟨g7, 3, none⟩ = some (.int .i64 0) := (blk_cell BX.out 3).trans rfl
      have hy3 : w1.cell? ⟨g8, 3, none⟩ = some (.int .i64 0) := (blk_cell BY.out 3).trans rfl
      have hx4 : w1.cell? ⟨g7, 4, none⟩ = some (.slice (some ⟨gq + 1, 0, none⟩) 1 1) := (blk_cell BX.out 4).trans rfl
      have hy4 : w1.cell? ⟨g8, 4, none⟩ = some (.slice (some ⟨gq + 1, 0, none⟩) 1 1) := (blk_cell BY.out 4).trans rfl
      have hx5 : w1.cell? ⟨g7, 5, none⟩ = some (.int .u32 0) := (blk_cell BX.out 5).trans rfl
      have hy5 : w1.cell? ⟨g8, 5, none⟩ = some (.int .u32 0) := (blk_cell BY.out 5).trans rfl
      have hx6 : w1.cell? ⟨g7, 6, none⟩ = some (.int .i64 (-1)) := (blk_cell BX.out 6).trans rfl
      have hy6 : w1.cell? ⟨g8, 6, none⟩ = some (.int .i64 (-1)) := (blk_cell BY.out 6).trans rfl
      have hx7 : w1.cell? ⟨g7, 7, none⟩ = some (.int .i64 (a1)) := (blk_cell BX.out 7).trans rfl
      have hy7 : w1.cell? ⟨g8, 7, none⟩ = some (.int .i64 (a2)) := (blk_cell BY.out 7).trans rfl
      have hx8 : w1.cell? ⟨g7, 8, none⟩ = some (.slice none 0 0) := (blk_cell BX.out 8).trans rfl
      have hy8 : w1.cell? ⟨g8, 8, none⟩ = some (.slice none 0 0) := (blk_cell BY.out 8).trans rfl
      have hx9 : w1.cell? ⟨g7, 9, none⟩ = some (.slice none 0 0) := (blk_cell BX.out 9).trans rfl
      have hy9 : w1.cell? ⟨g8, 9, none⟩ = some (.slice none 0 0) := (blk_cell BY.out 9).trans rfl
      have hx10 : w1.cell? ⟨g7, 10, none⟩ = some (.int .i64 0) := (blk_cell BX.out 10).trans rfl
      have hy10 : w1.cell? ⟨g8, 10, none⟩ = some (.int .i64 0) := (blk_cell BY.out 10).trans rfl
      go_wp2_with fail
      refine (decide_Best.calls 1 (some ⟨gi, 0, none⟩) 2 [(⟨1, 2, 5⟩ : S49), (⟨2, 2, 5⟩ : S49)] (some ⟨w1.heap.size, 0, none⟩) 2 [(⟨(⟨0, 0⟩ : S34), 2, (⟨0, [(⟨false, [7, 8]⟩ : S47)], 0, (-1), a2, [], []⟩ : S39), 0⟩ : S41), (⟨(⟨0, 0⟩ : S34), 1, (⟨0, [(⟨false, [7, 8]⟩ : S47)], 0, (-1), a1, [], []⟩ : S39), 0⟩ : S41)] 1 true (w1.alloc (.cells #[.int .u32 0, .int .i64 0, .int .i64 2, .int .i64 0, .slice (some ⟨gq + 1, 0, none⟩) 1 1, .int .u32 0, .int .i64 (-1), .int .i64 (a2), .slice none 0 0, .slice none 0 0, .int .i64 0, .int .u32 0, .int .i64 0, .int .i64 1, .int .i64 0, .slice (some ⟨gq + 1, 0, none⟩) 1 1, .int .u32 0, .int .i64 (-1), .int .i64 (a1), .slice none 0 0, .slice none 0 0, .int .i64 0] 41)) (Kd.C_alloc CI.out _) (Nat.le_refl _) (C_block2 (c1 := [.int .u32 0, .int .i64 0, .int .i64 2, .int .i64 0, .slice (some ⟨gq + 1, 0, none⟩) 1 1, .int .u32 0, .int .i64 (-1), .int .i64 (a2), .slice none 0 0, .slice none 0 0, .int .i64 0]) (c2 := [.int .u32 0, .int .i64 0, .int .i64 1, .int .i64 0, .slice (some ⟨gq + 1, 0, none⟩) 1 1, .int .u32 0, .int .i64 (-1), .int .i64 (a1), .slice none 0 0, .slice none 0 0, .int .i64 0]) (alloc_at w1 _) rfl rfl (k41_mk _ (⟨(⟨0, 0⟩ : S34), 2, (⟨0, [(⟨false, [7, 8]⟩ : S47)], 0, (-1), a2, [], []⟩ : S39), 0⟩ : S41) (Nat.le_refl _) (Kd.C_alloc CY.out _) (Nat.le_refl _) (Kd.C_nil _ _) (Nat.le_refl _) (Kd.C_nil _ _)) (k41_mk _ (⟨(⟨0, 0⟩ : S34), 1, (⟨0, [(⟨false, [7, 8]⟩ : S47)], 0, (-1), a1, [], []⟩ : S39), 0⟩ : S41) (Nat.le_refl _) (Kd.C_alloc CX.out _) (Nat.le_refl _) (Kd.C_nil _ _) (Nat.le_refl _) (Kd.C_nil _ _))) (Nat.le_refl _) HF2.out).mono ?_
      rintro e w2 ⟨rfl, hb1⟩
      have hbw : Below w1.heap.size w1 w2 := (below_alloc (Below.refl _ _) _).trans (hb1.mono (by simp))
      replace HB := Aside0.mk (HB.out.trans (hbw.mono HB.out.size))
      replace BX := Aside0.mk ((hbw.block g7 (blk_lt BX.out)).trans BX.out)
      replace BY := Aside0.mk ((hbw.block g8 (blk_lt BY.out)).trans BY.out)
      replace CI := Aside0.mk (Kd.C_below CI.out hbw)
      replace CX := Aside0.mk (Kd.C_below CX.out hbw)
      replace CY := Aside0.mk (Kd.C_below CY.out hbw)
      clear hb1 hbw hx0 hy0 hx1 hy1 hx2 hy2 hx3 hy3 hx4 hy4 hx5 hy5 hx6 hy6 hx7 hy7 hx8 hy8 hx9 hy9 hx10 hy10
      go_wp2_with fail
      refine (interregnumlaw15_answers.calls true _ HANS.out).mono ?_
      rintro e w3 ⟨rfl, hb1⟩
      replace HB := Aside0.mk (HB.out.trans (hb1.mono HB.out.size))
      clear hb1
      go_wp2
      go_ret
      exact ⟨by first | rfl | (simp; done), HB.out⟩
    · have hd : decide (a2 ≤ a1) = false := decide_eq_false hc
      rw [hd] at HF1 HF2
      rw [hd]
      clear hc hd
      replace HF1 := Aside0.mk (show decide_Best.f 1 [(⟨1, 2, 5⟩ : S49), (⟨2, 2, 5⟩ : S49)] [(⟨(⟨0, 0⟩ : S34), 1, (⟨0, [(⟨false, [7, 8]⟩ : S47)], 0, (-1), a1, [], []⟩ : S39), 0⟩ : S41), (⟨(⟨0, 0⟩ : S34), 2, (⟨0, [(⟨false, [7, 8]⟩ : S47)], 0, (-1), a2, [], []⟩ : S39), 0⟩ : S41)] = some (1, true) from HF1.out)
      replace HF2 := Aside0.mk (show decide_Best.f 1 [(⟨1, 2, 5⟩ : S49), (⟨2, 2, 5⟩ : S49)] [(⟨(⟨0, 0⟩ : S34), 2, (⟨0, [(⟨false, [7, 8]⟩ : S47)], 0, (-1), a2, [], []⟩ : S39), 0⟩ : S41), (⟨(⟨0, 0⟩ : S34), 1, (⟨0, [(⟨false, [7, 8]⟩ : S47)], 0, (-1), a1, [], []⟩ : S39), 0⟩ : S41)] = some (0, true) from HF2.out)
      have hx0 : wt.cell? ⟨g7, 0, none⟩ = some (.int .u32 0) := (blk_cell BX.out 0).trans rfl
      have hy0 : wt.cell? ⟨g8, 0, none⟩ = some (.int .u32 0) := (blk_cell BY.out 0).trans rfl
      have hx1 : wt.cell? ⟨g7, 1, none⟩ = some (.int .i64 0) := (blk_cell BX.out 1).trans rfl
      have hy1 : wt.cell? ⟨g8, 1, none⟩ = some (.int .i64 0) := (blk_cell BY.out 1).trans rfl
      have hx2 : wt.cell? ⟨g7, 2, none⟩ = some (.int .i64 1) := (blk_cell BX.out 2).trans rfl
      have hy2 : wt.cell? ⟨g8, 2, none⟩ = some (.int .i64 2) := (blk_cell BY.out 2).trans rfl
      have hx3 : wt.cell? ⟨g7, 3, none⟩ = some (.int .i64 0) := (blk_cell BX.out 3).trans rfl
      have hy3 : wt.cell? ⟨g8, 3, none⟩ = some (.int .i64 0) := (blk_cell BY.out 3).trans rfl
      have hx4 : wt.cell? ⟨g7, 4, none⟩ = some (.slice (some ⟨gq + 1, 0, none⟩) 1 1) := (blk_cell BX.out 4).trans rfl
      have hy4 : wt.cell? ⟨g8, 4, none⟩ = some (.slice (some ⟨gq + 1, 0, none⟩) 1 1) := (blk_cell BY.out 4).trans rfl
      have hx5 : wt.cell? ⟨g7, 5, none⟩ = some (.int .u32 0) := (blk_cell BX.out 5).trans rfl
      have hy5 : wt.cell? ⟨g8, 5, none⟩ = some (.int .u32 0) := (blk_cell BY.out 5).trans rfl
      have hx6 : wt.cell? ⟨g7, 6, none⟩ = some (.int .i64 (-1)) := (blk_cell BX.out 6).trans rfl
      have hy6 : wt.cell? ⟨g8, 6, none⟩ = some (.int .i64 (-1)) := (blk_cell BY.out 6).trans rfl
      have hx7 : wt.cell? ⟨g7, 7, none⟩ = some (.int .i64 (a1)) := (blk_cell BX.out 7).trans rfl
      have hy7 : wt.cell? ⟨g8, 7, none⟩ = some (.int .i64 (a2)) := (blk_cell BY.out 7).trans rfl
      have hx8 : wt.cell? ⟨g7, 8, none⟩ = some (.slice none 0 0) := (blk_cell BX.out 8).trans rfl
      have hy8 : wt.cell? ⟨g8, 8, none⟩ = some (.slice none 0 0) := (blk_cell BY.out 8).trans rfl
      have hx9 : wt.cell? ⟨g7, 9, none⟩ = some (.slice none 0 0) := (blk_cell BX.out 9).trans rfl
      have hy9 : wt.cell? ⟨g8, 9, none⟩ = some (.slice none 0 0) := (blk_cell BY.out 9).trans rfl
      have hx10 : wt.cell? ⟨g7, 10, none⟩ = some (.int .i64 0) := (blk_cell BX.out 10).trans rfl
      have hy10 : wt.cell? ⟨g8, 10, none⟩ = some (.int .i64 0) := (blk_cell BY.out 10).trans rfl
      go_wp2_with fail
      refine (decide_Best.calls 1 (some ⟨gi, 0, none⟩) 2 [(⟨1, 2, 5⟩ : S49), (⟨2, 2, 5⟩ : S49)] (some ⟨wt.heap.size, 0, none⟩) 2 [(⟨(⟨0, 0⟩ : S34), 1, (⟨0, [(⟨false, [7, 8]⟩ : S47)], 0, (-1), a1, [], []⟩ : S39), 0⟩ : S41), (⟨(⟨0, 0⟩ : S34), 2, (⟨0, [(⟨false, [7, 8]⟩ : S47)], 0, (-1), a2, [], []⟩ : S39), 0⟩ : S41)] 1 true (wt.alloc (.cells #[.int .u32 0, .int .i64 0, .int .i64 1, .int .i64 0, .slice (some ⟨gq + 1, 0, none⟩) 1 1, .int .u32 0, .int .i64 (-1), .int .i64 (a1), .slice none 0 0, .slice none 0 0, .int .i64 0, .int .u32 0, .int .i64 0, .int .i64 2, .int .i64 0, .slice (some ⟨gq + 1, 0, none⟩) 1 1, .int .u32 0, .int .i64 (-1), .int .i64 (a2), .slice none 0 0, .slice none 0 0, .int .i64 0] 41)) (Kd.C_alloc CI.out _) (Nat.le_refl _) (C_block2 (c1 := [.int .u32 0, .int .i64 0, .int .i64 1, .int .i64 0, .slice (some ⟨gq + 1, 0, none⟩) 1 1, .int .u32 0, .int .i64 (-1), .int .i64 (a1), .slice none 0 0, .slice none 0 0, .int .i64 0]) (c2 := [.int .u32 0, .int .i64 0, .int .i64 2, .int .i64 0, .slice (some ⟨gq + 1, 0, none⟩) 1 1, .int .u32 0, .int .i64 (-1), .int .i64 (a2), .slice none 0 0, .slice none 0 0, .int .i64 0]) (alloc_at wt _) rfl rfl (k41_mk _ (⟨(⟨0, 0⟩ : S34), 1, (⟨0, [(⟨false, [7, 8]⟩ : S47)], 0, (-1), a1, [], []⟩ : S39), 0⟩ : S41) (Nat.le_refl _) (Kd.C_alloc CX.out _) (Nat.le_refl _) (Kd.C_nil _ _) (Nat.le_refl _) (Kd.C_nil _ _)) (k41_mk _ (⟨(⟨0, 0⟩ : S34), 2, (⟨0, [(⟨false, [7, 8]⟩ : S47)], 0, (-1), a2, [], []⟩ : S39), 0⟩ : S41) (Nat.le_refl _) (Kd.C_alloc CY.out _) (Nat.le_refl _) (Kd.C_nil _ _) (Nat.le_refl _) (Kd.C_nil _ _))) (Nat.le_refl _) HF1.out).mono ?_
      rintro e w1 ⟨rfl, hb1⟩
      have hbw : Below wt.heap.size wt w1 := (below_alloc (Below.refl _ _) _).trans (hb1.mono (by simp))
      replace HB := Aside0.mk (HB.out.trans (hbw.mono HB.out.size))
      replace BX := Aside0.mk ((hbw.block g7 (blk_lt BX.out)).trans BX.out)
      replace BY := Aside0.mk ((hbw.block g8 (blk_lt BY.out)).trans BY.out)
      replace CI := Aside0.mk (Kd.C_below CI.out hbw)
      replace CX := Aside0.mk (Kd.C_below CX.out hbw)
      replace CY := Aside0.mk (Kd.C_below CY.out hbw)
      clear hb1 hbw hx0 hy0 hx1 hy1 hx2 hy2 hx3 hy3 hx4 hy4 hx5 hy5 hx6 hy6 hx7 hy7 hx8 hy8 hx9 hy9 hx10 hy10
      have hx0 : w1.cell? ⟨g7, 0, none⟩ = some (.int .u32 0) := (blk_cell BX.out 0).trans rfl
      have hy0 : w1.cell? ⟨g8, 0, none⟩ = some (.int .u32 0) := (blk_cell BY.out 0).trans rfl
      have hx1 : w1.cell? ⟨g7, 1, none⟩ = some (.int .i64 0) := (blk_cell BX.out 1).trans rfl
      have hy1 : w1.cell? ⟨g8, 1, none⟩ = some (.int .i64 0) := (blk_cell BY.out 1).trans rfl
      have hx2 : w1.cell? ⟨g7, 2, none⟩ = some (.int .i64 1) := (blk_cell BX.out 2).trans rfl
      have hy2 : w1.cell? ⟨g8, 2, none⟩ = some (.int .i64 2) := (blk_cell BY.out 2).trans rfl
      have hx3 : w1.cell? ⟨g7, 3, none⟩ = some (.int .i64 0) := (blk_cell BX.out 3).trans rfl
      have hy3 : w1.cell? ⟨g8, 3, none⟩ = some (.int .i64 0) := (blk_cell BY.out 3).trans rfl
      have hx4 : w1.cell? ⟨g7, 4, none⟩ = some (.slice (some ⟨gq + 1, 0, none⟩) 1 1) := (blk_cell BX.out 4).trans rfl
      have hy4 : w1.cell? ⟨g8, 4, none⟩ = some (.slice (some ⟨gq + 1, 0, none⟩) 1 1) := (blk_cell BY.out 4).trans rfl
      have hx5 : w1.cell? ⟨g7, 5, none⟩ = some (.int .u32 0) := (blk_cell BX.out 5).trans rfl
      have hy5 : w1.cell? ⟨g8, 5, none⟩ = some (.int .u32 0) := (blk_cell BY.out 5).trans rfl
      have hx6 : w1.cell? ⟨g7, 6, none⟩ = some (.int .i64 (-1)) := (blk_cell BX.out 6).trans rfl
      have hy6 : w1.cell? ⟨g8, 6, none⟩ = some (.int .i64 (-1)) := (blk_cell BY.out 6).trans rfl
      have hx7 : w1.cell? ⟨g7, 7, none⟩ = some (.int .i64 (a1)) := (blk_cell BX.out 7).trans rfl
      have hy7 : w1.cell? ⟨g8, 7, none⟩ = some (.int .i64 (a2)) := (blk_cell BY.out 7).trans rfl
      have hx8 : w1.cell? ⟨g7, 8, none⟩ = some (.slice none 0 0) := (blk_cell BX.out 8).trans rfl
      have hy8 : w1.cell? ⟨g8, 8, none⟩ = some (.slice none 0 0) := (blk_cell BY.out 8).trans rfl
      have hx9 : w1.cell? ⟨g7, 9, none⟩ = some (.slice none 0 0) := (blk_cell BX.out 9).trans rfl
      have hy9 : w1.cell? ⟨g8, 9, none⟩ = some (.slice none 0 0) := (blk_cell BY.out 9).trans rfl
      have hx10 : w1.cell? ⟨g7, 10, none⟩ = some (.int .i64 0) := (blk_cell BX.out 10).trans rfl
      have hy10 : w1.cell? ⟨g8, 10, none⟩ = some (.int .i64 0) := (blk_cell BY.out 10).trans rfl
      go_wp2_with fail
      refine (decide_Best.calls 1 (some ⟨gi, 0, none⟩) 2 [(⟨1, 2, 5⟩ : S49), (⟨2, 2, 5⟩ : S49)] (some ⟨w1.heap.size, 0, none⟩) 2 [(⟨(⟨0, 0⟩ : S34), 2, (⟨0, [(⟨false, [7, 8]⟩ : S47)], 0, (-1), a2, [], []⟩ : S39), 0⟩ : S41), (⟨(⟨0, 0⟩ : S34), 1, (⟨0, [(⟨false, [7, 8]⟩ : S47)], 0, (-1), a1, [], []⟩ : S39), 0⟩ : S41)] 0 true (w1.alloc (.cells #[.int .u32 0, .int .i64 0, .int .i64 2, .int .i64 0, .slice (some ⟨gq + 1, 0, none⟩) 1 1, .int .u32 0, .int .i64 (-1), .int .i64 (a2), .slice none 0 0, .slice none 0 0, .int .i64 0, .int .u32 0, .int .i64 0, .int .i64 1, .int .i64 0, .slice (some ⟨gq + 1, 0, none⟩) 1 1, .int .u32 0, .int .i64 (-1), .int .i64 (a1), .slice none 0 0, .slice none 0 0, .int .i64 0] 41)) (Kd.C_alloc CI.out _) (Nat.le_refl _) (C_block2 (c1 := [.int .u32 0, .int .i64 0, .int .i64 2, .int .i64 0, .slice (some ⟨gq + 1, 0, none⟩) 1 1, .int .u32 0, .int .i64 (-1), .int .i64 (a2), .slice none 0 0, .slice none 0 0, .int .i64 0]) (c2 := [.int .u32 0, .int .i64 0, .int .i64 1, .int .i64 0, .slice (some ⟨gq + 1, 0, none⟩) 1 1, .int .u32 0, .int .i64 (-1), .int .i64 (a1), .slice none 0 0, .slice none 0 0, .int .i64 0]) (alloc_at w1 _) rfl rfl (k41_mk _ (⟨(⟨0, 0⟩ : S34), 2, (⟨0, [(⟨false, [7, 8]⟩ : S47)], 0, (-1), a2, [], []⟩ : S39), 0⟩ : S41) (Nat.le_refl _) (Kd.C_alloc CY.out _) (Nat.le_refl _) (Kd.C_nil _ _) (Nat.le_refl _) (Kd.C_nil _ _)) (k41_mk _ (⟨(⟨0, 0⟩ : S34), 1, (⟨0, [(⟨false, [7, 8]⟩ : S47)], 0, (-1), a1, [], []⟩ : S39), 0⟩ : S41) (Nat.le_refl _) (Kd.C_alloc CX.out _) (Nat.le_refl _) (Kd.C_nil _ _) (Nat.le_refl _) (Kd.C_nil _ _))) (Nat.le_refl _) HF2.out).mono ?_
      rintro e w2 ⟨rfl, hb1⟩
      have hbw : Below w1.heap.size w1 w2 := (below_alloc (Below.refl _ _) _).trans (hb1.mono (by simp))
      replace HB := Aside0.mk (HB.out.trans (hbw.mono HB.out.size))
      replace BX := Aside0.mk ((hbw.block g7 (blk_lt BX.out)).trans BX.out)
      replace BY := Aside0.mk ((hbw.block g8 (blk_lt BY.out)).trans BY.out)
      replace CI := Aside0.mk (Kd.C_below CI.out hbw)
      replace CX := Aside0.mk (Kd.C_below CX.out hbw)
      replace CY := Aside0.mk (Kd.C_below CY.out hbw)
      clear hb1 hbw hx0 hy0 hx1 hy1 hx2 hy2 hx3 hy3 hx4 hy4 hx5 hy5 hx6 hy6 hx7 hy7 hx8 hy8 hx9 hy9 hx10 hy10
      go_wp2_with fail
      refine (interregnumlaw15_answers.calls true _ HANS.out).mono ?_
      rintro e w3 ⟨rfl, hb1⟩
      replace HB := Aside0.mk (HB.out.trans (hb1.mono HB.out.size))
      clear hb1
      go_wp2
      go_ret
      exact ⟨by first | rfl | (simp; done), HB.out⟩
  · rw [hq] at HF1 HF2
    rw [hq]
    clear hq
    replace HF1 := Aside0.mk (show decide_Best.f 1 [(⟨1, 2, 5⟩ : S49), (⟨2, 2, 5⟩ : S49)] [(⟨(⟨0, 0⟩ : S34), 1, (⟨0, [(⟨false, [7] ++ List.replicate (a1 % 9).toNat 0⟩ : S47)], 0, (-1), 100, [], []⟩ : S39), 0⟩ : S41), (⟨(⟨0, 0⟩ : S34), 2, (⟨0, [(⟨false, [7] ++ List.replicate (a2 % 9).toNat 0⟩ : S47)], 0, (-1), 100, [], []⟩ : S39), 0⟩ : S41)] = some (if (decide (a1 % 9 ≤ a2 % 9)) = true then 0 else 1, true) from HF1.out)
    replace HF2 := Aside0.mk (show decide_Best.f 1 [(⟨1, 2, 5⟩ : S49), (⟨2, 2, 5⟩ : S49)] [(⟨(⟨0, 0⟩ : S34), 2, (⟨0, [(⟨false, [7] ++ List.replicate (a2 % 9).toNat 0⟩ : S47)], 0, (-1), 100, [], []⟩ : S39), 0⟩ : S41), (⟨(⟨0, 0⟩ : S34), 1, (⟨0, [(⟨false, [7] ++ List.replicate (a1 % 9).toNat 0⟩ : S47)], 0, (-1), 100, [], []⟩ : S39), 0⟩ : S41)] = some (if (decide (a1 % 9 ≤ a2 % 9)) = true then 1 else 0, true) from HF2.out)
    have hm1 : a1.tmod 9 = a1 % 9 := Int.tmod_eq_emod_of_nonneg HA1.out.1
    have hv1 : wrap64 (a1 % 9) = a1 % 9 := by have := HA1.out; unfold wrap64; omega
    have hm2 : a2.tmod 9 = a2 % 9 := Int.tmod_eq_emod_of_nonneg HA2.out.1
    have hv2 : wrap64 (a2 % 9) = a2 % 9 := by have := HA2.out; unfold wrap64; omega
    go_upto_region 12 with (first | ((with_reducible refine gate_dst (N := 42) rfl ?_); refine Kd.R_lit (Kd.int .i64) (w0 := wc) wc.heap.size 3 ?hg (N := 42) ?hd (xs := ([7] : List Int)) (inner := [.int .i64 7]) (ok := (fun k => wc.heap.size ≤ k)) (okp := fun _ => False) ?hr ?hp (fun _ hk => hk.elim) (Nat.le_refl _) (Below.refl _ _) (Nat.le_refl _) (by simp) ?_; (case hd => rfl); (case hg => rfl); (case hr => first | (go_simp; done) | (go_simp; rfl)); (case hp => exact (Reps.front (show Kd.M (Kd.int .i64) _ _ _ (7 : Int) [.int .i64 7] from rfl) rfl (Reps.none _ _) rfl)); intro vA wA hoA hbA hgA hatA; have HOA := Aside0.mk hoA; have HBA := Aside0.mk hbA; clear hoA hbA hgA hatA) | ((with_reducible refine gate_builtin (b := .append) (xs := #[.tmp 42, .tmp 45]) rfl ?_); at_builtin; refine Kd.R_append_zeros (Kd.int .i64) (w0 := wc) wc.heap.size rfl (.tmp 42) (.tmp 45) 45 3 3 (.int .i64 0) 8 rfl Try.underlying45 Try.underlying3 infoInt rfl (by decide) (by omega) vA [7] (0 : Int) (a1 % 9) (fun k => wc.heap.size ≤ k) rfl rfl rfl ?aF ?aO ?a0 ?aB ?aS ?aL ?_; (case aF => exact (fun k hk => Nat.le_trans HBA.out.size hk)); (case aO => exact HOA.out); (case a0 => exact Int.emod_nonneg _ (by decide)); (case aB => exact HBA.out); (case aS => exact HBA.out.size); (case aL => have := Int.emod_lt_of_pos a1 (show (0 : Int) < 9 by decide); simp only [List.length_cons, List.length_nil]; omega); intro vB wB hoB hbB hgB hatB; obtain ⟨A1, c1, eB⟩ := Kd.R_slice hoB; subst eB; have HOB := Aside0.mk hoB; have HBB := Aside0.mk hbB; have hB0 := (hbB.block g7 (blk_lt BX.out)).trans BX.out; have hB1 := ((below_alloc (Below.refl _ wB) (.cells #[.bool false, .slice A1 ((a1 % 9).toNat + 1) c1] 47)).block g7 (blk_lt hB0)).trans hB0; have hsB : (wB.alloc (.cells #[.bool false, .slice A1 ((a1 % 9).toNat + 1) c1] 47)).cell? ⟨g7, 4, none⟩ = some (.slice (some ⟨gq + 1, 0, none⟩) 1 1) := (blk_cell hB1 4).trans rfl; have hfB := blk_frozen hB1 4; clear hB0 hB1; clear hoB hbB hgB hatB HOA HBA))
    have hsz : wc.heap.size ≤ wB.heap.size := HBB.out.size
    have hgc : gi < wc.heap.size := blk_lt BI.out
    have far : ∀ (k : Nat), k ≠ g7 → k < wc.heap.size → ((wB.alloc (.cells #[.bool false, .slice A1 ((a1 % 9).toNat + 1) c1] 47)).setCell ⟨g7, 4, none⟩ (.slice (some ⟨wB.heap.size, 0, none⟩) 1 1)).heap[k]? = wc.heap[k]? := fun k h1 h2 => (Below.heap_setCell _ ⟨g7, _, none⟩ _ k h1).trans (((below_alloc (Below.refl _ wB) _).block k (by omega)).trans (HBB.out.block k h2))
    have BX1 := Aside0.mk (show ((wB.alloc (.cells #[.bool false, .slice A1 ((a1 % 9).toNat + 1) c1] 47)).setCell ⟨g7, 4, none⟩ (.slice (some ⟨wB.heap.size, 0, none⟩) 1 1)).heap[g7]? = some (.cells #[.int .u32 0, .int .i64 0, .int .i64 1, .int .i64 0, .slice (some ⟨wB.heap.size, 0, none⟩) 1 1, .int .u32 0, .int .i64 (-1), .int .i64 100, .slice none 0 0, .slice none 0 0, .int .i64 0] 41 (0, 0)) from blk_put (((below_alloc (Below.refl _ wB) _).block g7 (by have := blk_lt BX.out; omega)).trans ((HBB.out.block g7 (blk_lt BX.out)).trans BX.out)) 4 _ rfl)
    have BY1 := Aside0.mk ((far g8 n87 (blk_lt BY.out)).trans BY.out)
    have BI1 := Aside0.mk ((far gi (by have := GE.out; omega) (blk_lt BI.out)).trans BI.out)
    have BS1 := Aside0.mk (show ((wB.alloc (.cells #[.bool false, .slice A1 ((a1 % 9).toNat + 1) c1] 47)).setCell ⟨g7, 4, none⟩ (.slice (some ⟨wB.heap.size, 0, none⟩) 1 1)).heap[wB.heap.size]? = some (.cells #[.bool false, .slice A1 ((a1 % 9).toNat + 1) c1] 47) from (Below.heap_setCell _ ⟨g7, _, none⟩ _ _ (by have := GE.out; show wB.heap.size ≠ g7; omega)).trans (alloc_at _ _))
    have HO1 := Aside0.mk (Kd.R_far (p := ⟨g7, 4, none⟩) (Kd.R_alloc HOB.out (.cells #[.bool false, .slice A1 ((a1 % 9).toNat + 1) c1] 47)) (fun k hk => by have := GE.out; show k ≠ g7; omega) (.slice (some ⟨wB.heap.size, 0, none⟩) 1 1))
    replace HB := Aside0.mk (Below.setCell (p := ⟨g7, 4, none⟩) (below_alloc (HB.out.trans (HBB.out.mono HB.out.size)) (.cells #[.bool false, .slice A1 ((a1 % 9).toNat + 1) c1] 47)) (by have := GE.out; have := HGQ.out; show _ ≤ g7; omega) (.slice (some ⟨wB.heap.size, 0, none⟩) 1 1))
    have GP := Aside0.mk (show gi < wB.heap.size by omega)
    have GQ8 := Aside0.mk (show g8 < wc.heap.size by have := GE.out; omega)
    clear far hsB hfB BX BY BI BQ BP HOB HBB hsz hgc
    generalize ((wB.alloc (.cells #[.bool false, .slice A1 ((a1 % 9).toNat + 1) c1] 47)).setCell ⟨g7, 4, none⟩ (.slice (some ⟨wB.heap.size, 0, none⟩) 1 1)) = wd at BX1 BY1 BI1 BS1 HO1 HB ⊢
    generalize wB.heap.size = gp at BX1 BS1 GP ⊢
    go_upto_region 13 with (first | ((with_reducible refine gate_dst (N := 51) rfl ?_); refine Kd.R_lit (Kd.int .i64) (w0 := wd) wd.heap.size 3 ?hg (N := 51) ?hd (xs := ([7] : List Int)) (inner := [.int .i64 7]) (ok := (fun k => wd.heap.size ≤ k)) (okp := fun _ => False) ?hr ?hp (fun _ hk => hk.elim) (Nat.le_refl _) (Below.refl _ _) (Nat.le_refl _) (by simp) ?_; (case hd => rfl); (case hg => rfl); (case hr => first | (go_simp; done) | (go_simp; rfl)); (case hp => exact (Reps.front (show Kd.M (Kd.int .i64) _ _ _ (7 : Int) [.int .i64 7] from rfl) rfl (Reps.none _ _) rfl)); intro vC wC hoA hbA hgA hatA; have HOA := Aside0.mk hoA; have HBA := Aside0.mk hbA; clear hoA hbA hgA hatA) | ((with_reducible refine gate_builtin (b := .append) (xs := #[.tmp 51, .tmp 54]) rfl ?_); at_builtin; refine Kd.R_append_zeros (Kd.int .i64) (w0 := wd) wd.heap.size rfl (.tmp 51) (.tmp 54) 45 3 3 (.int .i64 0) 8 rfl Try.underlying45 Try.underlying3 infoInt rfl (by decide) (by omega) vC [7] (0 : Int) (a2 % 9) (fun k => wd.heap.size ≤ k) rfl rfl rfl ?aF ?aO ?a0 ?aB ?aS ?aL ?_; (case aF => exact (fun k hk => Nat.le_trans HBA.out.size hk)); (case aO => exact HOA.out); (case a0 => exact Int.emod_nonneg _ (by decide)); (case aB => exact HBA.out); (case aS => exact HBA.out.size); (case aL => have := Int.emod_lt_of_pos a2 (show (0 : Int) < 9 by decide); simp only [List.length_cons, List.length_nil]; omega); intro vB wE hoB hbB hgB hatB; obtain ⟨A2, c2, eB⟩ := Kd.R_slice hoB; subst eB; have HOB := Aside0.mk hoB; have HBB := Aside0.mk hbB; have hB0 := (hbB.block g8 (blk_lt BY1.out)).trans BY1.out; have hB1 := ((below_alloc (Below.refl _ wE) (.cells #[.bool false, .slice A2 ((a2 % 9).toNat + 1) c2] 47)).block g8 (blk_lt hB0)).trans hB0; have hsB : (wE.alloc (.cells #[.bool false, .slice A2 ((a2 % 9).toNat + 1) c2] 47)).cell? ⟨g8, 4, none⟩ = some (.slice (some ⟨gq + 1, 0, none⟩) 1 1) := (blk_cell hB1 4).trans rfl; have hfB := blk_frozen hB1 4; clear hB0 hB1; clear hoB hbB hgB hatB HOA HBA))
    have hsz : wd.heap.size ≤ wE.heap.size := HBB.out.size
    have hgc : gp < wd.heap.size := blk_lt BS1.out
    have far : ∀ (k : Nat), k ≠ g8 → k < wd.heap.size → ((wE.alloc (.cells #[.bool false, .slice A2 ((a2 % 9).toNat + 1) c2] 47)).setCell ⟨g8, 4, none⟩ (.slice (some ⟨wE.heap.size, 0, none⟩) 1 1)).heap[k]? = wd.heap[k]? := fun k h1 h2 => (Below.heap_setCell _ ⟨g8, _, none⟩ _ k h1).trans (((below_alloc (Below.refl _ wE) _).block k (by omega)).trans (HBB.out.block k h2))
    have BY := Aside0.mk (show ((wE.alloc (.cells #[.bool false, .slice A2 ((a2 % 9).toNat + 1) c2] 47)).setCell ⟨g8, 4, none⟩ (.slice (some ⟨wE.heap.size, 0, none⟩) 1 1)).heap[g8]? = some (.cells #[.int .u32 0, .int .i64 0, .int .i64 2, .int .i64 0, .slice (some ⟨wE.heap.size, 0, none⟩) 1 1, .int .u32 0, .int .i64 (-1), .int .i64 100, .slice none 0 0, .slice none 0 0, .int .i64 0] 41 (0, 0)) from blk_put (((below_alloc (Below.refl _ wE) _).block g8 (by have := blk_lt BY1.out; omega)).trans ((HBB.out.block g8 (blk_lt BY1.out)).trans BY1.out)) 4 _ rfl)
    have BX := Aside0.mk ((far g7 n78 (blk_lt BX1.out)).trans BX1.out)
    have BI := Aside0.mk ((far gi (by have := GE.out; omega) (blk_lt BI1.out)).trans BI1.out)
    have BS := Aside0.mk ((far gp (by have := GE.out; have := GP.out; omega) (blk_lt BS1.out)).trans BS1.out)
    have BT := Aside0.mk (show ((wE.alloc (.cells #[.bool false, .slice A2 ((a2 % 9).toNat + 1) c2] 47)).setCell ⟨g8, 4, none⟩ (.slice (some ⟨wE.heap.size, 0, none⟩) 1 1)).heap[wE.heap.size]? = some (.cells #[.bool false, .slice A2 ((a2 % 9).toNat + 1) c2] 47) from (Below.heap_setCell _ ⟨g8, _, none⟩ _ _ (by have := GE.out; have := GP.out; show wE.heap.size ≠ g8; omega)).trans (alloc_at _ _))
    have HO2 := Aside0.mk (Kd.R_far (p := ⟨g8, 4, none⟩) (Kd.R_alloc HOB.out (.cells #[.bool false, .slice A2 ((a2 % 9).toNat + 1) c2] 47)) (fun k hk => by have := GE.out; have := GP.out; show k ≠ g8; omega) (.slice (some ⟨wE.heap.size, 0, none⟩) 1 1))
    replace HO1 := Aside0.mk (Kd.R_far (p := ⟨g8, 4, none⟩) (Kd.R_alloc (Kd.R_below HO1.out HBB.out) (.cells #[.bool false, .slice A2 ((a2 % 9).toNat + 1) c2] 47)) (fun k hk => by have := GE.out; have := GQ8.out; show k ≠ g8; omega) (.slice (some ⟨wE.heap.size, 0, none⟩) 1 1))
    replace HB := Aside0.mk (Below.setCell (p := ⟨g8, 4, none⟩) (below_alloc (HB.out.trans (HBB.out.mono HB.out.size)) (.cells #[.bool false, .slice A2 ((a2 % 9).toNat + 1) c2] 47)) (by have := GE.out; have := HGQ.out; show _ ≤ g8; omega) (.slice (some ⟨wE.heap.size, 0, none⟩) 1 1))
    clear far hsB hfB BX1 BY1 BI1 BS1 HOB HBB hsz hgc
    go_upto_region 29 with (fail)
    generalize ((wE.alloc (.cells #[.bool false, .slice A2 ((a2 % 9).toNat + 1) c2] 47)).setCell ⟨g8, 4, none⟩ (.slice (some ⟨wE.heap.size, 0, none⟩) 1 1)) = wt at BX BY BI BS BT HO1 HO2 HB ⊢
    generalize wE.heap.size = gr at BY BT ⊢
    have C1 := (Kd.R_reads' HO1.out).2
    have C2 := (Kd.R_reads' HO2.out).2
    rw [← (show ([7] ++ List.replicate (a1 % 9).toNat 0 : List Int).length = (a1 % 9).toNat + 1 by simp [Nat.add_comm])] at BS
    rw [← (show ([7] ++ List.replicate (a2 % 9).toNat 0 : List Int).length = (a2 % 9).toNat + 1 by simp [Nat.add_comm])] at BT
    have CX := Aside0.mk (C_block1 (c := [.bool false, .slice A1 ([7] ++ List.replicate (a1 % 9).toNat 0 : List Int).length c1]) (x := (⟨false, ([7] ++ List.replicate (a1 % 9).toNat 0 : List Int)⟩ : S47)) (d := k47) BS.out rfl (k47_mk _ (⟨false, ([7] ++ List.replicate (a1 % 9).toNat 0 : List Int)⟩ : S47) C1.1 C1.2))
    have CY := Aside0.mk (C_block1 (c := [.bool false, .slice A2 ([7] ++ List.replicate (a2 % 9).toNat 0 : List Int).length c2]) (x := (⟨false, ([7] ++ List.replicate (a2 % 9).toNat 0 : List Int)⟩ : S47)) (d := k47) BT.out rfl (k47_mk _ (⟨false, ([7] ++ List.replicate (a2 % 9).toNat 0 : List Int)⟩ : S47) C2.1 C2.2))
    have CI := Aside0.mk (C_block2 (c1 := [.int .i64 1, .int .i64 2, .int .u32 5]) (c2 := [.int .i64 2, .int .i64 2, .int .u32 5]) (x := (⟨1, 2, 5⟩ : S49)) (y := (⟨2, 2, 5⟩ : S49)) (d := k49) BI.out rfl rfl (k49_mk _ _) (k49_mk _ _))
    clear BI BS BT HO1 HO2 C1 C2 n78 n87 hw1 hw2 hm1 hv1 hm2 hv2
    by_cases hc : a1 % 9 ≤ a2 % 9
    · have hd : decide (a1 % 9 ≤ a2 % 9) = true := decide_eq_true hc
      rw [hd] at HF1 HF2
      rw [hd]
      clear hc hd
      replace HF1 := Aside0.mk (show decide_Best.f 1 [(⟨1, 2, 5⟩ : S49), (⟨2, 2, 5⟩ : S49)] [(⟨(⟨0, 0⟩ : S34), 1, (⟨0, [(⟨false, [7] ++ List.replicate (a1 % 9).toNat 0⟩ : S47)], 0, (-1), 100, [], []⟩ : S39), 0⟩ : S41), (⟨(⟨0, 0⟩ : S34), 2, (⟨0, [(⟨false, [7] ++ List.replicate (a2 % 9).toNat 0⟩ : S47)], 0, (-1), 100, [], []⟩ : S39), 0⟩ : S41)] = some (0, true) from HF1.out)
      replace HF2 := Aside0.mk (show decide_Best.f 1 [(⟨1, 2, 5⟩ : S49), (⟨2, 2, 5⟩ : S49)] [(⟨(⟨0, 0⟩ : S34), 2, (⟨0, [(⟨false, [7] ++ List.replicate (a2 % 9).toNat 0⟩ : S47)], 0, (-1), 100, [], []⟩ : S39), 0⟩ : S41), (⟨(⟨0, 0⟩ : S34), 1, (⟨0, [(⟨false, [7] ++ List.replicate (a1 % 9).toNat 0⟩ : S47)], 0, (-1), 100, [], []⟩ : S39), 0⟩ : S41)] = some (1, true) from HF2.out)
      have hx0 : wt.cell? ⟨g7, 0, none⟩ = some (.int .u32 0) := (blk_cell BX.out 0).trans rfl
      have hy0 : wt.cell? ⟨g8, 0, none⟩ = some (.int .u32 0) := (blk_cell BY.out 0).trans rfl
      have hx1 : wt.cell? ⟨g7, 1, none⟩ = some (.int .i64 0) := (blk_cell BX.out 1).trans rfl
      have hy1 : wt.cell? ⟨g8, 1, none⟩ = some (.int .i64 0) := (blk_cell BY.out 1).trans rfl
      have hx2 : wt.cell? ⟨g7, 2, none⟩ = some (.int .i64 1) := (blk_cell BX.out 2).trans rfl
      have hy2 : wt.cell? ⟨g8, 2, none⟩ = some (.int .i64 2) := (blk_cell BY.out 2).trans rfl
      have hx3 : wt.cell? ⟨g7, 3, none⟩ = some (.int .i64 0) := (blk_cell BX.out 3).trans rfl
      have hy3 : wt.cell? ⟨g8, 3, none⟩ = some (.int .i64 0) := (blk_cell BY.out 3).trans rfl
      have hx4 : wt.cell? ⟨g7, 4, none⟩ = some (.slice (some ⟨gp, 0, none⟩) 1 1) := (blk_cell BX.out 4).trans rfl
      have hy4 : wt.cell? ⟨g8, 4, none⟩ = some (.slice (some ⟨gr, 0, none⟩) 1 1) := (blk_cell BY.out 4).trans rfl
      have hx5 : wt.cell? ⟨g7, 5, none⟩ = some (.int .u32 0) := (blk_cell BX.out 5).trans rfl
      have hy5 : wt.cell? ⟨g8, 5, none⟩ = some (.int .u32 0) := (blk_cell BY.out 5).trans rfl
      have hx6 : wt.cell? ⟨g7, 6, none⟩ = some (.int .i64 (-1)) := (blk_cell BX.out 6).trans rfl
      have hy6 : wt.cell? ⟨g8, 6, none⟩ = some (.int .i64 (-1)) := (blk_cell BY.out 6).trans rfl
      have hx7 : wt.cell? ⟨g7, 7, none⟩ = some (.int .i64 100) := (blk_cell BX.out 7).trans rfl
      have hy7 : wt.cell? ⟨g8, 7, none⟩ = some (.int .i64 100) := (blk_cell BY.out 7).trans rfl
      have hx8 : wt.cell? ⟨g7, 8, none⟩ = some (.slice none 0 0) := (blk_cell BX.out 8).trans rfl
      have hy8 : wt.cell? ⟨g8, 8, none⟩ = some (.slice none 0 0) := (blk_cell BY.out 8).trans rfl
      have hx9 : wt.cell? ⟨g7, 9, none⟩ = some (.slice none 0 0) := (blk_cell BX.out 9).trans rfl
      have hy9 : wt.cell? ⟨g8, 9, none⟩ = some (.slice none 0 0) := (blk_cell BY.out 9).trans rfl
      have hx10 : wt.cell? ⟨g7, 10, none⟩ = some (.int .i64 0) := (blk_cell BX.out 10).trans rfl
      have hy10 : wt.cell? ⟨g8, 10, none⟩ = some (.int .i64 0) := (blk_cell BY.out 10).trans rfl
      go_wp2_with fail
      refine (decide_Best.calls 1 (some ⟨gi, 0, none⟩) 2 [(⟨1, 2, 5⟩ : S49), (⟨2, 2, 5⟩ : S49)] (some ⟨wt.heap.size, 0, none⟩) 2 [(⟨(⟨0, 0⟩ : S34), 1, (⟨0, [(⟨false, [7] ++ List.replicate (a1 % 9).toNat 0⟩ : S47)], 0, (-1), 100, [], []⟩ : S39), 0⟩ : S41), (⟨(⟨0, 0⟩ : S34), 2, (⟨0, [(⟨false, [7] ++ List.replicate (a2 % 9).toNat 0⟩ : S47)], 0, (-1), 100, [], []⟩ : S39), 0⟩ : S41)] 0 true (wt.alloc (.cells #[.int .u32 0, .int .i64 0, .int .i64 1, .int .i64 0, .slice (some ⟨gp, 0, none⟩) 1 1, .int .u32 0, .int .i64 (-1), .int .i64 100, .slice none 0 0, .slice none 0 0, .int .i64 0, .int .u32 0, .int .i64 0, .int .i64 2, .int .i64 0, .slice (some ⟨gr, 0, none⟩) 1 1, .int .u32 0, .int .i64 (-1), .int .i64 100, .slice none 0 0, .slice none 0 0, .int .i64 0] 41)) (Kd.C_alloc CI.out _) (Nat.le_refl _) (C_block2 (c1 := [.int .u32 0, .int .i64 0, .int .i64 1, .int .i64 0, .slice (some ⟨gp, 0, none⟩) 1 1, .int .u32 0, .int .i64 (-1), .int .i64 100, .slice none 0 0, .slice none 0 0, .int .i64 0]) (c2 := [.int .u32 0, .int .i64 0, .int .i64 2, .int .i64 0, .slice (some ⟨gr, 0, none⟩) 1 1, .int .u32 0, .int .i64 (-1), .int .i64 100, .slice none 0 0, .slice none 0 0, .int .i64 0]) (alloc_at wt _) rfl rfl (k41_mk _ (⟨(⟨0, 0⟩ : S34), 1, (⟨0, [(⟨false, [7] ++ List.replicate (a1 % 9).toNat 0⟩ : S47)], 0, (-1), 100, [], []⟩ : S39), 0⟩ : S41) (Nat.le_refl _) (Kd.C_alloc CX.out _) (Nat.le_refl _) (Kd.C_nil _ _) (Nat.le_refl _) (Kd.C_nil _ _)) (k41_mk _ (⟨(⟨0, 0⟩ : S34), 2, (⟨0, [(⟨false, [7] ++ List.replicate (a2 % 9).toNat 0⟩ : S47)], 0, (-1), 100, [], []⟩ : S39), 0⟩ : S41) (Nat.le_refl _) (Kd.C_alloc CY.out _) (Nat.le_refl _) (Kd.C_nil _ _) (Nat.le_refl _) (Kd.C_nil _ _))) (Nat.le_refl _) HF1.out).mono ?_
      rintro e w1 ⟨rfl, hb1⟩
      have hbw : Below wt.heap.size wt w1 := (below_alloc (Below.refl _ _) _).trans (hb1.mono (by simp))
      replace HB := Aside0.mk (HB.out.trans (hbw.mono HB.out.size))
      replace BX := Aside0.mk ((hbw.block g7 (blk_lt BX.out)).trans BX.out)
      replace BY := Aside0.mk ((hbw.block g8 (blk_lt BY.out)).trans BY.out)
      replace CI := Aside0.mk (Kd.C_below CI.out hbw)
      replace CX := Aside0.mk (Kd.C_below CX.out hbw)
      replace CY := Aside0.mk (Kd.C_below CY.out hbw)
      clear hb1 hbw hx0 hy0 hx1 hy1 hx2 hy2 hx3 hy3 hx4 hy4 hx5 hy5 hx6 hy6 hx7 hy7 hx8 hy8 hx9 hy9 hx10 hy10
      have hx0 : w1.cell? ⟨g7, 0, none⟩ = some (.int .u32 0) := (blk_cell BX.out 0).trans rfl
      have hy0 : w1.cell? ⟨g8, 0, none⟩ = some (.int .u32 0) := (blk_cell BY.out 0).trans rfl
      have hx1 : w1.cell? ⟨g7, 1, none⟩ = some (.int .i64 0) := (blk_cell BX.out 1).trans rfl
      have hy1 : w1.cell? ⟨g8, 1, none⟩ = some (.int .i64 0) := (blk_cell BY.out 1).trans rfl
      have hx2 : w1.cell? ⟨g7, 2, none⟩ = some (.int .i64 1) := (blk_cell BX.out 2).trans rfl
      have hy2 : w1.cell? ⟨g8, 2, none⟩ = some (.int .i64 2) := (blk_cell BY.out 2).trans rfl
      have hx3 : w1.cell? ⟨g7, 3, none⟩ = some (.int .i64 0) := (blk_cell BX.out 3).trans rfl
      have hy3 : w1.cell? ⟨g8, 3, none⟩ = some (.int .i64 0) := (blk_cell BY.out 3).trans rfl
      have hx4 : w1.cell? ⟨g7, 4, none⟩ = some (.slice (some ⟨gp, 0, none⟩) 1 1) := (blk_cell BX.out 4).trans rfl
      have hy4 : w1.cell? ⟨g8, 4, none⟩ = some (.slice (some ⟨gr, 0, none⟩) 1 1) := (blk_cell BY.out 4).trans rfl
      have hx5 : w1.cell? ⟨g7, 5, none⟩ = some (.int .u32 0) := (blk_cell BX.out 5).trans rfl
      have hy5 : w1.cell? ⟨g8, 5, none⟩ = some (.int .u32 0) := (blk_cell BY.out 5).trans rfl
      have hx6 : w1.cell? ⟨g7, 6, none⟩ = some (.int .i64 (-1)) := (blk_cell BX.out 6).trans rfl
      have hy6 : w1.cell? ⟨g8, 6, none⟩ = some (.int .i64 (-1)) := (blk_cell BY.out 6).trans rfl
      have hx7 : w1.cell? ⟨g7, 7, none⟩ = some (.int .i64 100) := (blk_cell BX.out 7).trans rfl
      have hy7 : w1.cell? ⟨g8, 7, none⟩ = some (.int .i64 100) := (blk_cell BY.out 7).trans rfl
      have hx8 : w1.cell? ⟨g7, 8, none⟩ = some (.slice none 0 0) := (blk_cell BX.out 8).trans rfl
      have hy8 : w1.cell? ⟨g8, 8, none⟩ = some (.slice none 0 0) := (blk_cell BY.out 8).trans rfl
      have hx9 : w1.cell? ⟨g7, 9, none⟩ = some (.slice none 0 0) := (blk_cell BX.out 9).trans rfl
      have hy9 : w1.cell? ⟨g8, 9, none⟩ = some (.slice none 0 0) := (blk_cell BY.out 9).trans rfl
      have hx10 : w1.cell? ⟨g7, 10, none⟩ = some (.int .i64 0) := (blk_cell BX.out 10).trans rfl
      have hy10 : w1.cell? ⟨g8, 10, none⟩ = some (.int .i64 0) := (blk_cell BY.out 10).trans rfl
      go_wp2_with fail
      refine (decide_Best.calls 1 (some ⟨gi, 0, none⟩) 2 [(⟨1, 2, 5⟩ : S49), (⟨2, 2, 5⟩ : S49)] (some ⟨w1.heap.size, 0, none⟩) 2 [(⟨(⟨0, 0⟩ : S34), 2, (⟨0, [(⟨false, [7] ++ List.replicate (a2 % 9).toNat 0⟩ : S47)], 0, (-1), 100, [], []⟩ : S39), 0⟩ : S41), (⟨(⟨0, 0⟩ : S34), 1, (⟨0, [(⟨false, [7] ++ List.replicate (a1 % 9).toNat 0⟩ : S47)], 0, (-1), 100, [], []⟩ : S39), 0⟩ : S41)] 1 true (w1.alloc (.cells #[.int .u32 0, .int .i64 0, .int .i64 2, .int .i64 0, .slice (some ⟨gr, 0, none⟩) 1 1, .int .u32 0, .int .i64 (-1), .int .i64 100, .slice none 0 0, .slice none 0 0, .int .i64 0, .int .u32 0, .int .i64 0, .int .i64 1, .int .i64 0, .slice (some ⟨gp, 0, none⟩) 1 1, .int .u32 0, .int .i64 (-1), .int .i64 100, .slice none 0 0, .slice none 0 0, .int .i64 0] 41)) (Kd.C_alloc CI.out _) (Nat.le_refl _) (C_block2 (c1 := [.int .u32 0, .int .i64 0, .int .i64 2, .int .i64 0, .slice (some ⟨gr, 0, none⟩) 1 1, .int .u32 0, .int .i64 (-1), .int .i64 100, .slice none 0 0, .slice none 0 0, .int .i64 0]) (c2 := [.int .u32 0, .int .i64 0, .int .i64 1, .int .i64 0, .slice (some ⟨gp, 0, none⟩) 1 1, .int .u32 0, .int .i64 (-1), .int .i64 100, .slice none 0 0, .slice none 0 0, .int .i64 0]) (alloc_at w1 _) rfl rfl (k41_mk _ (⟨(⟨0, 0⟩ : S34), 2, (⟨0, [(⟨false, [7] ++ List.replicate (a2 % 9).toNat 0⟩ : S47)], 0, (-1), 100, [], []⟩ : S39), 0⟩ : S41) (Nat.le_refl _) (Kd.C_alloc CY.out _) (Nat.le_refl _) (Kd.C_nil _ _) (Nat.le_refl _) (Kd.C_nil _ _)) (k41_mk _ (⟨(⟨0, 0⟩ : S34), 1, (⟨0, [(⟨false, [7] ++ List.replicate (a1 % 9).toNat 0⟩ : S47)], 0, (-1), 100, [], []⟩ : S39), 0⟩ : S41) (Nat.le_refl _) (Kd.C_alloc CX.out _) (Nat.le_refl _) (Kd.C_nil _ _) (Nat.le_refl _) (Kd.C_nil _ _))) (Nat.le_refl _) HF2.out).mono ?_
      rintro e w2 ⟨rfl, hb1⟩
      have hbw : Below w1.heap.size w1 w2 := (below_alloc (Below.refl _ _) _).trans (hb1.mono (by simp))
      replace HB := Aside0.mk (HB.out.trans (hbw.mono HB.out.size))
      replace BX := Aside0.mk ((hbw.block g7 (blk_lt BX.out)).trans BX.out)
      replace BY := Aside0.mk ((hbw.block g8 (blk_lt BY.out)).trans BY.out)
      replace CI := Aside0.mk (Kd.C_below CI.out hbw)
      replace CX := Aside0.mk (Kd.C_below CX.out hbw)
      replace CY := Aside0.mk (Kd.C_below CY.out hbw)
      clear hb1 hbw hx0 hy0 hx1 hy1 hx2 hy2 hx3 hy3 hx4 hy4 hx5 hy5 hx6 hy6 hx7 hy7 hx8 hy8 hx9 hy9 hx10 hy10
      go_wp2_with fail
      refine (interregnumlaw15_answers.calls true _ HANS.out).mono ?_
      rintro e w3 ⟨rfl, hb1⟩
      replace HB := Aside0.mk (HB.out.trans (hb1.mono HB.out.size))
      clear hb1
      go_wp2
      go_ret
      exact ⟨by first | rfl | (simp; done), HB.out⟩
    · have hd : decide (a1 % 9 ≤ a2 % 9) = false := decide_eq_false hc
      rw [hd] at HF1 HF2
      rw [hd]
      clear hc hd
      replace HF1 := Aside0.mk (show decide_Best.f 1 [(⟨1, 2, 5⟩ : S49), (⟨2, 2, 5⟩ : S49)] [(⟨(⟨0, 0⟩ : S34), 1, (⟨0, [(⟨false, [7] ++ List.replicate (a1 % 9).toNat 0⟩ : S47)], 0, (-1), 100, [], []⟩ : S39), 0⟩ : S41), (⟨(⟨0, 0⟩ : S34), 2, (⟨0, [(⟨false, [7] ++ List.replicate (a2 % 9).toNat 0⟩ : S47)], 0, (-1), 100, [], []⟩ : S39), 0⟩ : S41)] = some (1, true) from HF1.out)
      replace HF2 := Aside0.mk (show decide_Best.f 1 [(⟨1, 2, 5⟩ : S49), (⟨2, 2, 5⟩ : S49)] [(⟨(⟨0, 0⟩ : S34), 2, (⟨0, [(⟨false, [7] ++ List.replicate (a2 % 9).toNat 0⟩ : S47)], 0, (-1), 100, [], []⟩ : S39), 0⟩ : S41), (⟨(⟨0, 0⟩ : S34), 1, (⟨0, [(⟨false, [7] ++ List.replicate (a1 % 9).toNat 0⟩ : S47)], 0, (-1), 100, [], []⟩ : S39), 0⟩ : S41)] = some (0, true) from HF2.out)
      have hx0 : wt.cell? ⟨g7, 0, none⟩ = some (.int .u32 0) := (blk_cell BX.out 0).trans rfl
      have hy0 : wt.cell? ⟨g8, 0, none⟩ = some (.int .u32 0) := (blk_cell BY.out 0).trans rfl
      have hx1 : wt.cell? ⟨g7, 1, none⟩ = some (.int .i64 0) := (blk_cell BX.out 1).trans rfl
      have hy1 : wt.cell? ⟨g8, 1, none⟩ = some (.int .i64 0) := (blk_cell BY.out 1).trans rfl
      have hx2 : wt.cell? ⟨g7, 2, none⟩ = some (.int .i64 1) := (blk_cell BX.out 2).trans rfl
      have hy2 : wt.cell? ⟨g8, 2, none⟩ = some (.int .i64 2) := (blk_cell BY.out 2).trans rfl
      have hx3 : wt.cell? ⟨g7, 3, none⟩ = some (.int .i64 0) := (blk_cell BX.out 3).trans rfl
      have hy3 : wt.cell? ⟨g8, 3, none⟩ = some (.int .i64 0) := (blk_cell BY.out 3).trans rfl
      have hx4 : wt.cell? ⟨g7, 4, none⟩ = some (.slice (some ⟨gp, 0, none⟩) 1 1) := (blk_cell BX.out 4).trans rfl
      have hy4 : wt.cell? ⟨g8, 4, none⟩ = some (.slice (some ⟨gr, 0, none⟩) 1 1) := (blk_cell BY.out 4).trans rfl
      have hx5 : wt.cell? ⟨g7, 5, none⟩ = some (.int .u32 0) := (blk_cell BX.out 5).trans rfl
      have hy5 : wt.cell? ⟨g8, 5, none⟩ = some (.int .u32 0) := (blk_cell BY.out 5).trans rfl
      have hx6 : wt.cell? ⟨g7, 6, none⟩ = some (.int .i64 (-1)) := (blk_cell BX.out 6).trans rfl
      have hy6 : wt.cell? ⟨g8, 6, none⟩ = some (.int .i64 (-1)) := (blk_cell BY.out 6).trans rfl
      have hx7 : wt.cell? ⟨g7, 7, none⟩ = some (.int .i64 100) := (blk_cell BX.out 7).trans rfl
      have hy7 : wt.cell? ⟨g8, 7, none⟩ = some (.int .i64 100) := (blk_cell BY.out 7).trans rfl
      have hx8 : wt.cell? ⟨g7, 8, none⟩ = some (.slice none 0 0) := (blk_cell BX.out 8).trans rfl
      have hy8 : wt.cell? ⟨g8, 8, none⟩ = some (.slice none 0 0) := (blk_cell BY.out 8).trans rfl
      have hx9 : wt.cell? ⟨g7, 9, none⟩ = some (.slice none 0 0) := (blk_cell BX.out 9).trans rfl
      have hy9 : wt.cell? ⟨g8, 9, none⟩ = some (.slice none 0 0) := (blk_cell BY.out 9).trans rfl
      have hx10 : wt.cell? ⟨g7, 10, none⟩ = some (.int .i64 0) := (blk_cell BX.out 10).trans rfl
      have hy10 : wt.cell? ⟨g8, 10, none⟩ = some (.int .i64 0) := (blk_cell BY.out 10).trans rfl
      go_wp2_with fail
      refine (decide_Best.calls 1 (some ⟨gi, 0, none⟩) 2 [(⟨1, 2, 5⟩ : S49), (⟨2, 2, 5⟩ : S49)] (some ⟨wt.heap.size, 0, none⟩) 2 [(⟨(⟨0, 0⟩ : S34), 1, (⟨0, [(⟨false, [7] ++ List.replicate (a1 % 9).toNat 0⟩ : S47)], 0, (-1), 100, [], []⟩ : S39), 0⟩ : S41), (⟨(⟨0, 0⟩ : S34), 2, (⟨0, [(⟨false, [7] ++ List.replicate (a2 % 9).toNat 0⟩ : S47)], 0, (-1), 100, [], []⟩ : S39), 0⟩ : S41)] 1 true (wt.alloc (.cells #[.int .u32 0, .int .i64 0, .int .i64 1, .int .i64 0, .slice (some ⟨gp, 0, none⟩) 1 1, .int .u32 0, .int .i64 (-1), .int .i64 100, .slice none 0 0, .slice none 0 0, .int .i64 0, .int .u32 0, .int .i64 0, .int .i64 2, .int .i64 0, .slice (some ⟨gr, 0, none⟩) 1 1, .int .u32 0, .int .i64 (-1), .int .i64 100, .slice none 0 0, .slice none 0 0, .int .i64 0] 41)) (Kd.C_alloc CI.out _) (Nat.le_refl _) (C_block2 (c1 := [.int .u32 0, .int .i64 0, .int .i64 1, .int .i64 0, .slice (some ⟨gp, 0, none⟩) 1 1, .int .u32 0, .int .i64 (-1), .int .i64 100, .slice none 0 0, .slice none 0 0, .int .i64 0]) (c2 := [.int .u32 0, .int .i64 0, .int .i64 2, .int .i64 0, .slice (some ⟨gr, 0, none⟩) 1 1, .int .u32 0, .int .i64 (-1), .int .i64 100, .slice none 0 0, .slice none 0 0, .int .i64 0]) (alloc_at wt _) rfl rfl (k41_mk _ (⟨(⟨0, 0⟩ : S34), 1, (⟨0, [(⟨false, [7] ++ List.replicate (a1 % 9).toNat 0⟩ : S47)], 0, (-1), 100, [], []⟩ : S39), 0⟩ : S41) (Nat.le_refl _) (Kd.C_alloc CX.out _) (Nat.le_refl _) (Kd.C_nil _ _) (Nat.le_refl _) (Kd.C_nil _ _)) (k41_mk _ (⟨(⟨0, 0⟩ : S34), 2, (⟨0, [(⟨false, [7] ++ List.replicate (a2 % 9).toNat 0⟩ : S47)], 0, (-1), 100, [], []⟩ : S39), 0⟩ : S41) (Nat.le_refl _) (Kd.C_alloc CY.out _) (Nat.le_refl _) (Kd.C_nil _ _) (Nat.le_refl _) (Kd.C_nil _ _))) (Nat.le_refl _) HF1.out).mono ?_
      rintro e w1 ⟨rfl, hb1⟩
      have hbw : Below wt.heap.size wt w1 := (below_alloc (Below.refl _ _) _).trans (hb1.mono (by simp))
      replace HB := Aside0.mk (HB.out.trans (hbw.mono HB.out.size))
      replace BX := Aside0.mk ((hbw.block g7 (blk_lt BX.out)).trans BX.out)
      replace BY := Aside0.mk ((hbw.block g8 (blk_lt BY.out)).trans BY.out)
      replace CI := Aside0.mk (Kd.C_below CI.out hbw)
      replace CX := Aside0.mk (Kd.C_below CX.out hbw)
      replace CY := Aside0.mk (Kd.C_below CY.out hbw)
      clear hb1 hbw hx0 hy0 hx1 hy1 hx2 hy2 hx3 hy3 hx4 hy4 hx5 hy5 hx6 hy6 hx7 hy7 hx8 hy8 hx9 hy9 hx10 hy10
      have hx0 : w1.cell? ⟨g7, 0, none⟩ = some (.int .u32 0) := (blk_cell BX.out 0).trans rfl
      have hy0 : w1.cell? ⟨g8, 0, none⟩ = some (.int .u32 0) := (blk_cell BY.out 0).trans rfl
      have hx1 : w1.cell? ⟨g7, 1, none⟩ = some (.int .i64 0) := (blk_cell BX.out 1).trans rfl
      have hy1 : w1.cell? ⟨g8, 1, none⟩ = some (.int .i64 0) := (blk_cell BY.out 1).trans rfl
      have hx2 : w1.cell? ⟨g7, 2, none⟩ = some (.int .i64 1) := (blk_cell BX.out 2).trans rfl
      have hy2 : w1.cell? ⟨g8, 2, none⟩ = some (.int .i64 2) := (blk_cell BY.out 2).trans rfl
      have hx3 : w1.cell? ⟨g7, 3, none⟩ = some (.int .i64 0) := (blk_cell BX.out 3).trans rfl
      have hy3 : w1.cell? ⟨g8, 3, none⟩ = some (.int .i64 0) := (blk_cell BY.out 3).trans rfl
      have hx4 : w1.cell? ⟨g7, 4, none⟩ = some (.slice (some ⟨gp, 0, none⟩) 1 1) := (blk_cell BX.out 4).trans rfl
      have hy4 : w1.cell? ⟨g8, 4, none⟩ = some (.slice (some ⟨gr, 0, none⟩) 1 1) := (blk_cell BY.out 4).trans rfl
      have hx5 : w1.cell? ⟨g7, 5, none⟩ = some (.int .u32 0) := (blk_cell BX.out 5).trans rfl
      have hy5 : w1.cell? ⟨g8, 5, none⟩ = some (.int .u32 0) := (blk_cell BY.out 5).trans rfl
      have hx6 : w1.cell? ⟨g7, 6, none⟩ = some (.int .i64 (-1)) := (blk_cell BX.out 6).trans rfl
      have hy6 : w1.cell? ⟨g8, 6, none⟩ = some (.int .i64 (-1)) := (blk_cell BY.out 6).trans rfl
      have hx7 : w1.cell? ⟨g7, 7, none⟩ = some (.int .i64 100) := (blk_cell BX.out 7).trans rfl
      have hy7 : w1.cell? ⟨g8, 7, none⟩ = some (.int .i64 100) := (blk_cell BY.out 7).trans rfl
      have hx8 : w1.cell? ⟨g7, 8, none⟩ = some (.slice none 0 0) := (blk_cell BX.out 8).trans rfl
      have hy8 : w1.cell? ⟨g8, 8, none⟩ = some (.slice none 0 0) := (blk_cell BY.out 8).trans rfl
      have hx9 : w1.cell? ⟨g7, 9, none⟩ = some (.slice none 0 0) := (blk_cell BX.out 9).trans rfl
      have hy9 : w1.cell? ⟨g8, 9, none⟩ = some (.slice none 0 0) := (blk_cell BY.out 9).trans rfl
      have hx10 : w1.cell? ⟨g7, 10, none⟩ = some (.int .i64 0) := (blk_cell BX.out 10).trans rfl
      have hy10 : w1.cell? ⟨g8, 10, none⟩ = some (.int .i64 0) := (blk_cell BY.out 10).trans rfl
      go_wp2_with fail
      refine (decide_Best.calls 1 (some ⟨gi, 0, none⟩) 2 [(⟨1, 2, 5⟩ : S49), (⟨2, 2, 5⟩ : S49)] (some ⟨w1.heap.size, 0, none⟩) 2 [(⟨(⟨0, 0⟩ : S34), 2, (⟨0, [(⟨false, [7] ++ List.replicate (a2 % 9).toNat 0⟩ : S47)], 0, (-1), 100, [], []⟩ : S39), 0⟩ : S41), (⟨(⟨0, 0⟩ : S34), 1, (⟨0, [(⟨false, [7] ++ List.replicate (a1 % 9).toNat 0⟩ : S47)], 0, (-1), 100, [], []⟩ : S39), 0⟩ : S41)] 0 true (w1.alloc (.cells #[.int .u32 0, .int .i64 0, .int .i64 2, .int .i64 0, .slice (some ⟨gr, 0, none⟩) 1 1, .int .u32 0, .int .i64 (-1), .int .i64 100, .slice none 0 0, .slice none 0 0, .int .i64 0, .int .u32 0, .int .i64 0, .int .i64 1, .int .i64 0, .slice (some ⟨gp, 0, none⟩) 1 1, .int .u32 0, .int .i64 (-1), .int .i64 100, .slice none 0 0, .slice none 0 0, .int .i64 0] 41)) (Kd.C_alloc CI.out _) (Nat.le_refl _) (C_block2 (c1 := [.int .u32 0, .int .i64 0, .int .i64 2, .int .i64 0, .slice (some ⟨gr, 0, none⟩) 1 1, .int .u32 0, .int .i64 (-1), .int .i64 100, .slice none 0 0, .slice none 0 0, .int .i64 0]) (c2 := [.int .u32 0, .int .i64 0, .int .i64 1, .int .i64 0, .slice (some ⟨gp, 0, none⟩) 1 1, .int .u32 0, .int .i64 (-1), .int .i64 100, .slice none 0 0, .slice none 0 0, .int .i64 0]) (alloc_at w1 _) rfl rfl (k41_mk _ (⟨(⟨0, 0⟩ : S34), 2, (⟨0, [(⟨false, [7] ++ List.replicate (a2 % 9).toNat 0⟩ : S47)], 0, (-1), 100, [], []⟩ : S39), 0⟩ : S41) (Nat.le_refl _) (Kd.C_alloc CY.out _) (Nat.le_refl _) (Kd.C_nil _ _) (Nat.le_refl _) (Kd.C_nil _ _)) (k41_mk _ (⟨(⟨0, 0⟩ : S34), 1, (⟨0, [(⟨false, [7] ++ List.replicate (a1 % 9).toNat 0⟩ : S47)], 0, (-1), 100, [], []⟩ : S39), 0⟩ : S41) (Nat.le_refl _) (Kd.C_alloc CX.out _) (Nat.le_refl _) (Kd.C_nil _ _) (Nat.le_refl _) (Kd.C_nil _ _))) (Nat.le_refl _) HF2.out).mono ?_
      rintro e w2 ⟨rfl, hb1⟩
      have hbw : Below w1.heap.size w1 w2 := (below_alloc (Below.refl _ _) _).trans (hb1.mono (by simp))
      replace HB := Aside0.mk (HB.out.trans (hbw.mono HB.out.size))
      replace BX := Aside0.mk ((hbw.block g7 (blk_lt BX.out)).trans BX.out)
      replace BY := Aside0.mk ((hbw.block g8 (blk_lt BY.out)).trans BY.out)
      replace CI := Aside0.mk (Kd.C_below CI.out hbw)
      replace CX := Aside0.mk (Kd.C_below CX.out hbw)
      replace CY := Aside0.mk (Kd.C_below CY.out hbw)
      clear hb1 hbw hx0 hy0 hx1 hy1 hx2 hy2 hx3 hy3 hx4 hy4 hx5 hy5 hx6 hy6 hx7 hy7 hx8 hy8 hx9 hy9 hx10 hy10
      go_wp2_with fail
      refine (interregnumlaw15_answers.calls true _ HANS.out).mono ?_
      rintro e w3 ⟨rfl, hb1⟩
      replace HB := Aside0.mk (HB.out.trans (hb1.mono HB.out.size))
      clear hb1
      go_wp2
      go_ret
      exact ⟨by first | rfl | (simp; done), HB.out⟩
  · rw [hq] at HF1 HF2
    rw [hq]
    clear hq
    replace HF1 := Aside0.mk (show decide_Best.f 1 [(⟨1, 2, 5⟩ : S49), (⟨2, 2, 5⟩ : S49)] [(⟨(⟨0, 0⟩ : S34), 1, (⟨a1 % 3, [(⟨false, [7, 8]⟩ : S47)], 0, (-1), 100, [], []⟩ : S39), 0⟩ : S41), (⟨(⟨0, 0⟩ : S34), 2, (⟨a2 % 3, [(⟨false, [7, 8]⟩ : S47)], 0, (-1), 100, [], []⟩ : S39), 0⟩ : S41)] = some (if (decide (a1 % 3 ≤ a2 % 3)) = true then 0 else 1, true) from HF1.out)
    replace HF2 := Aside0.mk (show decide_Best.f 1 [(⟨1, 2, 5⟩ : S49), (⟨2, 2, 5⟩ : S49)] [(⟨(⟨0, 0⟩ : S34), 2, (⟨a2 % 3, [(⟨false, [7, 8]⟩ : S47)], 0, (-1), 100, [], []⟩ : S39), 0⟩ : S41), (⟨(⟨0, 0⟩ : S34), 1, (⟨a1 % 3, [(⟨false, [7, 8]⟩ : S47)], 0, (-1), 100, [], []⟩ : S39), 0⟩ : S41)] = some (if (decide (a1 % 3 ≤ a2 % 3)) = true then 1 else 0, true) from HF2.out)
    have hx3 : wc.cell? ⟨g7, 3, none⟩ = some (.int .i64 0) := (blk_cell BX.out 3).trans rfl
    have hfx3 := blk_frozen BX.out 3
    have hy3 : wc.cell? ⟨g8, 3, none⟩ = some (.int .i64 0) := (blk_cell BY.out 3).trans rfl
    have hfy3 := blk_frozen BY.out 3
    have hm1 : a1.tmod 3 = a1 % 3 := Int.tmod_eq_emod_of_nonneg HA1.out.1
    have hv1 : wrap64 (a1 % 3) = a1 % 3 := by have := HA1.out; unfold wrap64; omega
    have hm2 : a2.tmod 3 = a2 % 3 := Int.tmod_eq_emod_of_nonneg HA2.out.1
    have hv2 : wrap64 (a2 % 3) = a2 % 3 := by have := HA2.out; unfold wrap64; omega
    go_upto_region 29 with (fail)
    clear hw1 hw2 hm1 hv1 hm2 hv2
    have far : ∀ (k : Nat), k ≠ g7 → k ≠ g8 → ((wc.setCell ⟨g7, 3, none⟩ (.int .i64 (a1 % 3))).setCell ⟨g8, 3, none⟩ (.int .i64 (a2 % 3))).heap[k]? = wc.heap[k]? := fun k h1 h2 => (Below.heap_setCell _ ⟨g8, _, none⟩ _ k h2).trans (Below.heap_setCell _ ⟨g7, _, none⟩ _ k h1)
    replace BX := Aside0.mk (show ((wc.setCell ⟨g7, 3, none⟩ (.int .i64 (a1 % 3))).setCell ⟨g8, 3, none⟩ (.int .i64 (a2 % 3))).heap[g7]? = some (.cells #[.int .u32 0, .int .i64 0, .int .i64 1, .int .i64 (a1 % 3), .slice (some ⟨gq + 1, 0, none⟩) 1 1, .int .u32 0, .int .i64 (-1), .int .i64 100, .slice none 0 0, .slice none 0 0, .int .i64 0] 41 (0, 0)) from (Below.heap_setCell _ ⟨g8, _, none⟩ _ g7 n78).trans (blk_put BX.out 3 _ rfl))
    replace BY := Aside0.mk (show ((wc.setCell ⟨g7, 3, none⟩ (.int .i64 (a1 % 3))).setCell ⟨g8, 3, none⟩ (.int .i64 (a2 % 3))).heap[g8]? = some (.cells #[.int .u32 0, .int .i64 0, .int .i64 2, .int .i64 (a2 % 3), .slice (some ⟨gq + 1, 0, none⟩) 1 1, .int .u32 0, .int .i64 (-1), .int .i64 100, .slice none 0 0, .slice none 0 0, .int .i64 0] 41 (0, 0)) from blk_put ((Below.heap_setCell _ ⟨g7, _, none⟩ _ g8 n87).trans BY.out) 3 _ rfl)
    replace BI := Aside0.mk ((far gi (by have := GE.out; omega) (by have := GE.out; omega)).trans BI.out)
    replace BQ := Aside0.mk ((far gq (by have := GE.out; omega) (by have := GE.out; omega)).trans BQ.out)
    replace BP := Aside0.mk ((far (gq + 1) (by have := GE.out; omega) (by have := GE.out; omega)).trans BP.out)
    replace HB := Aside0.mk (Below.setCell (p := ⟨g8, 3, none⟩) (Below.setCell (p := ⟨g7, 3, none⟩) HB.out (by have := GE.out; have := HGQ.out; show _ ≤ g7; omega) (.int .i64 (a1 % 3))) (by have := GE.out; have := HGQ.out; show _ ≤ g8; omega) (.int .i64 (a2 % 3)))
    clear far n78 n87 hx3 hfx3 hy3 hfy3
    generalize ((wc.setCell ⟨g7, 3, none⟩ (.int .i64 (a1 % 3))).setCell ⟨g8, 3, none⟩ (.int .i64 (a2 % 3))) = wt at BX BY BI BQ BP HB ⊢
    have CQ := (C_block2 (c1 := [.int .i64 7]) (c2 := [.int .i64 8]) (x := (7 : Int)) (y := 8) (d := Kd.int .i64) BQ.out rfl rfl rfl rfl)
    have CX := Aside0.mk (C_block1 (c := [.bool false, .slice (some ⟨gq, 0, none⟩) 2 2]) (x := (⟨false, [7, 8]⟩ : S47)) (d := k47) BP.out rfl (k47_mk _ _ (Nat.le_refl _) CQ))
    have CY := Aside0.mk CX.out
    have CI := Aside0.mk (C_block2 (c1 := [.int .i64 1, .int .i64 2, .int .u32 5]) (c2 := [.int .i64 2, .int .i64 2, .int .u32 5]) (x := (⟨1, 2, 5⟩ : S49)) (y := (⟨2, 2, 5⟩ : S49)) (d := k49) BI.out rfl rfl (k49_mk _ _) (k49_mk _ _))
    clear CQ BQ BP BI
    by_cases hc : a1 % 3 ≤ a2 % 3
    · have hd : decide (a1 % 3 ≤ a2 % 3) = true := decide_eq_true hc
      rw [hd] at HF1 HF2
      rw [hd]
      clear hc hd
      replace HF1 := Aside0.mk (show decide_Best.f 1 [(⟨1, 2, 5⟩ : S49), (⟨2, 2, 5⟩ : S49)] [(⟨(⟨0, 0⟩ : S34), 1, (⟨a1 % 3, [(⟨false, [7, 8]⟩ : S47)], 0, (-1), 100, [], []⟩ : S39), 0⟩ : S41), (⟨(⟨0, 0⟩ : S34), 2, (⟨a2 % 3, [(⟨false, [7, 8]⟩ : S47)], 0, (-1), 100, [], []⟩ : S39), 0⟩ : S41)] = some (0, true) from HF1.out)
      replace HF2 := Aside0.mk (show decide_Best.f 1 [(⟨1, 2, 5⟩ : S49), (⟨2, 2, 5⟩ : S49)] [(⟨(⟨0, 0⟩ : S34), 2, (⟨a2 % 3, [(⟨false, [7, 8]⟩ : S47)], 0, (-1), 100, [], []⟩ : S39), 0⟩ : S41), (⟨(⟨0, 0⟩ : S34), 1, (⟨a1 % 3, [(⟨false, [7, 8]⟩ : S47)], 0, (-1), 100, [], []⟩ : S39), 0⟩ : S41)] = some (1, true) from HF2.out)
      have hx0 : wt.cell? ⟨g7, 0, none⟩ = some (.int .u32 0) := (blk_cell BX.out 0).trans rfl
      have hy0 : wt.cell? ⟨g8, 0, none⟩ = some (.int .u32 0) := (blk_cell BY.out 0).trans rfl
      have hx1 : wt.cell? ⟨g7, 1, none⟩ = some (.int .i64 0) := (blk_cell BX.out 1).trans rfl
      have hy1 : wt.cell? ⟨g8, 1, none⟩ = some (.int .i64 0) := (blk_cell BY.out 1).trans rfl
      have hx2 : wt.cell? ⟨g7, 2, none⟩ = some (.int .i64 1) := (blk_cell BX.out 2).trans rfl
      have hy2 : wt.cell? ⟨g8, 2, none⟩ = some (.int .i64 2) := (blk_cell BY.out 2).trans rfl
      have hx3 : wt.cell? ⟨g7, 3, none⟩ = some (.int .i64 (a1 % 3)) := (blk_cell BX.out 3).trans rfl
      have hy3 : wt.cell? ⟨g8, 3, none⟩ = some (.int .i64 (a2 % 3)) := (blk_cell BY.out 3).trans rfl
      have hx4 : wt.cell? ⟨g7, 4, none⟩ = some (.slice (some ⟨gq + 1, 0, none⟩) 1 1) := (blk_cell BX.out 4).trans rfl
      have hy4 : wt.cell? ⟨g8, 4, none⟩ = some (.slice (some ⟨gq + 1, 0, none⟩) 1 1) := (blk_cell BY.out 4).trans rfl
      have hx5 : wt.cell? ⟨g7, 5, none⟩ = some (.int .u32 0) := (blk_cell BX.out 5).trans rfl
      have hy5 : wt.cell? ⟨g8, 5, none⟩ = some (.int .u32 0) := (blk_cell BY.out 5).trans rfl
      have hx6 : wt.cell? ⟨g7, 6, none⟩ = some (.int .i64 (-1)) := (blk_cell BX.out 6).trans rfl
      have hy6 : wt.cell? ⟨g8, 6, none⟩ = some (.int .i64 (-1)) := (blk_cell BY.out 6).trans rfl
      have hx7 : wt.cell? ⟨g7, 7, none⟩ = some (.int .i64 100) := (blk_cell BX.out 7).trans rfl
      have hy7 : wt.cell? ⟨g8, 7, none⟩ = some (.int .i64 100) := (blk_cell BY.out 7).trans rfl
      have hx8 : wt.cell? ⟨g7, 8, none⟩ = some (.slice none 0 0) := (blk_cell BX.out 8).trans rfl
      have hy8 : wt.cell? ⟨g8, 8, none⟩ = some (.slice none 0 0) := (blk_cell BY.out 8).trans rfl
      have hx9 : wt.cell? ⟨g7, 9, none⟩ = some (.slice none 0 0) := (blk_cell BX.out 9).trans rfl
      have hy9 : wt.cell? ⟨g8, 9, none⟩ = some (.slice none 0 0) := (blk_cell BY.out 9).trans rfl
      have hx10 : wt.cell? ⟨g7, 10, none⟩ = some (.int .i64 0) := (blk_cell BX.out 10).trans rfl
      have hy10 : wt.cell? ⟨g8, 10, none⟩ = some (.int .i64 0) := (blk_cell BY.out 10).trans rfl
      go_wp2_with fail
      refine (decide_Best.calls 1 (some ⟨gi, 0, none⟩) 2 [(⟨1, 2, 5⟩ : S49), (⟨2, 2, 5⟩ : S49)] (some ⟨wt.heap.size, 0, none⟩) 2 [(⟨(⟨0, 0⟩ : S34), 1, (⟨a1 % 3, [(⟨false, [7, 8]⟩ : S47)], 0, (-1), 100, [], []⟩ : S39), 0⟩ : S41), (⟨(⟨0, 0⟩ : S34), 2, (⟨a2 % 3, [(⟨false, [7, 8]⟩ : S47)], 0, (-1), 100, [], []⟩ : S39), 0⟩ : S41)] 0 true (wt.alloc (.cells #[.int .u32 0, .int .i64 0, .int .i64 1, .int .i64 (a1 % 3), .slice (some ⟨gq + 1, 0, none⟩) 1 1, .int .u32 0, .int .i64 (-1), .int .i64 100, .slice none 0 0, .slice none 0 0, .int .i64 0, .int .u32 0, .int .i64 0, .int .i64 2, .int .i64 (a2 % 3), .slice (some ⟨gq + 1, 0, none⟩) 1 1, .int .u32 0, .int .i64 (-1), .int .i64 100, .slice none 0 0, .slice none 0 0, .int .i64 0] 41)) (Kd.C_alloc CI.out _) (Nat.le_refl _) (C_block2 (c1 := [.int .u32 0, .int .i64 0, .int .i64 1, .int .i64 (a1 % 3), .slice (some ⟨gq + 1, 0, none⟩) 1 1, .int .u32 0, .int .i64 (-1), .int .i64 100, .slice none 0 0, .slice none 0 0, .int .i64 0]) (c2 := [.int .u32 0, .int .i64 0, .int .i64 2, .int .i64 (a2 % 3), .slice (some ⟨gq + 1, 0, none⟩) 1 1, .int .u32 0, .int .i64 (-1), .int .i64 100, .slice none 0 0, .slice none 0 0, .int .i64 0]) (alloc_at wt _) rfl rfl (k41_mk _ (⟨(⟨0, 0⟩ : S34), 1, (⟨a1 % 3, [(⟨false, [7, 8]⟩ : S47)], 0, (-1), 100, [], []⟩ : S39), 0⟩ : S41) (Nat.le_refl _) (Kd.C_alloc CX.out _) (Nat.le_refl _) (Kd.C_nil _ _) (Nat.le_refl _) (Kd.C_nil _ _)) (k41_mk _ (⟨(⟨0, 0⟩ : S34), 2, (⟨a2 % 3, [(⟨false, [7, 8]⟩ : S47)], 0, (-1), 100, [], []⟩ : S39), 0⟩ : S41) (Nat.le_refl _) (Kd.C_alloc CY.out _) (Nat.le_refl _) (Kd.C_nil _ _) (Nat.le_refl _) (Kd.C_nil _ _))) (Nat.le_refl _) HF1.out).mono ?_
      rintro e w1 ⟨rfl, hb1⟩
      have hbw : Below wt.heap.size wt w1 := (below_alloc (Below.refl _ _) _).trans (hb1.mono (by simp))
      replace HB := Aside0.mk (HB.out.trans (hbw.mono HB.out.size))
      replace BX := Aside0.mk ((hbw.block g7 (blk_lt BX.out)).trans BX.out)
      replace BY := Aside0.mk ((hbw.block g8 (blk_lt BY.out)).trans BY.out)
      replace CI := Aside0.mk (Kd.C_below CI.out hbw)
      replace CX := Aside0.mk (Kd.C_below CX.out hbw)
      replace CY := Aside0.mk (Kd.C_below CY.out hbw)
      clear hb1 hbw hx0 hy0 hx1 hy1 hx2 hy2 hx3 hy3 hx4 hy4 hx5 hy5 hx6 hy6 hx7 hy7 hx8 hy8 hx9 hy9 hx10 hy10
      have hx0 : w1.cell? ⟨g7, 0, none⟩ = some (.int .u32 0) := (blk_cell BX.out 0).trans rfl
      have hy0 : w1.cell? ⟨g8, 0, none⟩ = some (.int .u32 0) := (blk_cell BY.out 0).trans rfl
      have hx1 : w1.cell? ⟨g7, 1, none⟩ = some (.int .i64 0) := (blk_cell BX.out 1).trans rfl
      have hy1 : w1.cell? ⟨g8, 1, none⟩ = some (.int .i64 0) := (blk_cell BY.out 1).trans rfl
      have hx2 : w1.cell? ⟨g7, 2, none⟩ = some (.int .i64 1) := (blk_cell BX.out 2).trans rfl
      have hy2 : w1.cell? ⟨g8, 2, none⟩ = some (.int .i64 2) := (blk_cell BY.out 2).trans rfl
      have hx3 : w1.cell? ⟨g7, 3, none⟩ = some (.int .i64 (a1 % 3)) := (blk_cell BX.out 3).trans rfl
      have hy3 : w1.cell? ⟨g8, 3, none⟩ = some (.int .i64 (a2 % 3)) := (blk_cell BY.out 3).trans rfl
      have hx4 : w1.cell? ⟨g7, 4, none⟩ = some (.slice (some ⟨gq + 1, 0, none⟩) 1 1) := (blk_cell BX.out 4).trans rfl
      have hy4 : w1.cell? ⟨g8, 4, none⟩ = some (.slice (some ⟨gq + 1, 0, none⟩) 1 1) := (blk_cell BY.out 4).trans rfl
      have hx5 : w1.cell? ⟨g7, 5, none⟩ = some (.int .u32 0) := (blk_cell BX.out 5).trans rfl
      have hy5 : w1.cell? ⟨g8, 5, none⟩ = some (.int .u32 0) := (blk_cell BY.out 5).trans rfl
      have hx6 : w1.cell? ⟨g7, 6, none⟩ = some (.int .i64 (-1)) := (blk_cell BX.out 6).trans rfl
      have hy6 : w1.cell? ⟨g8, 6, none⟩ = some (.int .i64 (-1)) := (blk_cell BY.out 6).trans rfl
      have hx7 : w1.cell? ⟨g7, 7, none⟩ = some (.int .i64 100) := (blk_cell BX.out 7).trans rfl
      have hy7 : w1.cell? ⟨g8, 7, none⟩ = some (.int .i64 100) := (blk_cell BY.out 7).trans rfl
      have hx8 : w1.cell? ⟨g7, 8, none⟩ = some (.slice none 0 0) := (blk_cell BX.out 8).trans rfl
      have hy8 : w1.cell? ⟨g8, 8, none⟩ = some (.slice none 0 0) := (blk_cell BY.out 8).trans rfl
      have hx9 : w1.cell? ⟨g7, 9, none⟩ = some (.slice none 0 0) := (blk_cell BX.out 9).trans rfl
      have hy9 : w1.cell? ⟨g8, 9, none⟩ = some (.slice none 0 0) := (blk_cell BY.out 9).trans rfl
      have hx10 : w1.cell? ⟨g7, 10, none⟩ = some (.int .i64 0) := (blk_cell BX.out 10).trans rfl
      have hy10 : w1.cell? ⟨g8, 10, none⟩ = some (.int .i64 0) := (blk_cell BY.out 10).trans rfl
      go_wp2_with fail
      refine (decide_Best.calls 1 (some ⟨gi, 0, none⟩) 2 [(⟨1, 2, 5⟩ : S49), (⟨2, 2, 5⟩ : S49)] (some ⟨w1.heap.size, 0, none⟩) 2 [(⟨(⟨0, 0⟩ : S34), 2, (⟨a2 % 3, [(⟨false, [7, 8]⟩ : S47)], 0, (-1), 100, [], []⟩ : S39), 0⟩ : S41), (⟨(⟨0, 0⟩ : S34), 1, (⟨a1 % 3, [(⟨false, [7, 8]⟩ : S47)], 0, (-1), 100, [], []⟩ : S39), 0⟩ : S41)] 1 true (w1.alloc (.cells #[.int .u32 0, .int .i64 0, .int .i64 2, .int .i64 (a2 % 3), .slice (some ⟨gq + 1, 0, none⟩) 1 1, .int .u32 0, .int .i64 (-1), .int .i64 100, .slice none 0 0, .slice none 0 0, .int .i64 0, .int .u32 0, .int .i64 0, .int .i64 1, .int .i64 (a1 % 3), .slice (some ⟨gq + 1, 0, none⟩) 1 1, .int .u32 0, .int .i64 (-1), .int .i64 100, .slice none 0 0, .slice none 0 0, .int .i64 0] 41)) (Kd.C_alloc CI.out _) (Nat.le_refl _) (C_block2 (c1 := [.int .u32 0, .int .i64 0, .int .i64 2, .int .i64 (a2 % 3), .slice (some ⟨gq + 1, 0, none⟩) 1 1, .int .u32 0, .int .i64 (-1), .int .i64 100, .slice none 0 0, .slice none 0 0, .int .i64 0]) (c2 := [.int .u32 0, .int .i64 0, .int .i64 1, .int .i64 (a1 % 3), .slice (some ⟨gq + 1, 0, none⟩) 1 1, .int .u32 0, .int .i64 (-1), .int .i64 100, .slice none 0 0, .slice none 0 0, .int .i64 0]) (alloc_at w1 _) rfl rfl (k41_mk _ (⟨(⟨0, 0⟩ : S34), 2, (⟨a2 % 3, [(⟨false, [7, 8]⟩ : S47)], 0, (-1), 100, [], []⟩ : S39), 0⟩ : S41) (Nat.le_refl _) (Kd.C_alloc CY.out _) (Nat.le_refl _) (Kd.C_nil _ _) (Nat.le_refl _) (Kd.C_nil _ _)) (k41_mk _ (⟨(⟨0, 0⟩ : S34), 1, (⟨a1 % 3, [(⟨false, [7, 8]⟩ : S47)], 0, (-1), 100, [], []⟩ : S39), 0⟩ : S41) (Nat.le_refl _) (Kd.C_alloc CX.out _) (Nat.le_refl _) (Kd.C_nil _ _) (Nat.le_refl _) (Kd.C_nil _ _))) (Nat.le_refl _) HF2.out).mono ?_
      rintro e w2 ⟨rfl, hb1⟩
      have hbw : Below w1.heap.size w1 w2 := (below_alloc (Below.refl _ _) _).trans (hb1.mono (by simp))
      replace HB := Aside0.mk (HB.out.trans (hbw.mono HB.out.size))
      replace BX := Aside0.mk ((hbw.block g7 (blk_lt BX.out)).trans BX.out)
      replace BY := Aside0.mk ((hbw.block g8 (blk_lt BY.out)).trans BY.out)
      replace CI := Aside0.mk (Kd.C_below CI.out hbw)
      replace CX := Aside0.mk (Kd.C_below CX.out hbw)
      replace CY := Aside0.mk (Kd.C_below CY.out hbw)
      clear hb1 hbw hx0 hy0 hx1 hy1 hx2 hy2 hx3 hy3 hx4 hy4 hx5 hy5 hx6 hy6 hx7 hy7 hx8 hy8 hx9 hy9 hx10 hy10
      go_wp2_with fail
      refine (interregnumlaw15_answers.calls true _ HANS.out).mono ?_
      rintro e w3 ⟨rfl, hb1⟩
      replace HB := Aside0.mk (HB.out.trans (hb1.mono HB.out.size))
      clear hb1
      go_wp2
      go_ret
      exact ⟨by first | rfl | (simp; done), HB.out⟩
    · have hd : decide (a1 % 3 ≤ a2 % 3) = false := decide_eq_false hc
      rw [hd] at HF1 HF2
      rw [hd]
      clear hc hd
      replace HF1 := Aside0.mk (show decide_Best.f 1 [(⟨1, 2, 5⟩ : S49), (⟨2, 2, 5⟩ : S49)] [(⟨(⟨0, 0⟩ : S34), 1, (⟨a1 % 3, [(⟨false, [7, 8]⟩ : S47)], 0, (-1), 100, [], []⟩ : S39), 0⟩ : S41), (⟨(⟨0, 0⟩ : S34), 2, (⟨a2 % 3, [(⟨false, [7, 8]⟩ : S47)], 0, (-1), 100, [], []⟩ : S39), 0⟩ : S41)] = some (1, true) from HF1.out)
      replace HF2 := Aside0.mk (show decide_Best.f 1 [(⟨1, 2, 5⟩ : S49), (⟨2, 2, 5⟩ : S49)] [(⟨(⟨0, 0⟩ : S34), 2, (⟨a2 % 3, [(⟨false, [7, 8]⟩ : S47)], 0, (-1), 100, [], []⟩ : S39), 0⟩ : S41), (⟨(⟨0, 0⟩ : S34), 1, (⟨a1 % 3, [(⟨false, [7, 8]⟩ : S47)], 0, (-1), 100, [], []⟩ : S39), 0⟩ : S41)] = some (0, true) from HF2.out)
      have hx0 : wt.cell? ⟨g7, 0, none⟩ = some (.int .u32 0) := (blk_cell BX.out 0).trans rfl
      have hy0 : wt.cell? ⟨g8, 0, none⟩ = some (.int .u32 0) := (blk_cell BY.out 0).trans rfl
      have hx1 : wt.cell? ⟨g7, 1, none⟩ = some (.int .i64 0) := (blk_cell BX.out 1).trans rfl
      have hy1 : wt.cell? ⟨g8, 1, none⟩ = some (.int .i64 0) := (blk_cell BY.out 1).trans rfl
      have hx2 : wt.cell? ⟨g7, 2, none⟩ = some (.int .i64 1) := (blk_cell BX.out 2).trans rfl
      have hy2 : wt.cell? ⟨g8, 2, none⟩ = some (.int .i64 2) := (blk_cell BY.out 2).trans rfl
      have hx3 : wt.cell? ⟨g7, 3, none⟩ = some (.int .i64 (a1 % 3)) := (blk_cell BX.out 3).trans rfl
      have hy3 : wt.cell? ⟨g8, 3, none⟩ = some (.int .i64 (a2 % 3)) := (blk_cell BY.out 3).trans rfl
      have hx4 : wt.cell? ⟨g7, 4, none⟩ = some (.slice (some ⟨gq + 1, 0, none⟩) 1 1) := (blk_cell BX.out 4).trans rfl
      have hy4 : wt.cell? ⟨g8, 4, none⟩ = some (.slice (some ⟨gq + 1, 0, none⟩) 1 1) := (blk_cell BY.out 4).trans rfl
      have hx5 : wt.cell? ⟨g7, 5, none⟩ = some (.int .u32 0) := (blk_cell BX.out 5).trans rfl
      have hy5 : wt.cell? ⟨g8, 5, none⟩ = some (.int .u32 0) := (blk_cell BY.out 5).trans rfl
      have hx6 : wt.cell? ⟨g7, 6, none⟩ = some (.int .i64 (-1)) := (blk_cell BX.out 6).trans rfl
      have hy6 : wt.cell? ⟨g8, 6, none⟩ = some (.int .i64 (-1)) := (blk_cell BY.out 6).trans rfl
      have hx7 : wt.cell? ⟨g7, 7, none⟩ = some (.int .i64 100) := (blk_cell BX.out 7).trans rfl
      have hy7 : wt.cell? ⟨g8, 7, none⟩ = some (.int .i64 100) := (blk_cell BY.out 7).trans rfl
      have hx8 : wt.cell? ⟨g7, 8, none⟩ = some (.slice none 0 0) := (blk_cell BX.out 8).trans rfl
      have hy8 : wt.cell? ⟨g8, 8, none⟩ = some (.slice none 0 0) := (blk_cell BY.out 8).trans rfl
      have hx9 : wt.cell? ⟨g7, 9, none⟩ = some (.slice none 0 0) := (blk_cell BX.out 9).trans rfl
      have hy9 : wt.cell? ⟨g8, 9, none⟩ = some (.slice none 0 0) := (blk_cell BY.out 9).trans rfl
      have hx10 : wt.cell? ⟨g7, 10, none⟩ = some (.int .i64 0) := (blk_cell BX.out 10).trans rfl
      have hy10 : wt.cell? ⟨g8, 10, none⟩ = some (.int .i64 0) := (blk_cell BY.out 10).trans rfl
      go_wp2_with fail
      refine (decide_Best.calls 1 (some ⟨gi, 0, none⟩) 2 [(⟨1, 2, 5⟩ : S49), (⟨2, 2, 5⟩ : S49)] (some ⟨wt.heap.size, 0, none⟩) 2 [(⟨(⟨0, 0⟩ : S34), 1, (⟨a1 % 3, [(⟨false, [7, 8]⟩ : S47)], 0, (-1), 100, [], []⟩ : S39), 0⟩ : S41), (⟨(⟨0, 0⟩ : S34), 2, (⟨a2 % 3, [(⟨false, [7, 8]⟩ : S47)], 0, (-1), 100, [], []⟩ : S39), 0⟩ : S41)] 1 true (wt.alloc (.cells #[.int .u32 0, .int .i64 0, .int .i64 1, .int .i64 (a1 % 3), .slice (some ⟨gq + 1, 0, none⟩) 1 1, .int .u32 0, .int .i64 (-1), .int .i64 100, .slice none 0 0, .slice none 0 0, .int .i64 0, .int .u32 0, .int .i64 0, .int .i64 2, .int .i64 (a2 % 3), .slice (some ⟨gq + 1, 0, none⟩) 1 1, .int .u32 0, .int .i64 (-1), .int .i64 100, .slice none 0 0, .slice none 0 0, .int .i64 0] 41)) (Kd.C_alloc CI.out _) (Nat.le_refl _) (C_block2 (c1 := [.int .u32 0, .int .i64 0, .int .i64 1, .int .i64 (a1 % 3), .slice (some ⟨gq + 1, 0, none⟩) 1 1, .int .u32 0, .int .i64 (-1), .int .i64 100, .slice none 0 0, .slice none 0 0, .int .i64 0]) (c2 := [.int .u32 0, .int .i64 0, .int .i64 2, .int .i64 (a2 % 3), .slice (some ⟨gq + 1, 0, none⟩) 1 1, .int .u32 0, .int .i64 (-1), .int .i64 100, .slice none 0 0, .slice none 0 0, .int .i64 0]) (alloc_at wt _) rfl rfl (k41_mk _ (⟨(⟨0, 0⟩ : S34), 1, (⟨a1 % 3, [(⟨false, [7, 8]⟩ : S47)], 0, (-1), 100, [], []⟩ : S39), 0⟩ : S41) (Nat.le_refl _) (Kd.C_alloc CX.out _) (Nat.le_refl _) (Kd.C_nil _ _) (Nat.le_refl _) (Kd.C_nil _ _)) (k41_mk _ (⟨(⟨0, 0⟩ : S34), 2, (⟨a2 % 3, [(⟨false, [7, 8]⟩ : S47)], 0, (-1), 100, [], []⟩ : S39), 0⟩ : S41) (Nat.le_refl _) (Kd.C_alloc CY.out _) (Nat.le_refl _) (Kd.C_nil _ _) (Nat.le_refl _) (Kd.C_nil _ _))) (Nat.le_refl _) HF1.out).mono ?_
      rintro e w1 ⟨rfl, hb1⟩
      have hbw : Below wt.heap.size wt w1 := (below_alloc (Below.refl _ _) _).trans (hb1.mono (by simp))
      replace HB := Aside0.mk (HB.out.trans (hbw.mono HB.out.size))
      replace BX := Aside0.mk ((hbw.block g7 (blk_lt BX.out)).trans BX.out)
      replace BY := Aside0.mk ((hbw.block g8 (blk_lt BY.out)).trans BY.out)
      replace CI := Aside0.mk (Kd.C_below CI.out hbw)
      replace CX := Aside0.mk (Kd.C_below CX.out hbw)
      replace CY := Aside0.mk (Kd.C_below CY.out hbw)
      clear hb1 hbw hx0 hy0 hx1 hy1 hx2 hy2 hx3 hy3 hx4 hy4 hx5 hy5 hx6 hy6 hx7 hy7 hx8 hy8 hx9 hy9 hx10 hy10
      have hx0 : w1.cell? ⟨g7, 0, none⟩ = some (.int .u32 0) := (blk_cell BX.out 0).trans rfl
      have hy0 : w1.cell? ⟨g8, 0, none⟩ = some (.int .u32 0) := (blk_cell BY.out 0).trans rfl
      have hx1 : w1.cell? ⟨g7, 1, none⟩ = some (.int .i64 0) := (blk_cell BX.out 1).trans rfl
      have hy1 : w1.cell? ⟨g8, 1, none⟩ = some (.int .i64 0) := (blk_cell BY.out 1).trans rfl
      have hx2 : w1.cell? ⟨g7, 2, none⟩ = some (.int .i64 1) := (blk_cell BX.out 2).trans rfl
      have hy2 : w1.cell? ⟨g8, 2, none⟩ = some (.int .i64 2) := (blk_cell BY.out 2).trans rfl
      have hx3 : w1.cell? ⟨g7, 3, none⟩ = some (.int .i64 (a1 % 3)) := (blk_cell BX.out 3).trans rfl
      have hy3 : w1.cell? ⟨g8, 3, none⟩ = some (.int .i64 (a2 % 3)) := (blk_cell BY.out 3).trans rfl
      have hx4 : w1.cell? ⟨g7, 4, none⟩ = some (.slice (some ⟨gq + 1, 0, none⟩) 1 1) := (blk_cell BX.out 4).trans rfl
      have hy4 : w1.cell? ⟨g8, 4, none⟩ = some (.slice (some ⟨gq + 1, 0, none⟩) 1 1) := (blk_cell BY.out 4).trans rfl
      have hx5 : w1.cell? ⟨g7, 5, none⟩ = some (.int .u32 0) := (blk_cell BX.out 5).trans rfl
      have hy5 : w1.cell? ⟨g8, 5, none⟩ = some (.int .u32 0) := (blk_cell BY.out 5).trans rfl
      have hx6 : w1.cell? ⟨g7, 6, none⟩ = some (.int .i64 (-1)) := (blk_cell BX.out 6).trans rfl
      have hy6 : w1.cell? ⟨g8, 6, none⟩ = some (.int .i64 (-1)) := (blk_cell BY.out 6).trans rfl
      have hx7 : w1.cell? ⟨g7, 7, none⟩ = some (.int .i64 100) := (blk_cell BX.out 7).trans rfl
      have hy7 : w1.cell? ⟨g8, 7, none⟩ = some (.int .i64 100) := (blk_cell BY.out 7).trans rfl
      have hx8 : w1.cell? ⟨g7, 8, none⟩ = some (.slice none 0 0) := (blk_cell BX.out 8).trans rfl
      have hy8 : w1.cell? ⟨g8, 8, none⟩ = some (.slice none 0 0) := (blk_cell BY.out 8).trans rfl
      have hx9 : w1.cell? ⟨g7, 9, none⟩ = some (.slice none 0 0) := (blk_cell BX.out 9).trans rfl
      have hy9 : w1.cell? ⟨g8, 9, none⟩ = some (.slice none 0 0) := (blk_cell BY.out 9).trans rfl
      have hx10 : w1.cell? ⟨g7, 10, none⟩ = some (.int .i64 0) := (blk_cell BX.out 10).trans rfl
      have hy10 : w1.cell? ⟨g8, 10, none⟩ = some (.int .i64 0) := (blk_cell BY.out 10).trans rfl
      go_wp2_with fail
      refine (decide_Best.calls 1 (some ⟨gi, 0, none⟩) 2 [(⟨1, 2, 5⟩ : S49), (⟨2, 2, 5⟩ : S49)] (some ⟨w1.heap.size, 0, none⟩) 2 [(⟨(⟨0, 0⟩ : S34), 2, (⟨a2 % 3, [(⟨false, [7, 8]⟩ : S47)], 0, (-1), 100, [], []⟩ : S39), 0⟩ : S41), (⟨(⟨0, 0⟩ : S34), 1, (⟨a1 % 3, [(⟨false, [7, 8]⟩ : S47)], 0, (-1), 100, [], []⟩ : S39), 0⟩ : S41)] 0 true (w1.alloc (.cells #[.int .u32 0, .int .i64 0, .int .i64 2, .int .i64 (a2 % 3), .slice (some ⟨gq + 1, 0, none⟩) 1 1, .int .u32 0, .int .i64 (-1), .int .i64 100, .slice none 0 0, .slice none 0 0, .int .i64 0, .int .u32 0, .int .i64 0, .int .i64 1, .int .i64 (a1 % 3), .slice (some ⟨gq + 1, 0, none⟩) 1 1, .int .u32 0, .int .i64 (-1), .int .i64 100, .slice none 0 0, .slice none 0 0, .int .i64 0] 41)) (Kd.C_alloc CI.out _) (Nat.le_refl _) (C_block2 (c1 := [.int .u32 0, .int .i64 0, .int .i64 2, .int .i64 (a2 % 3), .slice (some ⟨gq + 1, 0, none⟩) 1 1, .int .u32 0, .int .i64 (-1), .int .i64 100, .slice none 0 0, .slice none 0 0, .int .i64 0]) (c2 := [.int .u32 0, .int .i64 0, .int .i64 1, .int .i64 (a1 % 3), .slice (some ⟨gq + 1, 0, none⟩) 1 1, .int .u32 0, .int .i64 (-1), .int .i64 100, .slice none 0 0, .slice none 0 0, .int .i64 0]) (alloc_at w1 _) rfl rfl (k41_mk _ (⟨(⟨0, 0⟩ : S34), 2, (⟨a2 % 3, [(⟨false, [7, 8]⟩ : S47)], 0, (-1), 100, [], []⟩ : S39), 0⟩ : S41) (Nat.le_refl _) (Kd.C_alloc CY.out _) (Nat.le_refl _) (Kd.C_nil _ _) (Nat.le_refl _) (Kd.C_nil _ _)) (k41_mk _ (⟨(⟨0, 0⟩ : S34), 1, (⟨a1 % 3, [(⟨false, [7, 8]⟩ : S47)], 0, (-1), 100, [], []⟩ : S39), 0⟩ : S41) (Nat.le_refl _) (Kd.C_alloc CX.out _) (Nat.le_refl _) (Kd.C_nil _ _) (Nat.le_refl _) (Kd.C_nil _ _))) (Nat.le_refl _) HF2.out).mono ?_
      rintro e w2 ⟨rfl, hb1⟩
      have hbw : Below w1.heap.size w1 w2 := (below_alloc (Below.refl _ _) _).trans (hb1.mono (by simp))
      replace HB := Aside0.mk (HB.out.trans (hbw.mono HB.out.size))
      replace BX := Aside0.mk ((hbw.block g7 (blk_lt BX.out)).trans BX.out)
      replace BY := Aside0.mk ((hbw.block g8 (blk_lt BY.out)).trans BY.out)
      replace CI := Aside0.mk (Kd.C_below CI.out hbw)
      replace CX := Aside0.mk (Kd.C_below CX.out hbw)
      replace CY := Aside0.mk (Kd.C_below CY.out hbw)
      clear hb1 hbw hx0 hy0 hx1 hy1 hx2 hy2 hx3 hy3 hx4 hy4 hx5 hy5 hx6 hy6 hx7 hy7 hx8 hy8 hx9 hy9 hx10 hy10
      go_wp2_with fail
      refine (interregnumlaw15_answers.calls true _ HANS.out).mono ?_
      rintro e w3 ⟨rfl, hb1⟩
      replace HB := Aside0.mk (HB.out.trans (hb1.mono HB.out.size))
      clear hb1
      go_wp2
      go_ret
      exact ⟨by first | rfl | (simp; done), HB.out⟩
  · rw [hq] at HF1 HF2
    rw [hq]
    clear hq
    replace HF1 := Aside0.mk (show decide_Best.f 1 [(⟨1, 2, 5⟩ : S49), (⟨2, 2, 5⟩ : S49)] [(⟨(⟨0, 0⟩ : S34), 1, (⟨0, [(⟨false, [7, 8]⟩ : S47)], 0, a1, 100, [], []⟩ : S39), 0⟩ : S41), (⟨(⟨0, 0⟩ : S34), 2, (⟨0, [(⟨false, [7, 8]⟩ : S47)], 0, a2, 100, [], []⟩ : S39), 0⟩ : S41)] = some (if (decide (a1 ≤ a2)) = true then 0 else 1, true) from HF1.out)
    replace HF2 := Aside0.mk (show decide_Best.f 1 [(⟨1, 2, 5⟩ : S49), (⟨2, 2, 5⟩ : S49)] [(⟨(⟨0, 0⟩ : S34), 2, (⟨0, [(⟨false, [7, 8]⟩ : S47)], 0, a2, 100, [], []⟩ : S39), 0⟩ : S41), (⟨(⟨0, 0⟩ : S34), 1, (⟨0, [(⟨false, [7, 8]⟩ : S47)], 0, a1, 100, [], []⟩ : S39), 0⟩ : S41)] = some (if (decide (a1 ≤ a2)) = true then 1 else 0, true) from HF2.out)
    have hx6 : wc.cell? ⟨g7, 6, none⟩ = some (.int .i64 (-1)) := (blk_cell BX.out 6).trans rfl
    have hfx6 := blk_frozen BX.out 6
    have hy6 : wc.cell? ⟨g8, 6, none⟩ = some (.int .i64 (-1)) := (blk_cell BY.out 6).trans rfl
    have hfy6 := blk_frozen BY.out 6
    go_upto_region 29 with (fail)
    clear hw1 hw2 
    have far : ∀ (k : Nat), k ≠ g7 → k ≠ g8 → ((wc.setCell ⟨g7, 6, none⟩ (.int .i64 (a1))).setCell ⟨g8, 6, none⟩ (.int .i64 (a2))).heap[k]? = wc.heap[k]? := fun k h1 h2 => (Below.heap_setCell _ ⟨g8, _, none⟩ _ k h2).trans (Below.heap_setCell _ ⟨g7, _, none⟩ _ k h1)
    replace BX := Aside0.mk (show ((wc.setCell ⟨g7, 6, none⟩ (.int .i64 (a1))).setCell ⟨g8, 6, none⟩ (.int .i64 (a2))).heap[g7]? = some (.cells #[.int .u32 0, .int .i64 0, .int .i64 1, .int .i64 0, .slice (some ⟨gq + 1, 0, none⟩) 1 1, .int .u32 0, .int .i64 (a1), .int .i64 100, .slice none 0 0, .slice none 0 0, .int .i64 0] 41 (0, 0)) from (Below.heap_setCell _ ⟨g8, _, none⟩ _ g7 n78).trans (blk_put BX.out 6 _ rfl))
    replace BY := Aside0.mk (show ((wc.setCell ⟨g7, 6, none⟩ (.int .i64 (a1))).setCell ⟨g8, 6, none⟩ (.int .i64 (a2))).heap[g8]? = some (.cells #[.int .u32 0, .int .i64 0, .int .i64 2, .int .i64 0, .slice (some ⟨gq + 1, 0, none⟩) 1 1, .int .u32 0, .int .i64 (a2), .int .i64 100, .slice none 0 0, .slice none 0 0, .int .i64 0] 41 (0, 0)) from blk_put ((Below.heap_setCell _ ⟨g7, _, none⟩ _ g8 n87).trans BY.out) 6 _ rfl)
    replace BI := Aside0.mk ((far gi (by have := GE.out; omega) (by have := GE.out; omega)).trans BI.out)
    replace BQ := Aside0.mk ((far gq (by have := GE.out; omega) (by have := GE.out; omega)).trans BQ.out)
    replace BP := Aside0.mk ((far (gq + 1) (by have := GE.out; omega) (by have := GE.out; omega)).trans BP.out)
    replace HB := Aside0.mk (Below.setCell (p := ⟨g8, 6, none⟩) (Below.setCell (p := ⟨g7, 6, none⟩) HB.out (by have := GE.out; have := HGQ.out; show _ ≤ g7; omega) (.int .i64 (a1))) (by have := GE.out; have := HGQ.out; show _ ≤ g8; omega) (.int .i64 (a2)))
    clear far n78 n87 hx6 hfx6 hy6 hfy6
    generalize ((wc.setCell ⟨g7, 6, none⟩ (.int .i64 (a1))).setCell ⟨g8, 6, none⟩ (.int .i64 (a2))) = wt at BX BY BI BQ BP HB ⊢
    have CQ := (C_block2 (c1 := [.int .i64 7]) (c2 := [.int .i64 8]) (x := (7 : Int)) (y := 8) (d := Kd.int .i64) BQ.out rfl rfl rfl rfl)
    have CX := Aside0.mk (C_block1 (c := [.bool false, .slice (some ⟨gq, 0, none⟩) 2 2]) (x := (⟨false, [7, 8]⟩ : S47)) (d := k47) BP.out rfl (k47_mk _ _ (Nat.le_refl _) CQ))
    have CY := Aside0.mk CX.out
    have CI := Aside0.mk (C_block2 (c1 := [.int .i64 1, .int .i64 2, .int .u32 5]) (c2 := [.int .i64 2, .int .i64 2, .int .u32 5]) (x := (⟨1, 2, 5⟩ : S49)) (y := (⟨2, 2, 5⟩ : S49)) (d := k49) BI.out rfl rfl (k49_mk _ _) (k49_mk _ _))
    clear CQ BQ BP BI
    by_cases hc : a1 ≤ a2
    · have hd : decide (a1 ≤ a2) = true := decide_eq_true hc
      rw [hd] at HF1 HF2
      rw [hd]
      clear hc hd
      replace HF1 := Aside0.mk (show decide_Best.f 1 [(⟨1, 2, 5⟩ : S49), (⟨2, 2, 5⟩ : S49)] [(⟨(⟨0, 0⟩ : S34), 1, (⟨0, [(⟨false, [7, 8]⟩ : S47)], 0, a1, 100, [], []⟩ : S39), 0⟩ : S41), (⟨(⟨0, 0⟩ : S34), 2, (⟨0, [(⟨false, [7, 8]⟩ : S47)], 0, a2, 100, [], []⟩ : S39), 0⟩ : S41)] = some (0, true) from HF1.out)
      replace HF2 := Aside0.mk (show decide_Best.f 1 [(⟨1, 2, 5⟩ : S49), (⟨2, 2, 5⟩ : S49)] [(⟨(⟨0, 0⟩ : S34), 2, (⟨0, [(⟨false, [7, 8]⟩ : S47)], 0, a2, 100, [], []⟩ : S39), 0⟩ : S41), (⟨(⟨0, 0⟩ : S34), 1, (⟨0, [(⟨false, [7, 8]⟩ : S47)], 0, a1, 100, [], []⟩ : S39), 0⟩ : S41)] = some (1, true) from HF2.out)
      have hx0 : wt.cell? ⟨g7, 0, none⟩ = some (.int .u32 0) := (blk_cell BX.out 0).trans rfl
      have hy0 : wt.cell? ⟨g8, 0, none⟩ = some (.int .u32 0) := (blk_cell BY.out 0).trans rfl
      have hx1 : wt.cell? ⟨g7, 1, none⟩ = some (.int .i64 0) := (blk_cell BX.out 1).trans rfl
      have hy1 : wt.cell? ⟨g8, 1, none⟩ = some (.int .i64 0) := (blk_cell BY.out 1).trans rfl
      have hx2 : wt.cell? ⟨g7, 2, none⟩ = some (.int .i64 1) := (blk_cell BX.out 2).trans rfl
      have hy2 : wt.cell? ⟨g8, 2, none⟩ = some (.int .i64 2) := (blk_cell BY.out 2).trans rfl
      have hx3 : wt.cell? ⟨g7, 3, none⟩ = some (.int .i64 0) := (blk_cell BX.out 3).trans rfl
      have hy3 : wt.cell? ⟨g8, 3, none⟩ = some (.int .i64 0) := (blk_cell BY.out 3).trans rfl
      have hx4 : wt.cell? ⟨g7, 4, none⟩ = some (.slice (some ⟨gq + 1, 0, none⟩) 1 1) := (blk_cell BX.out 4).trans rfl
      have hy4 : wt.cell? ⟨g8, 4, none⟩ = some (.slice (some ⟨gq + 1, 0, none⟩) 1 1) := (blk_cell BY.out 4).trans rfl
      have hx5 : wt.cell? ⟨g7, 5, none⟩ = some (.int .u32 0) := (blk_cell BX.out 5).trans rfl
      have hy5 : wt.cell? ⟨g8, 5, none⟩ = some (.int .u32 0) := (blk_cell BY.out 5).trans rfl
      have hx6 : wt.cell? ⟨g7, 6, none⟩ = some (.int .i64 (a1)) := (blk_cell BX.out 6).trans rfl
      have hy6 : wt.cell? ⟨g8, 6, none⟩ = some (.int .i64 (a2)) := (blk_cell BY.out 6).trans rfl
      have hx7 : wt.cell? ⟨g7, 7, none⟩ = some (.int .i64 100) := (blk_cell BX.out 7).trans rfl
      have hy7 : wt.cell? ⟨g8, 7, none⟩ = some (.int .i64 100) := (blk_cell BY.out 7).trans rfl
      have hx8 : wt.cell? ⟨g7, 8, none⟩ = some (.slice none 0 0) := (blk_cell BX.out 8).trans rfl
      have hy8 : wt.cell? ⟨g8, 8, none⟩ = some (.slice none 0 0) := (blk_cell BY.out 8).trans rfl
      have hx9 : wt.cell? ⟨g7, 9, none⟩ = some (.slice none 0 0) := (blk_cell BX.out 9).trans rfl
      have hy9 : wt.cell? ⟨g8, 9, none⟩ = some (.slice none 0 0) := (blk_cell BY.out 9).trans rfl
      have hx10 : wt.cell? ⟨g7, 10, none⟩ = some (.int .i64 0) := (blk_cell BX.out 10).trans rfl
      have hy10 : wt.cell? ⟨g8, 10, none⟩ = some (.int .i64 0) := (blk_cell BY.out 10).trans rfl
      go_wp2_with fail
      refine (decide_Best.calls 1 (some ⟨gi, 0, none⟩) 2 [(⟨1, 2, 5⟩ : S49), (⟨2, 2, 5⟩ : S49)] (some ⟨wt.heap.size, 0, none⟩) 2 [(⟨(⟨0, 0⟩ : S34), 1, (⟨0, [(⟨false, [7, 8]⟩ : S47)], 0, a1, 100, [], []⟩ : S39), 0⟩ : S41), (⟨(⟨0, 0⟩ : S34), 2, (⟨0, [(⟨false, [7, 8]⟩ : S47)], 0, a2, 100, [], []⟩ : S39), 0⟩ : S41)] 0 true (wt.alloc (.cells #[.int .u32 0, .int .i64 0, .int .i64 1, .int .i64 0, .slice (some ⟨gq + 1, 0, none⟩) 1 1, .int .u32 0, .int .i64 (a1), .int .i64 100, .slice none 0 0, .slice none 0 0, .int .i64 0, .int .u32 0, .int .i64 0, .int .i64 2, .int .i64 0, .slice (some ⟨gq + 1, 0, none⟩) 1 1, .int .u32 0, .int .i64 (a2), .int .i64 100, .slice none 0 0, .slice none 0 0, .int .i64 0] 41)) (Kd.C_alloc CI.out _) (Nat.le_refl _) (C_block2 (c1 := [.int .u32 0, .int .i64 0, .int .i64 1, .int .i64 0, .slice (some ⟨gq + 1, 0, none⟩) 1 1, .int .u32 0, .int .i64 (a1), .int .i64 100, .slice none 0 0, .slice none 0 0, .int .i64 0]) (c2 := [.int .u32 0, .int .i64 0, .int .i64 2, .int .i64 0, .slice (some ⟨gq + 1, 0, none⟩) 1 1, .int .u32 0, .int .i64 (a2), .int .i64 100, .slice none 0 0, .slice none 0 0, .int .i64 0]) (alloc_at wt _) rfl rfl (k41_mk _ (⟨(⟨0, 0⟩ : S34), 1, (⟨0, [(⟨false, [7, 8]⟩ : S47)], 0, a1, 100, [], []⟩ : S39), 0⟩ : S41) (Nat.le_refl _) (Kd.C_alloc CX.out _) (Nat.le_refl _) (Kd.C_nil _ _) (Nat.le_refl _) (Kd.C_nil _ _)) (k41_mk _ (⟨(⟨0, 0⟩ : S34), 2, (⟨0, [(⟨false, [7, 8]⟩ : S47)], 0, a2, 100, [], []⟩ : S39), 0⟩ : S41) (Nat.le_refl _) (Kd.C_alloc CY.out _) (Nat.le_refl _) (Kd.C_nil _ _) (Nat.le_refl _) (Kd.C_nil _ _))) (Nat.le_refl _) HF1.out).mono ?_
      rintro e w1 ⟨rfl, hb1⟩
      have hbw : Below wt.heap.size wt w1 := (below_alloc (Below.refl _ _) _).trans (hb1.mono (by simp))
      replace HB := Aside0.mk (HB.out.trans (hbw.mono HB.out.size))
      replace BX := Aside0.mk ((hbw.block g7 (blk_lt BX.out)).trans BX.out)
      replace BY := Aside0.mk ((hbw.block g8 (blk_lt BY.out)).trans BY.out)
      replace CI := Aside0.mk (Kd.C_below CI.out hbw)
      replace CX := Aside0.mk (Kd.C_below CX.out hbw)
      replace CY := Aside0.mk (Kd.C_below CY.out hbw)
      clear hb1 hbw hx0 hy0 hx1 hy1 hx2 hy2 hx3 hy3 hx4 hy4 hx5 hy5 hx6 hy6 hx7 hy7 hx8 hy8 hx9 hy9 hx10 hy10
      have hx0 : w1.cell? ⟨g7, 0, none⟩ = some (.int .u32 0) := (blk_cell BX.out 0).trans rfl
      have hy0 : w1.cell? ⟨g8, 0, none⟩ = some (.int .u32 0) := (blk_cell BY.out 0).trans rfl
      have hx1 : w1.cell? ⟨g7, 1, none⟩ = some (.int .i64 0) := (blk_cell BX.out 1).trans rfl
      have hy1 : w1.cell? ⟨g8, 1, none⟩ = some (.int .i64 0) := (blk_cell BY.out 1).trans rfl
      have hx2 : w1.cell? ⟨g7, 2, none⟩ = some (.int .i64 1) := (blk_cell BX.out 2).trans rfl
      have hy2 : w1.cell? ⟨g8, 2, none⟩ = some (.int .i64 2) := (blk_cell BY.out 2).trans rfl
      have hx3 : w1.cell? ⟨g7, 3, none⟩ = some (.int .i64 0) := (blk_cell BX.out 3).trans rfl
      have hy3 : w1.cell? ⟨g8, 3, none⟩ = some (.int .i64 0) := (blk_cell BY.out 3).trans rfl
      have hx4 : w1.cell? ⟨g7, 4, none⟩ = some (.slice (some ⟨gq + 1, 0, none⟩) 1 1) := (blk_cell BX.out 4).trans rfl
      have hy4 : w1.cell? ⟨g8, 4, none⟩ = some (.slice (some ⟨gq + 1, 0, none⟩) 1 1) := (blk_cell BY.out 4).trans rfl
      have hx5 : w1.cell? ⟨g7, 5, none⟩ = some (.int .u32 0) := (blk_cell BX.out 5).trans rfl
      have hy5 : w1.cell? ⟨g8, 5, none⟩ = some (.int .u32 0) := (blk_cell BY.out 5).trans rfl
      have hx6 : w1.cell? ⟨g7, 6, none⟩ = some (.int .i64 (a1)) := (blk_cell BX.out 6).trans rfl
      have hy6 : w1.cell? ⟨g8, 6, none⟩ = some (.int .i64 (a2)) := (blk_cell BY.out 6).trans rfl
      have hx7 : w1.cell? ⟨g7, 7, none⟩ = some (.int .i64 100) := (blk_cell BX.out 7).trans rfl
      have hy7 : w1.cell? ⟨g8, 7, none⟩ = some (.int .i64 100) := (blk_cell BY.out 7).trans rfl
      have hx8 : w1.cell? ⟨g7, 8, none⟩ = some (.slice none 0 0) := (blk_cell BX.out 8).trans rfl
      have hy8 : w1.cell? ⟨g8, 8, none⟩ = some (.slice none 0 0) := (blk_cell BY.out 8).trans rfl
      have hx9 : w1.cell? ⟨g7, 9, none⟩ = some (.slice none 0 0) := (blk_cell BX.out 9).trans rfl
      have hy9 : w1.cell? ⟨g8, 9, none⟩ = some (.slice none 0 0) := (blk_cell BY.out 9).trans rfl
      have hx10 : w1.cell? ⟨g7, 10, none⟩ = some (.int .i64 0) := (blk_cell BX.out 10).trans rfl
      have hy10 : w1.cell? ⟨g8, 10, none⟩ = some (.int .i64 0) := (blk_cell BY.out 10).trans rfl
      go_wp2_with fail
      refine (decide_Best.calls 1 (some ⟨gi, 0, none⟩) 2 [(⟨1, 2, 5⟩ : S49), (⟨2, 2, 5⟩ : S49)] (some ⟨w1.heap.size, 0, none⟩) 2 [(⟨(⟨0, 0⟩ : S34), 2, (⟨0, [(⟨false, [7, 8]⟩ : S47)], 0, a2, 100, [], []⟩ : S39), 0⟩ : S41), (⟨(⟨0, 0⟩ : S34), 1, (⟨0, [(⟨false, [7, 8]⟩ : S47)], 0, a1, 100, [], []⟩ : S39), 0⟩ : S41)] 1 true (w1.alloc (.cells #[.int .u32 0, .int .i64 0, .int .i64 2, .int .i64 0, .slice (some ⟨gq + 1, 0, none⟩) 1 1, .int .u32 0, .int .i64 (a2), .int .i64 100, .slice none 0 0, .slice none 0 0, .int .i64 0, .int .u32 0, .int .i64 0, .int .i64 1, .int .i64 0, .slice (some ⟨gq + 1, 0, none⟩) 1 1, .int .u32 0, .int .i64 (a1), .int .i64 100, .slice none 0 0, .slice none 0 0, .int .i64 0] 41)) (Kd.C_alloc CI.out _) (Nat.le_refl _) (C_block2 (c1 := [.int .u32 0, .int .i64 0, .int .i64 2, .int .i64 0, .slice (some ⟨gq + 1, 0, none⟩) 1 1, .int .u32 0, .int .i64 (a2), .int .i64 100, .slice none 0 0, .slice none 0 0, .int .i64 0]) (c2 := [.int .u32 0, .int .i64 0, .int .i64 1, .int .i64 0, .slice (some ⟨gq + 1, 0, none⟩) 1 1, .int .u32 0, .int .i64 (a1), .int .i64 100, .slice none 0 0, .slice none 0 0, .int .i64 0]) (alloc_at w1 _) rfl rfl (k41_mk _ (⟨(⟨0, 0⟩ : S34), 2, (⟨0, [(⟨false, [7, 8]⟩ : S47)], 0, a2, 100, [], []⟩ : S39), 0⟩ : S41) (Nat.le_refl _) (Kd.C_alloc CY.out _) (Nat.le_refl _) (Kd.C_nil _ _) (Nat.le_refl _) (Kd.C_nil _ _)) (k41_mk _ (⟨(⟨0, 0⟩ : S34), 1, (⟨0, [(⟨false, [7, 8]⟩ : S47)], 0, a1, 100, [], []⟩ : S39), 0⟩ : S41) (Nat.le_refl _) (Kd.C_alloc CX.out _) (Nat.le_refl _) (Kd.C_nil _ _) (Nat.le_refl _) (Kd.C_nil _ _))) (Nat.le_refl _) HF2.out).mono ?_
      rintro e w2 ⟨rfl, hb1⟩
      have hbw : Below w1.heap.size w1 w2 := (below_alloc (Below.refl _ _) _).trans (hb1.mono (by simp))
      replace HB := Aside0.mk (HB.out.trans (hbw.mono HB.out.size))
      replace BX := Aside0.mk ((hbw.block g7 (blk_lt BX.out)).trans BX.out)
      replace BY := Aside0.mk ((hbw.block g8 (blk_lt BY.out)).trans BY.out)
      replace CI := Aside0.mk (Kd.C_below CI.out hbw)
      replace CX := Aside0.mk (Kd.C_below CX.out hbw)
      replace CY := Aside0.mk (Kd.C_below CY.out hbw)
      clear hb1 hbw hx0 hy0 hx1 hy1 hx2 hy2 hx3 hy3 hx4 hy4 hx5 hy5 hx6 hy6 hx7 hy7 hx8 hy8 hx9 hy9 hx10 hy10
      go_wp2_with fail
      refine (interregnumlaw15_answers.calls true _ HANS.out).mono ?_
      rintro e w3 ⟨rfl, hb1⟩
      replace HB := Aside0.mk (HB.out.trans (hb1.mono HB.out.size))
      clear hb1
      go_wp2
      go_ret
      exact ⟨by first | rfl | (simp; done), HB.out⟩
    · have hd : decide (a1 ≤ a2) = false := decide_eq_false hc
      rw [hd] at HF1 HF2
      rw [hd]
      clear hc hd
      replace HF1 := Aside0.mk (show decide_Best.f 1 [(⟨1, 2, 5⟩ : S49), (⟨2, 2, 5⟩ : S49)] [(⟨(⟨0, 0⟩ : S34), 1, (⟨0, [(⟨false, [7, 8]⟩ : S47)], 0, a1, 100, [], []⟩ : S39), 0⟩ : S41), (⟨(⟨0, 0⟩ : S34), 2, (⟨0, [(⟨false, [7, 8]⟩ : S47)], 0, a2, 100, [], []⟩ : S39), 0⟩ : S41)] = some (1, true) from HF1.out)
      replace HF2 := Aside0.mk (show decide_Best.f 1 [(⟨1, 2, 5⟩ : S49), (⟨2, 2, 5⟩ : S49)] [(⟨(⟨0, 0⟩ : S34), 2, (⟨0, [(⟨false, [7, 8]⟩ : S47)], 0, a2, 100, [], []⟩ : S39), 0⟩ : S41), (⟨(⟨0, 0⟩ : S34), 1, (⟨0, [(⟨false, [7, 8]⟩ : S47)], 0, a1, 100, [], []⟩ : S39), 0⟩ : S41)] = some (0, true) from HF2.out)
      have hx0 : wt.cell? ⟨g7, 0, none⟩ = some (.int .u32 0) := (blk_cell BX.out 0).trans rfl
      have hy0 : wt.cell? ⟨g8, 0, none⟩ = some (.int .u32 0) := (blk_cell BY.out 0).trans rfl
      have hx1 : wt.cell? ⟨g7, 1, none⟩ = some (.int .i64 0) := (blk_cell BX.out 1).trans rfl
      have hy1 : wt.cell? ⟨g8, 1, none⟩ = some (.int .i64 0) := (blk_cell BY.out 1).trans rfl
      have hx2 : wt.cell? ⟨g7, 2, none⟩ = some (.int .i64 1) := (blk_cell BX.out 2).trans rfl
      have hy2 : wt.cell? ⟨g8, 2, none⟩ = some (.int .i64 2) := (blk_cell BY.out 2).trans rfl
      have hx3 : wt.cell? ⟨g7, 3, none⟩ = some (.int .i64 0) := (blk_cell BX.out 3).trans rfl
      have hy3 : wt.cell? ⟨g8, 3, none⟩ = some (.int .i64 0) := (blk_cell BY.out 3).trans rfl
      have hx4 : wt.cell? ⟨g7, 4, none⟩ = some (.slice (some ⟨gq + 1, 0, none⟩) 1 1) := (blk_cell BX.out 4).trans rfl
      have hy4 : wt.cell? ⟨g8, 4, none⟩ = some (.slice (some ⟨gq + 1, 0, none⟩) 1 1) := (blk_cell BY.out 4).trans rfl
      have hx5 : wt.cell? ⟨g7, 5, none⟩ = some (.int .u32 0) := (blk_cell BX.out 5).trans rfl
      have hy5 : wt.cell? ⟨g8, 5, none⟩ = some (.int .u32 0) := (blk_cell BY.out 5).trans rfl
      have hx6 : wt.cell? ⟨g7, 6, none⟩ = some (.int .i64 (a1)) := (blk_cell BX.out 6).trans rfl
      have hy6 : wt.cell? ⟨g8, 6, none⟩ = some (.int .i64 (a2)) := (blk_cell BY.out 6).trans rfl
      have hx7 : wt.cell? ⟨g7, 7, none⟩ = some (.int .i64 100) := (blk_cell BX.out 7).trans rfl
      have hy7 : wt.cell? ⟨g8, 7, none⟩ = some (.int .i64 100) := (blk_cell BY.out 7).trans rfl
      have hx8 : wt.cell? ⟨g7, 8, none⟩ = some (.slice none 0 0) := (blk_cell BX.out 8).trans rfl
      have hy8 : wt.cell? ⟨g8, 8, none⟩ = some (.slice none 0 0) := (blk_cell BY.out 8).trans rfl
      have hx9 : wt.cell? ⟨g7, 9, none⟩ = some (.slice none 0 0) := (blk_cell BX.out 9).trans rfl
      have hy9 : wt.cell? ⟨g8, 9, none⟩ = some (.slice none 0 0) := (blk_cell BY.out 9).trans rfl
      have hx10 : wt.cell? ⟨g7, 10, none⟩ = some (.int .i64 0) := (blk_cell BX.out 10).trans rfl
      have hy10 : wt.cell? ⟨g8, 10, none⟩ = some (.int .i64 0) := (blk_cell BY.out 10).trans rfl
      go_wp2_with fail
      refine (decide_Best.calls 1 (some ⟨gi, 0, none⟩) 2 [(⟨1, 2, 5⟩ : S49), (⟨2, 2, 5⟩ : S49)] (some ⟨wt.heap.size, 0, none⟩) 2 [(⟨(⟨0, 0⟩ : S34), 1, (⟨0, [(⟨false, [7, 8]⟩ : S47)], 0, a1, 100, [], []⟩ : S39), 0⟩ : S41), (⟨(⟨0, 0⟩ : S34), 2, (⟨0, [(⟨false, [7, 8]⟩ : S47)], 0, a2, 100, [], []⟩ : S39), 0⟩ : S41)] 1 true (wt.alloc (.cells #[.int .u32 0, .int .i64 0, .int .i64 1, .int .i64 0, .slice (some ⟨gq + 1, 0, none⟩) 1 1, .int .u32 0, .int .i64 (a1), .int .i64 100, .slice none 0 0, .slice none 0 0, .int .i64 0, .int .u32 0, .int .i64 0, .int .i64 2, .int .i64 0, .slice (some ⟨gq + 1, 0, none⟩) 1 1, .int .u32 0, .int .i64 (a2), .int .i64 100, .slice none 0 0, .slice none 0 0, .int .i64 0] 41)) (Kd.C_alloc CI.out _) (Nat.le_refl _) (C_block2 (c1 := [.int .u32 0, .int .i64 0, .int .i64 1, .int .i64 0, .slice (some ⟨gq + 1, 0, none⟩) 1 1, .int .u32 0, .int .i64 (a1), .int .i64 100, .slice none 0 0, .slice none 0 0, .int .i64 0]) (c2 := [.int .u32 0, .int .i64 0, .int .i64 2, .int .i64 0, .slice (some ⟨gq + 1, 0, none⟩) 1 1, .int .u32 0, .int .i64 (a2), .int .i64 100, .slice none 0 0, .slice none 0 0, .int .i64 0]) (alloc_at wt _) rfl rfl (k41_mk _ (⟨(⟨0, 0⟩ : S34), 1, (⟨0, [(⟨false, [7, 8]⟩ : S47)], 0, a1, 100, [], []⟩ : S39), 0⟩ : S41) (Nat.le_refl _) (Kd.C_alloc CX.out _) (Nat.le_refl _) (Kd.C_nil _ _) (Nat.le_refl _) (Kd.C_nil _ _)) (k41_mk _ (⟨(⟨0, 0⟩ : S34), 2, (⟨0, [(⟨false, [7, 8]⟩ : S47)], 0, a2, 100, [], []⟩ : S39), 0⟩ : S41) (Nat.le_refl _) (Kd.C_alloc CY.out _) (Nat.le_refl _) (Kd.C_nil _ _) (Nat.le_refl _) (Kd.C_nil _ _))) (Nat.le_refl _) HF1.out).mono ?_
      rintro e w1 ⟨rfl, hb1⟩
      have hbw : Below wt.heap.size wt w1 := (below_alloc (Below.refl _ _) _).trans (hb1.mono (by simp))
      replace HB := Aside0.mk (HB.out.trans (hbw.mono HB.out.size))
      replace BX := Aside0.mk ((hbw.block g7 (blk_lt BX.out)).trans BX.out)
      replace BY := Aside0.mk ((hbw.block g8 (blk_lt BY.out)).trans BY.out)
      replace CI := Aside0.mk (Kd.C_below CI.out hbw)
      replace CX := Aside0.mk (Kd.C_below CX.out hbw)
      replace CY := Aside0.mk (Kd.C_below CY.out hbw)
      clear hb1 hbw hx0 hy0 hx1 hy1 hx2 hy2 hx3 hy3 hx4 hy4 hx5 hy5 hx6 hy6 hx7 hy7 hx8 hy8 hx9 hy9 hx10 hy10
      have hx0 : w1.cell? ⟨g7, 0, none⟩ = some (.int .u32 0) := (blk_cell BX.out 0).trans rfl
      have hy0 : w1.cell? ⟨g8, 0, none⟩ = some (.int .u32 0) := (blk_cell BY.out 0).trans rfl
      have hx1 : w1.cell? ⟨g7, 1, none⟩ = some (.int .i64 0) := (blk_cell BX.out 1).trans rfl
      have hy1 : w1.cell? ⟨g8, 1, none⟩ = some (.int .i64 0) := (blk_cell BY.out 1).trans rfl
      have hx2 : w1.cell? ⟨g7, 2, none⟩ = some (.int .i64 1) := (blk_cell BX.out 2).trans rfl
      have hy2 : w1.cell? ⟨g8, 2, none⟩ = some (.int .i64 2) := (blk_cell BY.out 2).trans rfl
      have hx3 : w1.cell? ⟨g7, 3, none⟩ = some (.int .i64 0) := (blk_cell BX.out 3).trans rfl
      have hy3 : w1.cell? ⟨g8, 3, none⟩ = some (.int .i64 0) := (blk_cell BY.out 3).trans rfl
      have hx4 : w1.cell? ⟨g7, 4, none⟩ = some (.slice (some ⟨gq + 1, 0, none⟩) 1 1) := (blk_cell BX.out 4).trans rfl
      have hy4 : w1.cell? ⟨g8, 4, none⟩ = some (.slice (some ⟨gq + 1, 0, none⟩) 1 1) := (blk_cell BY.out 4).trans rfl
      have hx5 : w1.cell? ⟨g7, 5, none⟩ = some (.int .u32 0) := (blk_cell BX.out 5).trans rfl
      have hy5 : w1.cell? ⟨g8, 5, none⟩ = some (.int .u32 0) := (blk_cell BY.out 5).trans rfl
      have hx6 : w1.cell? ⟨g7, 6, none⟩ = some (.int .i64 (a1)) := (blk_cell BX.out 6).trans rfl
      have hy6 : w1.cell? ⟨g8, 6, none⟩ = some (.int .i64 (a2)) := (blk_cell BY.out 6).trans rfl
      have hx7 : w1.cell? ⟨g7, 7, none⟩ = some (.int .i64 100) := (blk_cell BX.out 7).trans rfl
      have hy7 : w1.cell? ⟨g8, 7, none⟩ = some (.int .i64 100) := (blk_cell BY.out 7).trans rfl
      have hx8 : w1.cell? ⟨g7, 8, none⟩ = some (.slice none 0 0) := (blk_cell BX.out 8).trans rfl
      have hy8 : w1.cell? ⟨g8, 8, none⟩ = some (.slice none 0 0) := (blk_cell BY.out 8).trans rfl
      have hx9 : w1.cell? ⟨g7, 9, none⟩ = some (.slice none 0 0) := (blk_cell BX.out 9).trans rfl
      have hy9 : w1.cell? ⟨g8, 9, none⟩ = some (.slice none 0 0) := (blk_cell BY.out 9).trans rfl
      have hx10 : w1.cell? ⟨g7, 10, none⟩ = some (.int .i64 0) := (blk_cell BX.out 10).trans rfl
      have hy10 : w1.cell? ⟨g8, 10, none⟩ = some (.int .i64 0) := (blk_cell BY.out 10).trans rfl
      go_wp2_with fail
      refine (decide_Best.calls 1 (some ⟨gi, 0, none⟩) 2 [(⟨1, 2, 5⟩ : S49), (⟨2, 2, 5⟩ : S49)] (some ⟨w1.heap.size, 0, none⟩) 2 [(⟨(⟨0, 0⟩ : S34), 2, (⟨0, [(⟨false, [7, 8]⟩ : S47)], 0, a2, 100, [], []⟩ : S39), 0⟩ : S41), (⟨(⟨0, 0⟩ : S34), 1, (⟨0, [(⟨false, [7, 8]⟩ : S47)], 0, a1, 100, [], []⟩ : S39), 0⟩ : S41)] 0 true (w1.alloc (.cells #[.int .u32 0, .int .i64 0, .int .i64 2, .int .i64 0, .slice (some ⟨gq + 1, 0, none⟩) 1 1, .int .u32 0, .int .i64 (a2), .int .i64 100, .slice none 0 0, .slice none 0 0, .int .i64 0, .int .u32 0, .int .i64 0, .int .i64 1, .int .i64 0, .slice (some ⟨gq + 1, 0, none⟩) 1 1, .int .u32 0, .int .i64 (a1), .int .i64 100, .slice none 0 0, .slice none 0 0, .int .i64 0] 41)) (Kd.C_alloc CI.out _) (Nat.le_refl _) (C_block2 (c1 := [.int .u32 0, .int .i64 0, .int .i64 2, .int .i64 0, .slice (some ⟨gq + 1, 0, none⟩) 1 1, .int .u32 0, .int .i64 (a2), .int .i64 100, .slice none 0 0, .slice none 0 0, .int .i64 0]) (c2 := [.int .u32 0, .int .i64 0, .int .i64 1, .int .i64 0, .slice (some ⟨gq + 1, 0, none⟩) 1 1, .int .u32 0, .int .i64 (a1), .int .i64 100, .slice none 0 0, .slice none 0 0, .int .i64 0]) (alloc_at w1 _) rfl rfl (k41_mk _ (⟨(⟨0, 0⟩ : S34), 2, (⟨0, [(⟨false, [7, 8]⟩ : S47)], 0, a2, 100, [], []⟩ : S39), 0⟩ : S41) (Nat.le_refl _) (Kd.C_alloc CY.out _) (Nat.le_refl _) (Kd.C_nil _ _) (Nat.le_refl _) (Kd.C_nil _ _)) (k41_mk _ (⟨(⟨0, 0⟩ : S34), 1, (⟨0, [(⟨false, [7, 8]⟩ : S47)], 0, a1, 100, [], []⟩ : S39), 0⟩ : S41) (Nat.le_refl _) (Kd.C_alloc CX.out _) (Nat.le_refl _) (Kd.C_nil _ _) (Nat.le_refl _) (Kd.C_nil _ _))) (Nat.le_refl _) HF2.out).mono ?_
      rintro e w2 ⟨rfl, hb1⟩
      have hbw : Below w1.heap.size w1 w2 := (below_alloc (Below.refl _ _) _).trans (hb1.mono (by simp))
      replace HB := Aside0.mk (HB.out.trans (hbw.mono HB.out.size))
      replace BX := Aside0.mk ((hbw.block g7 (blk_lt BX.out)).trans BX.out)
      replace BY := Aside0.mk ((hbw.block g8 (blk_lt BY.out)).trans BY.out)
      replace CI := Aside0.mk (Kd.C_below CI.out hbw)
      replace CX := Aside0.mk (Kd.C_below CX.out hbw)
      replace CY := Aside0.mk (Kd.C_below CY.out hbw)
      clear hb1 hbw hx0 hy0 hx1 hy1 hx2 hy2 hx3 hy3 hx4 hy4 hx5 hy5 hx6 hy6 hx7 hy7 hx8 hy8 hx9 hy9 hx10 hy10
      go_wp2_with fail
      refine (interregnumlaw15_answers.calls true _ HANS.out).mono ?_
      rintro e w3 ⟨rfl, hb1⟩
      replace HB := Aside0.mk (HB.out.trans (hb1.mono HB.out.size))
      clear hb1
      go_wp2
      go_ret
      exact ⟨by first | rfl | (simp; done), HB.out⟩
  · rw [hq] at HF1 HF2
    rw [hq]
    clear hq
    replace HF1 := Aside0.mk (show decide_Best.f 1 [(⟨1, 1 + a1 % 2, 5⟩ : S49), (⟨2, 1 + a2 % 2, 5⟩ : S49)] [(⟨(⟨0, 0⟩ : S34), 1, (⟨0, [(⟨false, [7, 8]⟩ : S47)], 0, (-1), 100, [], []⟩ : S39), 0⟩ : S41), (⟨(⟨0, 0⟩ : S34), 2, (⟨0, [(⟨false, [7, 8]⟩ : S47)], 0, (-1), 100, [], []⟩ : S39), 0⟩ : S41)] = some (if (decide (a2 % 2 ≤ a1 % 2)) = true then 0 else 1, true) from HF1.out)
    replace HF2 := Aside0.mk (show decide_Best.f 1 [(⟨1, 1 + a1 % 2, 5⟩ : S49), (⟨2, 1 + a2 % 2, 5⟩ : S49)] [(⟨(⟨0, 0⟩ : S34), 2, (⟨0, [(⟨false, [7, 8]⟩ : S47)], 0, (-1), 100, [], []⟩ : S39), 0⟩ : S41), (⟨(⟨0, 0⟩ : S34), 1, (⟨0, [(⟨false, [7, 8]⟩ : S47)], 0, (-1), 100, [], []⟩ : S39), 0⟩ : S41)] = some (if (decide (a2 % 2 ≤ a1 % 2)) = true then 1 else 0, true) from HF2.out)
    have hi1 : wc.cell? ⟨gi, 1, none⟩ = some (.int .i64 2) := (blk_cell BI.out 1).trans rfl
    have hfi1 := blk_frozen BI.out 1
    have hi4 : wc.cell? ⟨gi, 4, none⟩ = some (.int .i64 2) := (blk_cell BI.out 4).trans rfl
    have hfi4 := blk_frozen BI.out 4
    have hm1 : a1.tmod 2 = a1 % 2 := Int.tmod_eq_emod_of_nonneg HA1.out.1
    have hv1 : wrap64 (a1 % 2) = a1 % 2 := by have := HA1.out; unfold wrap64; omega
    have hm2 : a2.tmod 2 = a2 % 2 := Int.tmod_eq_emod_of_nonneg HA2.out.1
    have hv2 : wrap64 (a2 % 2) = a2 % 2 := by have := HA2.out; unfold wrap64; omega
    go_upto_region 29 with (fail)
    clear hw1 hw2 hm1 hv1 hm2 hv2
    have far : ∀ (k : Nat), k ≠ gi → k ≠ gi → ((wc.setCell ⟨gi, 1, none⟩ (.int .i64 (1 + a1 % 2))).setCell ⟨gi, 4, none⟩ (.int .i64 (1 + a2 % 2))).heap[k]? = wc.heap[k]? := fun k h1 h2 => (Below.heap_setCell _ ⟨gi, _, none⟩ _ k h2).trans (Below.heap_setCell _ ⟨gi, _, none⟩ _ k h1)
    replace BX := Aside0.mk ((far g7 (by have := GE.out; omega) (by have := GE.out; omega)).trans BX.out)
    replace BY := Aside0.mk ((far g8 (by have := GE.out; omega) (by have := GE.out; omega)).trans BY.out)
    replace BI := Aside0.mk (show ((wc.setCell ⟨gi, 1, none⟩ (.int .i64 (1 + a1 % 2))).setCell ⟨gi, 4, none⟩ (.int .i64 (1 + a2 % 2))).heap[gi]? = some (.cells #[.int .i64 1, .int .i64 (1 + a1 % 2), .int .u32 5, .int .i64 2, .int .i64 (1 + a2 % 2), .int .u32 5] 49 (0, 0)) from blk_put (cs := #[.int .i64 1, .int .i64 (1 + a1 % 2), .int .u32 5, .int .i64 2, .int .i64 2, .int .u32 5]) (blk_put BI.out 1 _ rfl) 4 _ rfl)
    replace BQ := Aside0.mk ((far gq (by have := GE.out; omega) (by have := GE.out; omega)).trans BQ.out)
    replace BP := Aside0.mk ((far (gq + 1) (by have := GE.out; omega) (by have := GE.out; omega)).trans BP.out)
    replace HB := Aside0.mk (Below.setCell (p := ⟨gi, 4, none⟩) (Below.setCell (p := ⟨gi, 1, none⟩) HB.out (by have := GE.out; have := HGQ.out; show _ ≤ gi; omega) (.int .i64 (1 + a1 % 2))) (by have := GE.out; have := HGQ.out; show _ ≤ gi; omega) (.int .i64 (1 + a2 % 2)))
    clear far n78 n87 hi1 hfi1 hi4 hfi4
    generalize ((wc.setCell ⟨gi, 1, none⟩ (.int .i64 (1 + a1 % 2))).setCell ⟨gi, 4, none⟩ (.int .i64 (1 + a2 % 2))) = wt at BX BY BI BQ BP HB ⊢
    have CQ := (C_block2 (c1 := [.int .i64 7]) (c2 := [.int .i64 8]) (x := (7 : Int)) (y := 8) (d := Kd.int .i64) BQ.out rfl rfl rfl rfl)
    have CX := Aside0.mk (C_block1 (c := [.bool false, .slice (some ⟨gq, 0, none⟩) 2 2]) (x := (⟨false, [7, 8]⟩ : S47)) (d := k47) BP.out rfl (k47_mk _ _ (Nat.le_refl _) CQ))
    have CY := Aside0.mk CX.out
    have CI := Aside0.mk (C_block2 (c1 := [.int .i64 1, .int .i64 (1 + a1 % 2), .int .u32 5]) (c2 := [.int .i64 2, .int .i64 (1 + a2 % 2), .int .u32 5]) (x := (⟨1, 1 + a1 % 2, 5⟩ : S49)) (y := (⟨2, 1 + a2 % 2, 5⟩ : S49)) (d := k49) BI.out rfl rfl (k49_mk _ _) (k49_mk _ _))
    clear CQ BQ BP BI
    by_cases hc : a2 % 2 ≤ a1 % 2
    · have hd : decide (a2 % 2 ≤ a1 % 2) = true := decide_eq_true hc
      rw [hd] at HF1 HF2
      rw [hd]
      clear hc hd
      replace HF1 := Aside0.mk (show decide_Best.f 1 [(⟨1, 1 + a1 % 2, 5⟩ : S49), (⟨2, 1 + a2 % 2, 5⟩ : S49)] [(⟨(⟨0, 0⟩ : S34), 1, (⟨0, [(⟨false, [7, 8]⟩ : S47)], 0, (-1), 100, [], []⟩ : S39), 0⟩ : S41), (⟨(⟨0, 0⟩ : S34), 2, (⟨0, [(⟨false, [7, 8]⟩ : S47)], 0, (-1), 100, [], []⟩ : S39), 0⟩ : S41)] = some (0, true) from HF1.out)
      replace HF2 := Aside0.mk (show decide_Best.f 1 [(⟨1, 1 + a1 % 2, 5⟩ : S49), (⟨2, 1 + a2 % 2, 5⟩ : S49)] [(⟨(⟨0, 0⟩ : S34), 2, (⟨0, [(⟨false, [7, 8]⟩ : S47)], 0, (-1), 100, [], []⟩ : S39), 0⟩ : S41), (⟨(⟨0, 0⟩ : S34), 1, (⟨0, [(⟨false, [7, 8]⟩ : S47)], 0, (-1), 100, [], []⟩ : S39), 0⟩ : S41)] = some (1, true) from HF2.out)
      have hx0 : wt.cell? ⟨g7, 0, none⟩ = some (.int .u32 0) := (blk_cell BX.out 0).trans rfl
      have hy0 : wt.cell? ⟨g8, 0, none⟩ = some (.int .u32 0) := (blk_cell BY.out 0).trans rfl
      have hx1 : wt.cell? ⟨g7, 1, none⟩ = some (.int .i64 0) := (blk_cell BX.out 1).trans rfl
      have hy1 : wt.cell? ⟨g8, 1, none⟩ = some (.int .i64 0) := (blk_cell BY.out 1).trans rfl
      have hx2 : wt.cell? ⟨g7, 2, none⟩ = some (.int .i64 1) := (blk_cell BX.out 2).trans rfl
      have hy2 : wt.cell? ⟨g8, 2, none⟩ = some (.int .i64 2) := (blk_cell BY.out 2).trans rfl
      have hx3 : wt.cell? ⟨g7, 3, none⟩ = some (.int .i64 0) := (blk_cell BX.out 3).trans rfl
      have hy3 : wt.cell? ⟨g8, 3, none⟩ = some (.int .i64 0) := (blk_cell BY.out 3).trans rfl
      have hx4 : wt.cell? ⟨g7, 4, none⟩ = some (.slice (some ⟨gq + 1, 0, none⟩) 1 1) := (blk_cell BX.out 4).trans rfl
      have hy4 : wt.cell? ⟨g8, 4, none⟩ = some (.slice (some ⟨gq + 1, 0, none⟩) 1 1) := (blk_cell BY.out 4).trans rfl
      have hx5 : wt.cell? ⟨g7, 5, none⟩ = some (.int .u32 0) := (blk_cell BX.out 5).trans rfl
      have hy5 : wt.cell? ⟨g8, 5, none⟩ = some (.int .u32 0) := (blk_cell BY.out 5).trans rfl
      have hx6 : wt.cell? ⟨g7, 6, none⟩ = some (.int .i64 (-1)) := (blk_cell BX.out 6).trans rfl
      have hy6 : wt.cell? ⟨g8, 6, none⟩ = some (.int .i64 (-1)) := (blk_cell BY.out 6).trans rfl
      have hx7 : wt.cell? ⟨g7, 7, none⟩ = some (.int .i64 100) := (blk_cell BX.out 7).trans rfl
      have hy7 : wt.cell? ⟨g8, 7, none⟩ = some (.int .i64 100) := (blk_cell BY.out 7).trans rfl
      have hx8 : wt.cell? ⟨g7, 8, none⟩ = some (.slice none 0 0) := (blk_cell BX.out 8).trans rfl
      have hy8 : wt.cell? ⟨g8, 8, none⟩ = some (.slice none 0 0) := (blk_cell BY.out 8).trans rfl
      have hx9 : wt.cell? ⟨g7, 9, none⟩ = some (.slice none 0 0) := (blk_cell BX.out 9).trans rfl
      have hy9 : wt.cell? ⟨g8, 9, none⟩ = some (.slice none 0 0) := (blk_cell BY.out 9).trans rfl
      have hx10 : wt.cell? ⟨g7, 10, none⟩ = some (.int .i64 0) := (blk_cell BX.out 10).trans rfl
      have hy10 : wt.cell? ⟨g8, 10, none⟩ = some (.int .i64 0) := (blk_cell BY.out 10).trans rfl
      go_wp2_with fail
      refine (decide_Best.calls 1 (some ⟨gi, 0, none⟩) 2 [(⟨1, 1 + a1 % 2, 5⟩ : S49), (⟨2, 1 + a2 % 2, 5⟩ : S49)] (some ⟨wt.heap.size, 0, none⟩) 2 [(⟨(⟨0, 0⟩ : S34), 1, (⟨0, [(⟨false, [7, 8]⟩ : S47)], 0, (-1), 100, [], []⟩ : S39), 0⟩ : S41), (⟨(⟨0, 0⟩ : S34), 2, (⟨0, [(⟨false, [7, 8]⟩ : S47)], 0, (-1), 100, [], []⟩ : S39), 0⟩ : S41)] 0 true (wt.alloc (.cells #[.int .u32 0, .int .i64 0, .int .i64 1, .int .i64 0, .slice (some ⟨gq + 1, 0, none⟩) 1 1, .int .u32 0, .int .i64 (-1), .int .i64 100, .slice none 0 0, .slice none 0 0, .int .i64 0, .int .u32 0, .int .i64 0, .int .i64 2, .int .i64 0, .slice (some ⟨gq + 1, 0, none⟩) 1 1, .int .u32 0, .int .i64 (-1), .int .i64 100, .slice none 0 0, .slice none 0 0, .int .i64 0] 41)) (Kd.C_alloc CI.out _) (Nat.le_refl _) (C_block2 (c1 := [.int .u32 0, .int .i64 0, .int .i64 1, .int .i64 0, .slice (some ⟨gq + 1, 0, none⟩) 1 1, .int .u32 0, .int .i64 (-1), .int .i64 100, .slice none 0 0, .slice none 0 0, .int .i64 0]) (c2 := [.int .u32 0, .int .i64 0, .int .i64 2, .int .i64 0, .slice (some ⟨gq + 1, 0, none⟩) 1 1, .int .u32 0, .int .i64 (-1), .int .i64 100, .slice none 0 0, .slice none 0 0, .int .i64 0]) (alloc_at wt _) rfl rfl (k41_mk _ (⟨(⟨0, 0⟩ : S34), 1, (⟨0, [(⟨false, [7, 8]⟩ : S47)], 0, (-1), 100, [], []⟩ : S39), 0⟩ : S41) (Nat.le_refl _) (Kd.C_alloc CX.out _) (Nat.le_refl _) (Kd.C_nil _ _) (Nat.le_refl _) (Kd.C_nil _ _)) (k41_mk _ (⟨(⟨0, 0⟩ : S34), 2, (⟨0, [(⟨false, [7, 8]⟩ : S47)], 0, (-1), 100, [], []⟩ : S39), 0⟩ : S41) (Nat.le_refl _) (Kd.C_alloc CY.out _) (Nat.le_refl _) (Kd.C_nil _ _) (Nat.le_refl _) (Kd.C_nil _ _))) (Nat.le_refl _) HF1.out).mono ?_
      rintro e w1 ⟨rfl, hb1⟩
      have hbw : Below wt.heap.size wt w1 := (below_alloc (Below.refl _ _) _).trans (hb1.mono (by simp))
      replace HB := Aside0.mk (HB.out.trans (hbw.mono HB.out.size))
      replace BX := Aside0.mk ((hbw.block g7 (blk_lt BX.out)).trans BX.out)
      replace BY := Aside0.mk ((hbw.block g8 (blk_lt BY.out)).trans BY.out)
      replace CI := Aside0.mk (Kd.C_below CI.out hbw)
      replace CX := Aside0.mk (Kd.C_below CX.out hbw)
      replace CY := Aside0.mk (Kd.C_below CY.out hbw)
      clear hb1 hbw hx0 hy0 hx1 hy1 hx2 hy2 hx3 hy3 hx4 hy4 hx5 hy5 hx6 hy6 hx7 hy7 hx8 hy8 hx9 hy9 hx10 hy10
      have hx0 : w1.cell? ⟨g7, 0, none⟩ = some (.int .u32 0) := (blk_cell BX.out 0).trans rfl
      have hy0 : w1.cell? ⟨g8, 0, none⟩ = some (.int .u32 0) := (blk_cell BY.out 0).trans rfl
      have hx1 : w1.cell? ⟨g7, 1, none⟩ = some (.int .i64 0) := (blk_cell BX.out 1).trans rfl
      have hy1 : w1.cell? ⟨g8, 1, none⟩ = some (.int .i64 0) := (blk_cell BY.out 1).trans rfl
      have hx2 : w1.cell? ⟨g7, 2, none⟩ = some (.int .i64 1) := (blk_cell BX.out 2).trans rfl
      have hy2 : w1.cell? ⟨g8, 2, none⟩ = some (.int .i64 2) := (blk_cell BY.out 2).trans rfl
      have hx3 : w1.cell? ⟨g7, 3, none⟩ = some (.int .i64 0) := (blk_cell BX.out 3).trans rfl
      have hy3 : w1.cell? ⟨g8, 3, none⟩ = some (.int .i64 0) := (blk_cell BY.out 3).trans rfl
      have hx4 : w1.cell? ⟨g7, 4, none⟩ = some (.slice (some ⟨gq + 1, 0, none⟩) 1 1) := (blk_cell BX.out 4).trans rfl
      have hy4 : w1.cell? ⟨g8, 4, none⟩ = some (.slice (some ⟨gq + 1, 0, none⟩) 1 1) := (blk_cell BY.out 4).trans rfl
      have hx5 : w1.cell? ⟨g7, 5, none⟩ = some (.int .u32 0) := (blk_cell BX.out 5).trans rfl
      have hy5 : w1.cell? ⟨g8, 5, none⟩ = some (.int .u32 0) := (blk_cell BY.out 5).trans rfl
      have hx6 : w1.cell? ⟨g7, 6, none⟩ = some (.int .i64 (-1)) := (blk_cell BX.out 6).trans rfl
      have hy6 : w1.cell? ⟨g8, 6, none⟩ = some (.int .i64 (-1)) := (blk_cell BY.out 6).trans rfl
      have hx7 : w1.cell? ⟨g7, 7, none⟩ = some (.int .i64 100) := (blk_cell BX.out 7).trans rfl
      have hy7 : w1.cell? ⟨g8, 7, none⟩ = some (.int .i64 100) := (blk_cell BY.out 7).trans rfl
      have hx8 : w1.cell? ⟨g7, 8, none⟩ = some (.slice none 0 0) := (blk_cell BX.out 8).trans rfl
      have hy8 : w1.cell? ⟨g8, 8, none⟩ = some (.slice none 0 0) := (blk_cell BY.out 8).trans rfl
      have hx9 : w1.cell? ⟨g7, 9, none⟩ = some (.slice none 0 0) := (blk_cell BX.out 9).trans rfl
      have hy9 : w1.cell? ⟨g8, 9, none⟩ = some (.slice none 0 0) := (blk_cell BY.out 9).trans rfl
      have hx10 : w1.cell? ⟨g7, 10, none⟩ = some (.int .i64 0) := (blk_cell BX.out 10).trans rfl
      have hy10 : w1.cell? ⟨g8, 10, none⟩ = some (.int .i64 0) := (blk_cell BY.out 10).trans rfl
      go_wp2_with fail
      refine (decide_Best.calls 1 (some ⟨gi, 0, none⟩) 2 [(⟨1, 1 + a1 % 2, 5⟩ : S49), (⟨2, 1 + a2 % 2, 5⟩ : S49)] (some ⟨w1.heap.size, 0, none⟩) 2 [(⟨(⟨0, 0⟩ : S34), 2, (⟨0, [(⟨false, [7, 8]⟩ : S47)], 0, (-1), 100, [], []⟩ : S39), 0⟩ : S41), (⟨(⟨0, 0⟩ : S34), 1, (⟨0, [(⟨false, [7, 8]⟩ : S47)], 0, (-1), 100, [], []⟩ : S39), 0⟩ : S41)] 1 true (w1.alloc (.cells #[.int .u32 0, .int .i64 0, .int .i64 2, .int .i64 0, .slice (some ⟨gq + 1, 0, none⟩) 1 1, .int .u32 0, .int .i64 (-1), .int .i64 100, .slice none 0 0, .slice none 0 0, .int .i64 0, .int .u32 0, .int .i64 0, .int .i64 1, .int .i64 0, .slice (some ⟨gq + 1, 0, none⟩) 1 1, .int .u32 0, .int .i64 (-1), .int .i64 100, .slice none 0 0, .slice none 0 0, .int .i64 0] 41)) (Kd.C_alloc CI.out _) (Nat.le_refl _) (C_block2 (c1 := [.int .u32 0, .int .i64 0, .int .i64 2, .int .i64 0, .slice (some ⟨gq + 1, 0, none⟩) 1 1, .int .u32 0, .int .i64 (-1), .int .i64 100, .slice none 0 0, .slice none 0 0, .int .i64 0]) (c2 := [.int .u32 0, .int .i64 0, .int .i64 1, .int .i64 0, .slice (some ⟨gq + 1, 0, none⟩) 1 1, .int .u32 0, .int .i64 (-1), .int .i64 100, .slice none 0 0, .slice none 0 0, .int .i64 0]) (alloc_at w1 _) rfl rfl (k41_mk _ (⟨(⟨0, 0⟩ : S34), 2, (⟨0, [(⟨false, [7, 8]⟩ : S47)], 0, (-1), 100, [], []⟩ : S39), 0⟩ : S41) (Nat.le_refl _) (Kd.C_alloc CY.out _) (Nat.le_refl _) (Kd.C_nil _ _) (Nat.le_refl _) (Kd.C_nil _ _)) (k41_mk _ (⟨(⟨0, 0⟩ : S34), 1, (⟨0, [(⟨false, [7, 8]⟩ : S47)], 0, (-1), 100, [], []⟩ : S39), 0⟩ : S41) (Nat.le_refl _) (Kd.C_alloc CX.out _) (Nat.le_refl _) (Kd.C_nil _ _) (Nat.le_refl _) (Kd.C_nil _ _))) (Nat.le_refl _) HF2.out).mono ?_
      rintro e w2 ⟨rfl, hb1⟩
      have hbw : Below w1.heap.size w1 w2 := (below_alloc (Below.refl _ _) _).trans (hb1.mono (by simp))
      replace HB := Aside0.mk (HB.out.trans (hbw.mono HB.out.size))
      replace BX := Aside0.mk ((hbw.block g7 (blk_lt BX.out)).trans BX.out)
      replace BY := Aside0.mk ((hbw.block g8 (blk_lt BY.out)).trans BY.out)
      replace CI := Aside0.mk (Kd.C_below CI.out hbw)
      replace CX := Aside0.mk (Kd.C_below CX.out hbw)
      replace CY := Aside0.mk (Kd.C_below CY.out hbw)
      clear hb1 hbw hx0 hy0 hx1 hy1 hx2 hy2 hx3 hy3 hx4 hy4 hx5 hy5 hx6 hy6 hx7 hy7 hx8 hy8 hx9 hy9 hx10 hy10
      go_wp2_with fail
      refine (interregnumlaw15_answers.calls true _ HANS.out).mono ?_
      rintro e w3 ⟨rfl, hb1⟩
      replace HB := Aside0.mk (HB.out.trans (hb1.mono HB.out.size))
      clear hb1
      go_wp2
      go_ret
      exact ⟨by first | rfl | (simp; done), HB.out⟩
    · have hd : decide (a2 % 2 ≤ a1 % 2) = false := decide_eq_false hc
      rw [hd] at HF1 HF2
      rw [hd]
      clear hc hd
      replace HF1 := Aside0.mk (show decide_Best.f 1 [(⟨1, 1 + a1 % 2, 5⟩ : S49), (⟨2, 1 + a2 % 2, 5⟩ : S49)] [(⟨(⟨0, 0⟩ : S34), 1, (⟨0, [(⟨false, [7, 8]⟩ : S47)], 0, (-1), 100, [], []⟩ : S39), 0⟩ : S41), (⟨(⟨0, 0⟩ : S34), 2, (⟨0, [(⟨false, [7, 8]⟩ : S47)], 0, (-1), 100, [], []⟩ : S39), 0⟩ : S41)] = some (1, true) from HF1.out)
      replace HF2 := Aside0.mk (show decide_Best.f 1 [(⟨1, 1 + a1 % 2, 5⟩ : S49), (⟨2, 1 + a2 % 2, 5⟩ : S49)] [(⟨(⟨0, 0⟩ : S34), 2, (⟨0, [(⟨false, [7, 8]⟩ : S47)], 0, (-1), 100, [], []⟩ : S39), 0⟩ : S41), (⟨(⟨0, 0⟩ : S34), 1, (⟨0, [(⟨false, [7, 8]⟩ : S47)], 0, (-1), 100, [], []⟩ : S39), 0⟩ : S41)] = some (0, true) from HF2.out)
      have hx0 : wt.cell? ⟨g7, 0, none⟩ = some (.int .u32 0) := (blk_cell BX.out 0).trans rfl
      have hy0 : wt.cell? ⟨g8, 0, none⟩ = some (.int .u32 0) := (blk_cell BY.out 0).trans rfl
      have hx1 : wt.cell? ⟨g7, 1, none⟩ = some (.int .i64 0) := (blk_cell BX.out 1).trans rfl
      have hy1 : wt.cell? ⟨g8, 1, none⟩ = some (.int .i64 0) := (blk_cell BY.out 1).trans rfl
      have hx2 : wt.cell? ⟨g7, 2, none⟩ = some (.int .i64 1) := (blk_cell BX.out 2).trans rfl
      have hy2 : wt.cell? ⟨g8, 2, none⟩ = some (.int .i64 2) := (blk_cell BY.out 2).trans rfl
      have hx3 : wt.cell? ⟨g7, 3, none⟩ = some (.int .i64 0) := (blk_cell BX.out 3).trans rfl
      have hy3 : wt.cell? ⟨g8, 3, none⟩ = some (.int .i64 0) := (blk_cell BY.out 3).trans rfl
      have hx4 : wt.cell? ⟨g7, 4, none⟩ = some (.slice (some ⟨gq + 1, 0, none⟩) 1 1) := (blk_cell BX.out 4).trans rfl
      have hy4 : wt.cell? ⟨g8, 4, none⟩ = some (.slice (some ⟨gq + 1, 0, none⟩) 1 1) := (blk_cell BY.out 4).trans rfl
      have hx5 : wt.cell? ⟨g7, 5, none⟩ = some (.int .u32 0) := (blk_cell BX.out 5).trans rfl
      have hy5 : wt.cell? ⟨g8, 5, none⟩ = some (.int .u32 0) := (blk_cell BY.out 5).trans rfl
      have hx6 : wt.cell? ⟨g7, 6, none⟩ = some (.int .i64 (-1)) := (blk_cell BX.out 6).trans rfl
      have hy6 : wt.cell? ⟨g8, 6, none⟩ = some (.int .i64 (-1)) := (blk_cell BY.out 6).trans rfl
      have hx7 : wt.cell? ⟨g7, 7, none⟩ = some (.int .i64 100) := (blk_cell BX.out 7).trans rfl
      have hy7 : wt.cell? ⟨g8, 7, none⟩ = some (.int .i64 100) := (blk_cell BY.out 7).trans rfl
      have hx8 : wt.cell? ⟨g7, 8, none⟩ = some (.slice none 0 0) := (blk_cell BX.out 8).trans rfl
      have hy8 : wt.cell? ⟨g8, 8, none⟩ = some (.slice none 0 0) := (blk_cell BY.out 8).trans rfl
      have hx9 : wt.cell? ⟨g7, 9, none⟩ = some (.slice none 0 0) := (blk_cell BX.out 9).trans rfl
      have hy9 : wt.cell? ⟨g8, 9, none⟩ = some (.slice none 0 0) := (blk_cell BY.out 9).trans rfl
      have hx10 : wt.cell? ⟨g7, 10, none⟩ = some (.int .i64 0) := (blk_cell BX.out 10).trans rfl
      have hy10 : wt.cell? ⟨g8, 10, none⟩ = some (.int .i64 0) := (blk_cell BY.out 10).trans rfl
      go_wp2_with fail
      refine (decide_Best.calls 1 (some ⟨gi, 0, none⟩) 2 [(⟨1, 1 + a1 % 2, 5⟩ : S49), (⟨2, 1 + a2 % 2, 5⟩ : S49)] (some ⟨wt.heap.size, 0, none⟩) 2 [(⟨(⟨0, 0⟩ : S34), 1, (⟨0, [(⟨false, [7, 8]⟩ : S47)], 0, (-1), 100, [], []⟩ : S39), 0⟩ : S41), (⟨(⟨0, 0⟩ : S34), 2, (⟨0, [(⟨false, [7, 8]⟩ : S47)], 0, (-1), 100, [], []⟩ : S39), 0⟩ : S41)] 1 true (wt.alloc (.cells #[.int .u32 0, .int .i64 0, .int .i64 1, .int .i64 0, .slice (some ⟨gq + 1, 0, none⟩) 1 1, .int .u32 0, .int .i64 (-1), .int .i64 100, .slice none 0 0, .slice none 0 0, .int .i64 0, .int .u32 0, .int .i64 0, .int .i64 2, .int .i64 0, .slice (some ⟨gq + 1, 0, none⟩) 1 1, .int .u32 0, .int .i64 (-1), .int .i64 100, .slice none 0 0, .slice none 0 0, .int .i64 0] 41)) (Kd.C_alloc CI.out _) (Nat.le_refl _) (C_block2 (c1 := [.int .u32 0, .int .i64 0, .int .i64 1, .int .i64 0, .slice (some ⟨gq + 1, 0, none⟩) 1 1, .int .u32 0, .int .i64 (-1), .int .i64 100, .slice none 0 0, .slice none 0 0, .int .i64 0]) (c2 := [.int .u32 0, .int .i64 0, .int .i64 2, .int .i64 0, .slice (some ⟨gq + 1, 0, none⟩) 1 1, .int .u32 0, .int .i64 (-1), .int .i64 100, .slice none 0 0, .slice none 0 0, .int .i64 0]) (alloc_at wt _) rfl rfl (k41_mk _ (⟨(⟨0, 0⟩ : S34), 1, (⟨0, [(⟨false, [7, 8]⟩ : S47)], 0, (-1), 100, [], []⟩ : S39), 0⟩ : S41) (Nat.le_refl _) (Kd.C_alloc CX.out _) (Nat.le_refl _) (Kd.C_nil _ _) (Nat.le_refl _) (Kd.C_nil _ _)) (k41_mk _ (⟨(⟨0, 0⟩ : S34), 2, (⟨0, [(⟨false, [7, 8]⟩ : S47)], 0, (-1), 100, [], []⟩ : S39), 0⟩ : S41) (Nat.le_refl _) (Kd.C_alloc CY.out _) (Nat.le_refl _) (Kd.C_nil _ _) (Nat.le_refl _) (Kd.C_nil _ _))) (Nat.le_refl _) HF1.out).mono ?_
      rintro e w1 ⟨rfl, hb1⟩
      have hbw : Below wt.heap.size wt w1 := (below_alloc (Below.refl _ _) _).trans (hb1.mono (by simp))
      replace HB := Aside0.mk (HB.out.trans (hbw.mono HB.out.size))
      replace BX := Aside0.mk ((hbw.block g7 (blk_lt BX.out)).trans BX.out)
      replace BY := Aside0.mk ((hbw.block g8 (blk_lt BY.out)).trans BY.out)
      replace CI := Aside0.mk (Kd.C_below CI.out hbw)
      replace CX := Aside0.mk (Kd.C_below CX.out hbw)
      replace CY := Aside0.mk (Kd.C_below CY.out hbw)
      clear hb1 hbw hx0 hy0 hx1 hy1 hx2 hy2 hx3 hy3 hx4 hy4 hx5 hy5 hx6 hy6 hx7 hy7 hx8 hy8 hx9 hy9 hx10 hy10
      have hx0 : w1.cell? ⟨g7, 0, none⟩ = some (.int .u32 0) := (blk_cell BX.out 0).trans rfl
      have hy0 : w1.cell? ⟨g8, 0, none⟩ = some (.int .u32 0) := (blk_cell BY.out 0).trans rfl
      have hx1 : w1.cell? ⟨g7, 1, none⟩ = some (.int .i64 0) := (blk_cell BX.out 1).trans rfl
      have hy1 : w1.cell? ⟨g8, 1, none⟩ = some (.int .i64 0) := (blk_cell BY.out 1).trans rfl
      have hx2 : w1.cell? ⟨g7, 2, none⟩ = some (.int .i64 1) := (blk_cell BX.out 2).trans rfl
      have hy2 : w1.cell? ⟨g8, 2, none⟩ = some (.int .i64 2) := (blk_cell BY.out 2).trans rfl
      have hx3 : w1.cell? ⟨g7, 3, none⟩ = some (.int .i64 0) := (blk_cell BX.out 3).trans rfl
      have hy3 : w1.cell? ⟨g8, 3, none⟩ = some (.int .i64 0) := (blk_cell BY.out 3).trans rfl
      have hx4 : w1.cell? ⟨g7, 4, none⟩ = some (.slice (some ⟨gq + 1, 0, none⟩) 1 1) := (blk_cell BX.out 4).trans rfl
      have hy4 : w1.cell? ⟨g8, 4, none⟩ = some (.slice (some ⟨gq + 1, 0, none⟩) 1 1) := (blk_cell BY.out 4).trans rfl
      have hx5 : w1.cell? ⟨g7, 5, none⟩ = some (.int .u32 0) := (blk_cell BX.out 5).trans rfl
      have hy5 : w1.cell? ⟨g8, 5, none⟩ = some (.int .u32 0) := (blk_cell BY.out 5).trans rfl
      have hx6 : w1.cell? ⟨g7, 6, none⟩ = some (.int .i64 (-1)) := (blk_cell BX.out 6).trans rfl
      have hy6 : w1.cell? ⟨g8, 6, none⟩ = some (.int .i64 (-1)) := (blk_cell BY.out 6).trans rfl
      have hx7 : w1.cell? ⟨g7, 7, none⟩ = some (.int .i64 100) := (blk_cell BX.out 7).trans rfl
      have hy7 : w1.cell? ⟨g8, 7, none⟩ = some (.int .i64 100) := (blk_cell BY.out 7).trans rfl
      have hx8 : w1.cell? ⟨g7, 8, none⟩ = some (.slice none 0 0) := (blk_cell BX.out 8).trans rfl
      have hy8 : w1.cell? ⟨g8, 8, none⟩ = some (.slice none 0 0) := (blk_cell BY.out 8).trans rfl
      have hx9 : w1.cell? ⟨g7, 9, none⟩ = some (.slice none 0 0) := (blk_cell BX.out 9).trans rfl
      have hy9 : w1.cell? ⟨g8, 9, none⟩ = some (.slice none 0 0) := (blk_cell BY.out 9).trans rfl
      have hx10 : w1.cell? ⟨g7, 10, none⟩ = some (.int .i64 0) := (blk_cell BX.out 10).trans rfl
      have hy10 : w1.cell? ⟨g8, 10, none⟩ = some (.int .i64 0) := (blk_cell BY.out 10).trans rfl
      go_wp2_with fail
      refine (decide_Best.calls 1 (some ⟨gi, 0, none⟩) 2 [(⟨1, 1 + a1 % 2, 5⟩ : S49), (⟨2, 1 + a2 % 2, 5⟩ : S49)] (some ⟨w1.heap.size, 0, none⟩) 2 [(⟨(⟨0, 0⟩ : S34), 2, (⟨0, [(⟨false, [7, 8]⟩ : S47)], 0, (-1), 100, [], []⟩ : S39), 0⟩ : S41), (⟨(⟨0, 0⟩ : S34), 1, (⟨0, [(⟨false, [7, 8]⟩ : S47)], 0, (-1), 100, [], []⟩ : S39), 0⟩ : S41)] 0 true (w1.alloc (.cells #[.int .u32 0, .int .i64 0, .int .i64 2, .int .i64 0, .slice (some ⟨gq + 1, 0, none⟩) 1 1, .int .u32 0, .int .i64 (-1), .int .i64 100, .slice none 0 0, .slice none 0 0, .int .i64 0, .int .u32 0, .int .i64 0, .int .i64 1, .int .i64 0, .slice (some ⟨gq + 1, 0, none⟩) 1 1, .int .u32 0, .int .i64 (-1), .int .i64 100, .slice none 0 0, .slice none 0 0, .int .i64 0] 41)) (Kd.C_alloc CI.out _) (Nat.le_refl _) (C_block2 (c1 := [.int .u32 0, .int .i64 0, .int .i64 2, .int .i64 0, .slice (some ⟨gq + 1, 0, none⟩) 1 1, .int .u32 0, .int .i64 (-1), .int .i64 100, .slice none 0 0, .slice none 0 0, .int .i64 0]) (c2 := [.int .u32 0, .int .i64 0, .int .i64 1, .int .i64 0, .slice (some ⟨gq + 1, 0, none⟩) 1 1, .int .u32 0, .int .i64 (-1), .int .i64 100, .slice none 0 0, .slice none 0 0, .int .i64 0]) (alloc_at w1 _) rfl rfl (k41_mk _ (⟨(⟨0, 0⟩ : S34), 2, (⟨0, [(⟨false, [7, 8]⟩ : S47)], 0, (-1), 100, [], []⟩ : S39), 0⟩ : S41) (Nat.le_refl _) (Kd.C_alloc CY.out _) (Nat.le_refl _) (Kd.C_nil _ _) (Nat.le_refl _) (Kd.C_nil _ _)) (k41_mk _ (⟨(⟨0, 0⟩ : S34), 1, (⟨0, [(⟨false, [7, 8]⟩ : S47)], 0, (-1), 100, [], []⟩ : S39), 0⟩ : S41) (Nat.le_refl _) (Kd.C_alloc CX.out _) (Nat.le_refl _) (Kd.C_nil _ _) (Nat.le_refl _) (Kd.C_nil _ _))) (Nat.le_refl _) HF2.out).mono ?_
      rintro e w2 ⟨rfl, hb1⟩
      have hbw : Below w1.heap.size w1 w2 := (below_alloc (Below.refl _ _) _).trans (hb1.mono (by simp))
      replace HB := Aside0.mk (HB.out.trans (hbw.mono HB.out.size))
      replace BX := Aside0.mk ((hbw.block g7 (blk_lt BX.out)).trans BX.out)
      replace BY := Aside0.mk ((hbw.block g8 (blk_lt BY.out)).trans BY.out)
      replace CI := Aside0.mk (Kd.C_below CI.out hbw)
      replace CX := Aside0.mk (Kd.C_below CX.out hbw)
      replace CY := Aside0.mk (Kd.C_below CY.out hbw)
      clear hb1 hbw hx0 hy0 hx1 hy1 hx2 hy2 hx3 hy3 hx4 hy4 hx5 hy5 hx6 hy6 hx7 hy7 hx8 hy8 hx9 hy9 hx10 hy10
      go_wp2_with fail
      refine (interregnumlaw15_answers.calls true _ HANS.out).mono ?_
      rintro e w3 ⟨rfl, hb1⟩
      replace HB := Aside0.mk (HB.out.trans (hb1.mono HB.out.size))
      clear hb1
      go_wp2
      go_ret
      exact ⟨by first | rfl | (simp; done), HB.out⟩
  · rw [hq] at HF1 HF2
    rw [hq]
    clear hq
    replace HF1 := Aside0.mk (show decide_Best.f 1 [(⟨1, 2, a1⟩ : S49), (⟨2, 2, a2⟩ : S49)] [(⟨(⟨0, 0⟩ : S34), 1, (⟨0, [(⟨false, [7, 8]⟩ : S47)], 0, (-1), 100, [], []⟩ : S39), 0⟩ : S41), (⟨(⟨0, 0⟩ : S34), 2, (⟨0, [(⟨false, [7, 8]⟩ : S47)], 0, (-1), 100, [], []⟩ : S39), 0⟩ : S41)] = some (if (decide (a1 ≤ a2)) = true then 0 else 1, true) from HF1.out)
    replace HF2 := Aside0.mk (show decide_Best.f 1 [(⟨1, 2, a1⟩ : S49), (⟨2, 2, a2⟩ : S49)] [(⟨(⟨0, 0⟩ : S34), 2, (⟨0, [(⟨false, [7, 8]⟩ : S47)], 0, (-1), 100, [], []⟩ : S39), 0⟩ : S41), (⟨(⟨0, 0⟩ : S34), 1, (⟨0, [(⟨false, [7, 8]⟩ : S47)], 0, (-1), 100, [], []⟩ : S39), 0⟩ : S41)] = some (if (decide (a1 ≤ a2)) = true then 1 else 0, true) from HF2.out)
    have hi2 : wc.cell? ⟨gi, 2, none⟩ = some (.int .u32 5) := (blk_cell BI.out 2).trans rfl
    have hfi2 := blk_frozen BI.out 2
    have hi5 : wc.cell? ⟨gi, 5, none⟩ = some (.int .u32 5) := (blk_cell BI.out 5).trans rfl
    have hfi5 := blk_frozen BI.out 5
    have hu1 : IntKind.u32.wrap a1 = a1 := by have := HA1.out; simp [IntKind.wrap, IntKind.bits, IntKind.signed]; omega
    have hu2 : IntKind.u32.wrap a2 = a2 := by have := HA2.out; simp [IntKind.wrap, IntKind.bits, IntKind.signed]; omega
    go_upto_region 29 with (fail)
    clear hw1 hw2 hu1 hu2
    have far : ∀ (k : Nat), k ≠ gi → k ≠ gi → ((wc.setCell ⟨gi, 2, none⟩ (.int .u32 (a1))).setCell ⟨gi, 5, none⟩ (.int .u32 (a2))).heap[k]? = wc.heap[k]? := fun k h1 h2 => (Below.heap_setCell _ ⟨gi, _, none⟩ _ k h2).trans (Below.heap_setCell _ ⟨gi, _, none⟩ _ k h1)
    replace BX := Aside0.mk ((far g7 (by have := GE.out; omega) (by have := GE.out; omega)).trans BX.out)
    replace BY := Aside0.mk ((far g8 (by have := GE.out; omega) (by have := GE.out; omega)).trans BY.out)
    replace BI := Aside0.mk (show ((wc.setCell ⟨gi, 2, none⟩ (.int .u32 (a1))).setCell ⟨gi, 5, none⟩ (.int .u32 (a2))).heap[gi]? = some (.cells #[.int .i64 1, .int .i64 2, .int .u32 (a1), .int .i64 2, .int .i64 2, .int .u32 (a2)] 49 (0, 0)) from blk_put (cs := #[.int .i64 1, .int .i64 2, .int .u32 (a1), .int .i64 2, .int .i64 2, .int .u32 5]) (blk_put BI.out 2 _ rfl) 5 _ rfl)
    replace BQ := Aside0.mk ((far gq (by have := GE.out; omega) (by have := GE.out; omega)).trans BQ.out)
    replace BP := Aside0.mk ((far (gq + 1) (by have := GE.out; omega) (by have := GE.out; omega)).trans BP.out)
    replace HB := Aside0.mk (Below.setCell (p := ⟨gi, 5, none⟩) (Below.setCell (p := ⟨gi, 2, none⟩) HB.out (by have := GE.out; have := HGQ.out; show _ ≤ gi; omega) (.int .u32 (a1))) (by have := GE.out; have := HGQ.out; show _ ≤ gi; omega) (.int .u32 (a2)))
    clear far n78 n87 hi2 hfi2 hi5 hfi5
    generalize ((wc.setCell ⟨gi, 2, none⟩ (.int .u32 (a1))).setCell ⟨gi, 5, none⟩ (.int .u32 (a2))) = wt at BX BY BI BQ BP HB ⊢
    have CQ := (C_block2 (c1 := [.int .i64 7]) (c2 := [.int .i64 8]) (x := (7 : Int)) (y := 8) (d := Kd.int .i64) BQ.out rfl rfl rfl rfl)
    have CX := Aside0.mk (C_block1 (c := [.bool false, .slice (some ⟨gq, 0, none⟩) 2 2]) (x := (⟨false, [7, 8]⟩ : S47)) (d := k47) BP.out rfl (k47_mk _ _ (Nat.le_refl _) CQ))
    have CY := Aside0.mk CX.out
    have CI := Aside0.mk (C_block2 (c1 := [.int .i64 1, .int .i64 2, .int .u32 (a1)]) (c2 := [.int .i64 2, .int .i64 2, .int .u32 (a2)]) (x := (⟨1, 2, a1⟩ : S49)) (y := (⟨2, 2, a2⟩ : S49)) (d := k49) BI.out rfl rfl (k49_mk _ _) (k49_mk _ _))
    clear CQ BQ BP BI
    by_cases hc : a1 ≤ a2
    · have hd : decide (a1 ≤ a2) = true := decide_eq_true hc
      rw [hd] at HF1 HF2
      rw [hd]
      clear hc hd
      replace HF1 := Aside0.mk (show decide_Best.f 1 [(⟨1, 2, a1⟩ : S49), (⟨2, 2, a2⟩ : S49)] [(⟨(⟨0, 0⟩ : S34), 1, (⟨0, [(⟨false, [7, 8]⟩ : S47)], 0, (-1), 100, [], []⟩ : S39), 0⟩ : S41), (⟨(⟨0, 0⟩ : S34), 2, (⟨0, [(⟨false, [7, 8]⟩ : S47)], 0, (-1), 100, [], []⟩ : S39), 0⟩ : S41)] = some (0, true) from HF1.out)
      replace HF2 := Aside0.mk (show decide_Best.f 1 [(⟨1, 2, a1⟩ : S49), (⟨2, 2, a2⟩ : S49)] [(⟨(⟨0, 0⟩ : S34), 2, (⟨0, [(⟨false, [7, 8]⟩ : S47)], 0, (-1), 100, [], []⟩ : S39), 0⟩ : S41), (⟨(⟨0, 0⟩ : S34), 1, (⟨0, [(⟨false, [7, 8]⟩ : S47)], 0, (-1), 100, [], []⟩ : S39), 0⟩ : S41)] = some (1, true) from HF2.out)
      have hx0 : wt.cell? ⟨g7, 0, none⟩ = some (.int .u32 0) := (blk_cell BX.out 0).trans rfl
      have hy0 : wt.cell? ⟨g8, 0, none⟩ = some (.int .u32 0) := (blk_cell BY.out 0).trans rfl
      have hx1 : wt.cell? ⟨g7, 1, none⟩ = some (.int .i64 0) := (blk_cell BX.out 1).trans rfl
      have hy1 : wt.cell? ⟨g8, 1, none⟩ = some (.int .i64 0) := (blk_cell BY.out 1).trans rfl
      have hx2 : wt.cell? ⟨g7, 2, none⟩ = some (.int .i64 1) := (blk_cell BX.out 2).trans rfl
      have hy2 : wt.cell? ⟨g8, 2, none⟩ = some (.int .i64 2) := (blk_cell BY.out 2).trans rfl
      have hx3 : wt.cell? ⟨g7, 3, none⟩ = some (.int .i64 0) := (blk_cell BX.out 3).trans rfl
      have hy3 : wt.cell? ⟨g8, 3, none⟩ = some (.int .i64 0) := (blk_cell BY.out 3).trans rfl
      have hx4 : wt.cell? ⟨g7, 4, none⟩ = some (.slice (some ⟨gq + 1, 0, none⟩) 1 1) := (blk_cell BX.out 4).trans rfl
      have hy4 : wt.cell? ⟨g8, 4, none⟩ = some (.slice (some ⟨gq + 1, 0, none⟩) 1 1) := (blk_cell BY.out 4).trans rfl
      have hx5 : wt.cell? ⟨g7, 5, none⟩ = some (.int .u32 0) := (blk_cell BX.out 5).trans rfl
      have hy5 : wt.cell? ⟨g8, 5, none⟩ = some (.int .u32 0) := (blk_cell BY.out 5).trans rfl
      have hx6 : wt.cell? ⟨g7, 6, none⟩ = some (.int .i64 (-1)) := (blk_cell BX.out 6).trans rfl
      have hy6 : wt.cell? ⟨g8, 6, none⟩ = some (.int .i64 (-1)) := (blk_cell BY.out 6).trans rfl
      have hx7 : wt.cell? ⟨g7, 7, none⟩ = some (.int .i64 100) := (blk_cell BX.out 7).trans rfl
      have hy7 : wt.cell? ⟨g8, 7, none⟩ = some (.int .i64 100) := (blk_cell BY.out 7).trans rfl
      have hx8 : wt.cell? ⟨g7, 8, none⟩ = some (.slice none 0 0) := (blk_cell BX.out 8).trans rfl
      have hy8 : wt.cell? ⟨g8, 8, none⟩ = some (.slice none 0 0) := (blk_cell BY.out 8).trans rfl
      have hx9 : wt.cell? ⟨g7, 9, none⟩ = some (.slice none 0 0) := (blk_cell BX.out 9).trans rfl
      have hy9 : wt.cell? ⟨g8, 9, none⟩ = some (.slice none 0 0) := (blk_cell BY.out 9).trans rfl
      have hx10 : wt.cell? ⟨g7, 10, none⟩ = some (.int .i64 0) := (blk_cell BX.out 10).trans rfl
      have hy10 : wt.cell? ⟨g8, 10, none⟩ = some (.int .i64 0) := (blk_cell BY.out 10).trans rfl
      go_wp2_with fail
      refine (decide_Best.calls 1 (some ⟨gi, 0, none⟩) 2 [(⟨1, 2, a1⟩ : S49), (⟨2, 2, a2⟩ : S49)] (some ⟨wt.heap.size, 0, none⟩) 2 [(⟨(⟨0, 0⟩ : S34), 1, (⟨0, [(⟨false, [7, 8]⟩ : S47)], 0, (-1), 100, [], []⟩ : S39), 0⟩ : S41), (⟨(⟨0, 0⟩ : S34), 2, (⟨0, [(⟨false, [7, 8]⟩ : S47)], 0, (-1), 100, [], []⟩ : S39), 0⟩ : S41)] 0 true (wt.alloc (.cells #[.int .u32 0, .int .i64 0, .int .i64 1, .int .i64 0, .slice (some ⟨gq + 1, 0, none⟩) 1 1, .int .u32 0, .int .i64 (-1), .int .i64 100, .slice none 0 0, .slice none 0 0, .int .i64 0, .int .u32 0, .int .i64 0, .int .i64 2, .int .i64 0, .slice (some ⟨gq + 1, 0, none⟩) 1 1, .int .u32 0, .int .i64 (-1), .int .i64 100, .slice none 0 0, .slice none 0 0, .int .i64 0] 41)) (Kd.C_alloc CI.out _) (Nat.le_refl _) (C_block2 (c1 := [.int .u32 0, .int .i64 0, .int .i64 1, .int .i64 0, .slice (some ⟨gq + 1, 0, none⟩) 1 1, .int .u32 0, .int .i64 (-1), .int .i64 100, .slice none 0 0, .slice none 0 0, .int .i64 0]) (c2 := [.int .u32 0, .int .i64 0, .int .i64 2, .int .i64 0, .slice (some ⟨gq + 1, 0, none⟩) 1 1, .int .u32 0, .int .i64 (-1), .int .i64 100, .slice none 0 0, .slice none 0 0, .int .i64 0]) (alloc_at wt _) rfl rfl (k41_mk _ (⟨(⟨0, 0⟩ : S34), 1, (⟨0, [(⟨false, [7, 8]⟩ : S47)], 0, (-1), 100, [], []⟩ : S39), 0⟩ : S41) (Nat.le_refl _) (Kd.C_alloc CX.out _) (Nat.le_refl _) (Kd.C_nil _ _) (Nat.le_refl _) (Kd.C_nil _ _)) (k41_mk _ (⟨(⟨0, 0⟩ : S34), 2, (⟨0, [(⟨false, [7, 8]⟩ : S47)], 0, (-1), 100, [], []⟩ : S39), 0⟩ : S41) (Nat.le_refl _) (Kd.C_alloc CY.out _) (Nat.le_refl _) (Kd.C_nil _ _) (Nat.le_refl _) (Kd.C_nil _ _))) (Nat.le_refl _) HF1.out).mono ?_
      rintro e w1 ⟨rfl, hb1⟩
      have hbw : Below wt.heap.size wt w1 := (below_alloc (Below.refl _ _) _).trans (hb1.mono (by simp))
      replace HB := Aside0.mk (HB.out.trans (hbw.mono HB.out.size))
      replace BX := Aside0.mk ((hbw.block g7 (blk_lt BX.out)).trans BX.out)
      replace BY := Aside0.mk ((hbw.block g8 (blk_lt BY.out)).trans BY.out)
      replace CI := Aside0.mk (Kd.C_below CI.out hbw)
      replace CX := Aside0.mk (Kd.C_below CX.out hbw)
      replace CY := Aside0.mk (Kd.C_below CY.out hbw)
      clear hb1 hbw hx0 hy0 hx1 hy1 hx2 hy2 hx3 hy3 hx4 hy4 hx5 hy5 hx6 hy6 hx7 hy7 hx8 hy8 hx9 hy9 hx10 hy10
      have hx0 : w1.cell? ⟨g7, 0, none⟩ = some (.int .u32 0) := (blk_cell BX.out 0).trans rfl
      have hy0 : w1.cell? ⟨g8, 0, none⟩ = some (.int .u32 0) := (blk_cell BY.out 0).trans rfl
      have hx1 : w1.cell? ⟨g7, 1, none⟩ = some (.int .i64 0) := (blk_cell BX.out 1).trans rfl
      have hy1 : w1.cell? ⟨g8, 1, none⟩ = some (.int .i64 0) := (blk_cell BY.out 1).trans rfl
      have hx2 : w1.cell? ⟨g7, 2, none⟩ = some (.int .i64 1) := (blk_cell BX.out 2).trans rfl
      have hy2 : w1.cell? ⟨g8, 2, none⟩ = some (.int .i64 2) := (blk_cell BY.out 2).trans rfl
      have hx3 : w1.cell? ⟨g7, 3, none⟩ = some (.int .i64 0) := (blk_cell BX.out 3).trans rfl
      have hy3 : w1.cell? ⟨g8, 3, none⟩ = some (.int .i64 0) := (blk_cell BY.out 3).trans rfl
      have hx4 : w1.cell? ⟨g7, 4, none⟩ = some (.slice (some ⟨gq + 1, 0, none⟩) 1 1) := (blk_cell BX.out 4).trans rfl
      have hy4 : w1.cell? ⟨g8, 4, none⟩ = some (.slice (some ⟨gq + 1, 0, none⟩) 1 1) := (blk_cell BY.out 4).trans rfl
      have hx5 : w1.cell? ⟨g7, 5, none⟩ = some (.int .u32 0) := (blk_cell BX.out 5).trans rfl
      have hy5 : w1.cell? ⟨g8, 5, none⟩ = some (.int .u32 0) := (blk_cell BY.out 5).trans rfl
      have hx6 : w1.cell? ⟨g7, 6, none⟩ = some (.int .i64 (-1)) := (blk_cell BX.out 6).trans rfl
      have hy6 : w1.cell? ⟨g8, 6, none⟩ = some (.int .i64 (-1)) := (blk_cell BY.out 6).trans rfl
      have hx7 : w1.cell? ⟨g7, 7, none⟩ = some (.int .i64 100) := (blk_cell BX.out 7).trans rfl
      have hy7 : w1.cell? ⟨g8, 7, none⟩ = some (.int .i64 100) := (blk_cell BY.out 7).trans rfl
      have hx8 : w1.cell? ⟨g7, 8, none⟩ = some (.slice none 0 0) := (blk_cell BX.out 8).trans rfl
      have hy8 : w1.cell? ⟨g8, 8, none⟩ = some (.slice none 0 0) := (blk_cell BY.out 8).trans rfl
      have hx9 : w1.cell? ⟨g7, 9, none⟩ = some (.slice none 0 0) := (blk_cell BX.out 9).trans rfl
      have hy9 : w1.cell? ⟨g8, 9, none⟩ = some (.slice none 0 0) := (blk_cell BY.out 9).trans rfl
      have hx10 : w1.cell? ⟨g7, 10, none⟩ = some (.int .i64 0) := (blk_cell BX.out 10).trans rfl
      have hy10 : w1.cell? ⟨g8, 10, none⟩ = some (.int .i64 0) := (blk_cell BY.out 10).trans rfl
      go_wp2_with fail
      refine (decide_Best.calls 1 (some ⟨gi, 0, none⟩) 2 [(⟨1, 2, a1⟩ : S49), (⟨2, 2, a2⟩ : S49)] (some ⟨w1.heap.size, 0, none⟩) 2 [(⟨(⟨0, 0⟩ : S34), 2, (⟨0, [(⟨false, [7, 8]⟩ : S47)], 0, (-1), 100, [], []⟩ : S39), 0⟩ : S41), (⟨(⟨0, 0⟩ : S34), 1, (⟨0, [(⟨false, [7, 8]⟩ : S47)], 0, (-1), 100, [], []⟩ : S39), 0⟩ : S41)] 1 true (w1.alloc (.cells #[.int .u32 0, .int .i64 0, .int .i64 2, .int .i64 0, .slice (some ⟨gq + 1, 0, none⟩) 1 1, .int .u32 0, .int .i64 (-1), .int .i64 100, .slice none 0 0, .slice none 0 0, .int .i64 0, .int .u32 0, .int .i64 0, .int .i64 1, .int .i64 0, .slice (some ⟨gq + 1, 0, none⟩) 1 1, .int .u32 0, .int .i64 (-1), .int .i64 100, .slice none 0 0, .slice none 0 0, .int .i64 0] 41)) (Kd.C_alloc CI.out _) (Nat.le_refl _) (C_block2 (c1 := [.int .u32 0, .int .i64 0, .int .i64 2, .int .i64 0, .slice (some ⟨gq + 1, 0, none⟩) 1 1, .int .u32 0, .int .i64 (-1), .int .i64 100, .slice none 0 0, .slice none 0 0, .int .i64 0]) (c2 := [.int .u32 0, .int .i64 0, .int .i64 1, .int .i64 0, .slice (some ⟨gq + 1, 0, none⟩) 1 1, .int .u32 0, .int .i64 (-1), .int .i64 100, .slice none 0 0, .slice none 0 0, .int .i64 0]) (alloc_at w1 _) rfl rfl (k41_mk _ (⟨(⟨0, 0⟩ : S34), 2, (⟨0, [(⟨false, [7, 8]⟩ : S47)], 0, (-1), 100, [], []⟩ : S39), 0⟩ : S41) (Nat.le_refl _) (Kd.C_alloc CY.out _) (Nat.le_refl _) (Kd.C_nil _ _) (Nat.le_refl _) (Kd.C_nil _ _)) (k41_mk _ (⟨(⟨0, 0⟩ : S34), 1, (⟨0, [(⟨false, [7, 8]⟩ : S47)], 0, (-1), 100, [], []⟩ : S39), 0⟩ : S41) (Nat.le_refl _) (Kd.C_alloc CX.out _) (Nat.le_refl _) (Kd.C_nil _ _) (Nat.le_refl _) (Kd.C_nil _ _))) (Nat.le_refl _) HF2.out).mono ?_
      rintro e w2 ⟨rfl, hb1⟩
      have hbw : Below w1.heap.size w1 w2 := (below_alloc (Below.refl _ _) _).trans (hb1.mono (by simp))
      replace HB := Aside0.mk (HB.out.trans (hbw.mono HB.out.size))
      replace BX := Aside0.mk ((hbw.block g7 (blk_lt BX.out)).trans BX.out)
      replace BY := Aside0.mk ((hbw.block g8 (blk_lt BY.out)).trans BY.out)
      replace CI := Aside0.mk (Kd.C_below CI.out hbw)
      replace CX := Aside0.mk (Kd.C_below CX.out hbw)
      replace CY := Aside0.mk (Kd.C_below CY.out hbw)
      clear hb1 hbw hx0 hy0 hx1 hy1 hx2 hy2 hx3 hy3 hx4 hy4 hx5 hy5 hx6 hy6 hx7 hy7 hx8 hy8 hx9 hy9 hx10 hy10
      go_wp2_with fail
      refine (interregnumlaw15_answers.calls true _ HANS.out).mono ?_
      rintro e w3 ⟨rfl, hb1⟩
      replace HB := Aside0.mk (HB.out.trans (hb1.mono HB.out.size))
      clear hb1
      go_wp2
      go_ret
      exact ⟨by first | rfl | (simp; done), HB.out⟩
    · have hd : decide (a1 ≤ a2) = false := decide_eq_false hc
      rw [hd] at HF1 HF2
      rw [hd]
      clear hc hd
      replace HF1 := Aside0.mk (show decide_Best.f 1 [(⟨1, 2, a1⟩ : S49), (⟨2, 2, a2⟩ : S49)] [(⟨(⟨0, 0⟩ : S34), 1, (⟨0, [(⟨false, [7, 8]⟩ : S47)], 0, (-1), 100, [], []⟩ : S39), 0⟩ : S41), (⟨(⟨0, 0⟩ : S34), 2, (⟨0, [(⟨false, [7, 8]⟩ : S47)], 0, (-1), 100, [], []⟩ : S39), 0⟩ : S41)] = some (1, true) from HF1.out)
      replace HF2 := Aside0.mk (show decide_Best.f 1 [(⟨1, 2, a1⟩ : S49), (⟨2, 2, a2⟩ : S49)] [(⟨(⟨0, 0⟩ : S34), 2, (⟨0, [(⟨false, [7, 8]⟩ : S47)], 0, (-1), 100, [], []⟩ : S39), 0⟩ : S41), (⟨(⟨0, 0⟩ : S34), 1, (⟨0, [(⟨false, [7, 8]⟩ : S47)], 0, (-1), 100, [], []⟩ : S39), 0⟩ : S41)] = some (0, true) from HF2.out)
      have hx0 : wt.cell? ⟨g7, 0, none⟩ = some (.int .u32 0) := (blk_cell BX.out 0).trans rfl
      have hy0 : wt.cell? ⟨g8, 0, none⟩ = some (.int .u32 0) := (blk_cell BY.out 0).trans rfl
      have hx1 : wt.cell? ⟨g7, 1, none⟩ = some (.int .i64 0) := (blk_cell BX.out 1).trans rfl
      have hy1 : wt.cell? ⟨g8, 1, none⟩ = some (.int .i64 0) := (blk_cell BY.out 1).trans rfl
      have hx2 : wt.cell? ⟨g7, 2, none⟩ = some (.int .i64 1) := (blk_cell BX.out 2).trans rfl
      have hy2 : wt.cell? ⟨g8, 2, none⟩ = some (.int .i64 2) := (blk_cell BY.out 2).trans rfl
      have hx3 : wt.cell? ⟨g7, 3, none⟩ = some (.int .i64 0) := (blk_cell BX.out 3).trans rfl
      have hy3 : wt.cell? ⟨g8, 3, none⟩ = some (.int .i64 0) := (blk_cell BY.out 3).trans rfl
      have hx4 : wt.cell? ⟨g7, 4, none⟩ = some (.slice (some ⟨gq + 1, 0, none⟩) 1 1) := (blk_cell BX.out 4).trans rfl
      have hy4 : wt.cell? ⟨g8, 4, none⟩ = some (.slice (some ⟨gq + 1, 0, none⟩) 1 1) := (blk_cell BY.out 4).trans rfl
      have hx5 : wt.cell? ⟨g7, 5, none⟩ = some (.int .u32 0) := (blk_cell BX.out 5).trans rfl
      have hy5 : wt.cell? ⟨g8, 5, none⟩ = some (.int .u32 0) := (blk_cell BY.out 5).trans rfl
      have hx6 : wt.cell? ⟨g7, 6, none⟩ = some (.int .i64 (-1)) := (blk_cell BX.out 6).trans rfl
      have hy6 : wt.cell? ⟨g8, 6, none⟩ = some (.int .i64 (-1)) := (blk_cell BY.out 6).trans rfl
      have hx7 : wt.cell? ⟨g7, 7, none⟩ = some (.int .i64 100) := (blk_cell BX.out 7).trans rfl
      have hy7 : wt.cell? ⟨g8, 7, none⟩ = some (.int .i64 100) := (blk_cell BY.out 7).trans rfl
      have hx8 : wt.cell? ⟨g7, 8, none⟩ = some (.slice none 0 0) := (blk_cell BX.out 8).trans rfl
      have hy8 : wt.cell? ⟨g8, 8, none⟩ = some (.slice none 0 0) := (blk_cell BY.out 8).trans rfl
      have hx9 : wt.cell? ⟨g7, 9, none⟩ = some (.slice none 0 0) := (blk_cell BX.out 9).trans rfl
      have hy9 : wt.cell? ⟨g8, 9, none⟩ = some (.slice none 0 0) := (blk_cell BY.out 9).trans rfl
      have hx10 : wt.cell? ⟨g7, 10, none⟩ = some (.int .i64 0) := (blk_cell BX.out 10).trans rfl
      have hy10 : wt.cell? ⟨g8, 10, none⟩ = some (.int .i64 0) := (blk_cell BY.out 10).trans rfl
      go_wp2_with fail
      refine (decide_Best.calls 1 (some ⟨gi, 0, none⟩) 2 [(⟨1, 2, a1⟩ : S49), (⟨2, 2, a2⟩ : S49)] (some ⟨wt.heap.size, 0, none⟩) 2 [(⟨(⟨0, 0⟩ : S34), 1, (⟨0, [(⟨false, [7, 8]⟩ : S47)], 0, (-1), 100, [], []⟩ : S39), 0⟩ : S41), (⟨(⟨0, 0⟩ : S34), 2, (⟨0, [(⟨false, [7, 8]⟩ : S47)], 0, (-1), 100, [], []⟩ : S39), 0⟩ : S41)] 1 true (wt.alloc (.cells #[.int .u32 0, .int .i64 0, .int .i64 1, .int .i64 0, .slice (some ⟨gq + 1, 0, none⟩) 1 1, .int .u32 0, .int .i64 (-1), .int .i64 100, .slice none 0 0, .slice none 0 0, .int .i64 0, .int .u32 0, .int .i64 0, .int .i64 2, .int .i64 0, .slice (some ⟨gq + 1, 0, none⟩) 1 1, .int .u32 0, .int .i64 (-1), .int .i64 100, .slice none 0 0, .slice none 0 0, .int .i64 0] 41)) (Kd.C_alloc CI.out _) (Nat.le_refl _) (C_block2 (c1 := [.int .u32 0, .int .i64 0, .int .i64 1, .int .i64 0, .slice (some ⟨gq + 1, 0, none⟩) 1 1, .int .u32 0, .int .i64 (-1), .int .i64 100, .slice none 0 0, .slice none 0 0, .int .i64 0]) (c2 := [.int .u32 0, .int .i64 0, .int .i64 2, .int .i64 0, .slice (some ⟨gq + 1, 0, none⟩) 1 1, .int .u32 0, .int .i64 (-1), .int .i64 100, .slice none 0 0, .slice none 0 0, .int .i64 0]) (alloc_at wt _) rfl rfl (k41_mk _ (⟨(⟨0, 0⟩ : S34), 1, (⟨0, [(⟨false, [7, 8]⟩ : S47)], 0, (-1), 100, [], []⟩ : S39), 0⟩ : S41) (Nat.le_refl _) (Kd.C_alloc CX.out _) (Nat.le_refl _) (Kd.C_nil _ _) (Nat.le_refl _) (Kd.C_nil _ _)) (k41_mk _ (⟨(⟨0, 0⟩ : S34), 2, (⟨0, [(⟨false, [7, 8]⟩ : S47)], 0, (-1), 100, [], []⟩ : S39), 0⟩ : S41) (Nat.le_refl _) (Kd.C_alloc CY.out _) (Nat.le_refl _) (Kd.C_nil _ _) (Nat.le_refl _) (Kd.C_nil _ _))) (Nat.le_refl _) HF1.out).mono ?_
      rintro e w1 ⟨rfl, hb1⟩
      have hbw : Below wt.heap.size wt w1 := (below_alloc (Below.refl _ _) _).trans (hb1.mono (by simp))
      replace HB := Aside0.mk (HB.out.trans (hbw.mono HB.out.size))
      replace BX := Aside0.mk ((hbw.block g7 (blk_lt BX.out)).trans BX.out)
      replace BY := Aside0.mk ((hbw.block g8 (blk_lt BY.out)).trans BY.out)
      replace CI := Aside0.mk (Kd.C_below CI.out hbw)
      replace CX := Aside0.mk (Kd.C_below CX.out hbw)
      replace CY := Aside0.mk (Kd.C_below CY.out hbw)
      clear hb1 hbw hx0 hy0 hx1 hy1 hx2 hy2 hx3 hy3 hx4 hy4 hx5 hy5 hx6 hy6 hx7 hy7 hx8 hy8 hx9 hy9 hx10 hy10
      have hx0 : w1.cell? ⟨g7, 0, none⟩ = some (.int .u32 0) := (blk_cell BX.out 0).trans rfl
      have hy0 : w1.cell? ⟨g8, 0, none⟩ = some (.int .u32 0) := (blk_cell BY.out 0).trans rfl
      have hx1 : w1.cell? ⟨g7, 1, none⟩ = some (.int .i64 0) := (blk_cell BX.out 1).trans rfl
      have hy1 : w1.cell? ⟨g8, 1, none⟩ = some (.int .i64 0) := (blk_cell BY.out 1).trans rfl
      have hx2 : w1.cell? ⟨g7, 2, none⟩ = some (.int .i64 1) := (blk_cell BX.out 2).trans rfl
      have hy2 : w1.cell? ⟨g8, 2, none⟩ = some (.int .i64 2) := (blk_cell BY.out 2).trans rfl
      have hx3 : w1.cell? ⟨g7, 3, none⟩ = some (.int .i64 0) := (blk_cell BX.out 3).trans rfl
      have hy3 : w1.cell? ⟨g8, 3, none⟩ = some (.int .i64 0) := (blk_cell BY.out 3).trans rfl
      have hx4 : w1.cell? ⟨g7, 4, none⟩ = some (.slice (some ⟨gq + 1, 0, none⟩) 1 1) := (blk_cell BX.out 4).trans rfl
      have hy4 : w1.cell? ⟨g8, 4, none⟩ = some (.slice (some ⟨gq + 1, 0, none⟩) 1 1) := (blk_cell BY.out 4).trans rfl
      have hx5 : w1.cell? ⟨g7, 5, none⟩ = some (.int .u32 0) := (blk_cell BX.out 5).trans rfl
      have hy5 : w1.cell? ⟨g8, 5, none⟩ = some (.int .u32 0) := (blk_cell BY.out 5).trans rfl
      have hx6 : w1.cell? ⟨g7, 6, none⟩ = some (.int .i64 (-1)) := (blk_cell BX.out 6).trans rfl
      have hy6 : w1.cell? ⟨g8, 6, none⟩ = some (.int .i64 (-1)) := (blk_cell BY.out 6).trans rfl
      have hx7 : w1.cell? ⟨g7, 7, none⟩ = some (.int .i64 100) := (blk_cell BX.out 7).trans rfl
      have hy7 : w1.cell? ⟨g8, 7, none⟩ = some (.int .i64 100) := (blk_cell BY.out 7).trans rfl
      have hx8 : w1.cell? ⟨g7, 8, none⟩ = some (.slice none 0 0) := (blk_cell BX.out 8).trans rfl
      have hy8 : w1.cell? ⟨g8, 8, none⟩ = some (.slice none 0 0) := (blk_cell BY.out 8).trans rfl
      have hx9 : w1.cell? ⟨g7, 9, none⟩ = some (.slice none 0 0) := (blk_cell BX.out 9).trans rfl
      have hy9 : w1.cell? ⟨g8, 9, none⟩ = some (.slice none 0 0) := (blk_cell BY.out 9).trans rfl
      have hx10 : w1.cell? ⟨g7, 10, none⟩ = some (.int .i64 0) := (blk_cell BX.out 10).trans rfl
      have hy10 : w1.cell? ⟨g8, 10, none⟩ = some (.int .i64 0) := (blk_cell BY.out 10).trans rfl
      go_wp2_with fail
      refine (decide_Best.calls 1 (some ⟨gi, 0, none⟩) 2 [(⟨1, 2, a1⟩ : S49), (⟨2, 2, a2⟩ : S49)] (some ⟨w1.heap.size, 0, none⟩) 2 [(⟨(⟨0, 0⟩ : S34), 2, (⟨0, [(⟨false, [7, 8]⟩ : S47)], 0, (-1), 100, [], []⟩ : S39), 0⟩ : S41), (⟨(⟨0, 0⟩ : S34), 1, (⟨0, [(⟨false, [7, 8]⟩ : S47)], 0, (-1), 100, [], []⟩ : S39), 0⟩ : S41)] 0 true (w1.alloc (.cells #[.int .u32 0, .int .i64 0, .int .i64 2, .int .i64 0, .slice (some ⟨gq + 1, 0, none⟩) 1 1, .int .u32 0, .int .i64 (-1), .int .i64 100, .slice none 0 0, .slice none 0 0, .int .i64 0, .int .u32 0, .int .i64 0, .int .i64 1, .int .i64 0, .slice (some ⟨gq + 1, 0, none⟩) 1 1, .int .u32 0, .int .i64 (-1), .int .i64 100, .slice none 0 0, .slice none 0 0, .int .i64 0] 41)) (Kd.C_alloc CI.out _) (Nat.le_refl _) (C_block2 (c1 := [.int .u32 0, .int .i64 0, .int .i64 2, .int .i64 0, .slice (some ⟨gq + 1, 0, none⟩) 1 1, .int .u32 0, .int .i64 (-1), .int .i64 100, .slice none 0 0, .slice none 0 0, .int .i64 0]) (c2 := [.int .u32 0, .int .i64 0, .int .i64 1, .int .i64 0, .slice (some ⟨gq + 1, 0, none⟩) 1 1, .int .u32 0, .int .i64 (-1), .int .i64 100, .slice none 0 0, .slice none 0 0, .int .i64 0]) (alloc_at w1 _) rfl rfl (k41_mk _ (⟨(⟨0, 0⟩ : S34), 2, (⟨0, [(⟨false, [7, 8]⟩ : S47)], 0, (-1), 100, [], []⟩ : S39), 0⟩ : S41) (Nat.le_refl _) (Kd.C_alloc CY.out _) (Nat.le_refl _) (Kd.C_nil _ _) (Nat.le_refl _) (Kd.C_nil _ _)) (k41_mk _ (⟨(⟨0, 0⟩ : S34), 1, (⟨0, [(⟨false, [7, 8]⟩ : S47)], 0, (-1), 100, [], []⟩ : S39), 0⟩ : S41) (Nat.le_refl _) (Kd.C_alloc CX.out _) (Nat.le_refl _) (Kd.C_nil _ _) (Nat.le_refl _) (Kd.C_nil _ _))) (Nat.le_refl _) HF2.out).mono ?_
      rintro e w2 ⟨rfl, hb1⟩
      have hbw : Below w1.heap.size w1 w2 := (below_alloc (Below.refl _ _) _).trans (hb1.mono (by simp))
      replace HB := Aside0.mk (HB.out.trans (hbw.mono HB.out.size))
      replace BX := Aside0.mk ((hbw.block g7 (blk_lt BX.out)).trans BX.out)
      replace BY := Aside0.mk ((hbw.block g8 (blk_lt BY.out)).trans BY.out)
      replace CI := Aside0.mk (Kd.C_below CI.out hbw)
      replace CX := Aside0.mk (Kd.C_below CX.out hbw)
      replace CY := Aside0.mk (Kd.C_below CY.out hbw)
      clear hb1 hbw hx0 hy0 hx1 hy1 hx2 hy2 hx3 hy3 hx4 hy4 hx5 hy5 hx6 hy6 hx7 hy7 hx8 hy8 hx9 hy9 hx10 hy10
      go_wp2_with fail
      refine (interregnumlaw15_answers.calls true _ HANS.out).mono ?_
      rintro e w3 ⟨rfl, hb1⟩
      replace HB := Aside0.mk (HB.out.trans (hb1.mono HB.out.size))
      clear hb1
      go_wp2
      go_ret
      exact ⟨by first | rfl | (simp; done), HB.out⟩
  · rw [hq] at HF1 HF2
    rw [hq]
    clear hq
    replace HF1 := Aside0.mk (show decide_Best.f 1 [(⟨1, 2, 5⟩ : S49), (⟨2, 2, 5⟩ : S49)] [(⟨(⟨0, 0⟩ : S34), 1, (⟨0, [(⟨false, [7, 8]⟩ : S47)], 0, (-1), 100, [], []⟩ : S39), a1 % 3⟩ : S41), (⟨(⟨0, 0⟩ : S34), 2, (⟨0, [(⟨false, [7, 8]⟩ : S47)], 0, (-1), 100, [], []⟩ : S39), a2 % 3⟩ : S41)] = some (if ((!(decide (a1 % 3 = 2)) || decide (a2 % 3 = 2))) = true then 0 else 1, true) from HF1.out)
    replace HF2 := Aside0.mk (show decide_Best.f 1 [(⟨1, 2, 5⟩ : S49), (⟨2, 2, 5⟩ : S49)] [(⟨(⟨0, 0⟩ : S34), 2, (⟨0, [(⟨false, [7, 8]⟩ : S47)], 0, (-1), 100, [], []⟩ : S39), a2 % 3⟩ : S41), (⟨(⟨0, 0⟩ : S34), 1, (⟨0, [(⟨false, [7, 8]⟩ : S47)], 0, (-1), 100, [], []⟩ : S39), a1 % 3⟩ : S41)] = some (if ((!(decide (a1 % 3 = 2)) || decide (a2 % 3 = 2))) = true then 1 else 0, true) from HF2.out)
    have hx10 : wc.cell? ⟨g7, 10, none⟩ = some (.int .i64 0) := (blk_cell BX.out 10).trans rfl
    have hfx10 := blk_frozen BX.out 10
    have hy10 : wc.cell? ⟨g8, 10, none⟩ = some (.int .i64 0) := (blk_cell BY.out 10).trans rfl
    have hfy10 := blk_frozen BY.out 10
    have hm1 : a1.tmod 3 = a1 % 3 := Int.tmod_eq_emod_of_nonneg HA1.out.1
    have hv1 : wrap64 (a1 % 3) = a1 % 3 := by have := HA1.out; unfold wrap64; omega
    have hm2 : a2.tmod 3 = a2 % 3 := Int.tmod_eq_emod_of_nonneg HA2.out.1
    have hv2 : wrap64 (a2 % 3) = a2 % 3 := by have := HA2.out; unfold wrap64; omega
    by_cases h6a : a1 % 3 = 2 <;> by_cases h6b : a2 % 3 = 2
    · have Z_ := HB
      clear Z_
      have ea0 : decide (a1 % 3 = 2) = true := decide_eq_true h6a
      have ea1 : (a1 % 3 == 2) = true := beq_iff_eq.2 h6a
      have ea2 : (a1 % 3 != 2) = false := by simp [h6a]
      have eb0 : decide (a2 % 3 = 2) = true := decide_eq_true h6b
      have eb1 : (a2 % 3 == 2) = true := beq_iff_eq.2 h6b
      have eb2 : (a2 % 3 != 2) = false := by simp [h6b]
      rw [ea0, eb0] at HF1 HF2
      clear h6a h6b
      replace HF1 := Aside0.mk (show decide_Best.f 1 [(⟨1, 2, 5⟩ : S49), (⟨2, 2, 5⟩ : S49)] [(⟨(⟨0, 0⟩ : S34), 1, (⟨0, [(⟨false, [7, 8]⟩ : S47)], 0, (-1), 100, [], []⟩ : S39), a1 % 3⟩ : S41), (⟨(⟨0, 0⟩ : S34), 2, (⟨0, [(⟨false, [7, 8]⟩ : S47)], 0, (-1), 100, [], []⟩ : S39), a2 % 3⟩ : S41)] = some (0, true) from HF1.out)
      replace HF2 := Aside0.mk (show decide_Best.f 1 [(⟨1, 2, 5⟩ : S49), (⟨2, 2, 5⟩ : S49)] [(⟨(⟨0, 0⟩ : S34), 2, (⟨0, [(⟨false, [7, 8]⟩ : S47)], 0, (-1), 100, [], []⟩ : S39), a2 % 3⟩ : S41), (⟨(⟨0, 0⟩ : S34), 1, (⟨0, [(⟨false, [7, 8]⟩ : S47)], 0, (-1), 100, [], []⟩ : S39), a1 % 3⟩ : S41)] = some (1, true) from HF2.out)
      go_upto_region 29 with (fail)
      clear ea0 ea1 ea2 eb0 eb1 eb2
      clear hw1 hw2 hm1 hv1 hm2 hv2
      have far : ∀ (k : Nat), k ≠ g7 → k ≠ g8 → ((wc.setCell ⟨g7, 10, none⟩ (.int .i64 (a1 % 3))).setCell ⟨g8, 10, none⟩ (.int .i64 (a2 % 3))).heap[k]? = wc.heap[k]? := fun k h1 h2 => (Below.heap_setCell _ ⟨g8, _, none⟩ _ k h2).trans (Below.heap_setCell _ ⟨g7, _, none⟩ _ k h1)
      replace BX := Aside0.mk (show ((wc.setCell ⟨g7, 10, none⟩ (.int .i64 (a1 % 3))).setCell ⟨g8, 10, none⟩ (.int .i64 (a2 % 3))).heap[g7]? = some (.cells #[.int .u32 0, .int .i64 0, .int .i64 1, .int .i64 0, .slice (some ⟨gq + 1, 0, none⟩) 1 1, .int .u32 0, .int .i64 (-1), .int .i64 100, .slice none 0 0, .slice none 0 0, .int .i64 (a1 % 3)] 41 (0, 0)) from (Below.heap_setCell _ ⟨g8, _, none⟩ _ g7 n78).trans (blk_put BX.out 10 _ rfl))
      replace BY := Aside0.mk (show ((wc.setCell ⟨g7, 10, none⟩ (.int .i64 (a1 % 3))).setCell ⟨g8, 10, none⟩ (.int .i64 (a2 % 3))).heap[g8]? = some (.cells #[.int .u32 0, .int .i64 0, .int .i64 2, .int .i64 0, .slice (some ⟨gq + 1, 0, none⟩) 1 1, .int .u32 0, .int .i64 (-1), .int .i64 100, .slice none 0 0, .slice none 0 0, .int .i64 (a2 % 3)] 41 (0, 0)) from blk_put ((Below.heap_setCell _ ⟨g7, _, none⟩ _ g8 n87).trans BY.out) 10 _ rfl)
      replace BI := Aside0.mk ((far gi (by have := GE.out; omega) (by have := GE.out; omega)).trans BI.out)
      replace BQ := Aside0.mk ((far gq (by have := GE.out; omega) (by have := GE.out; omega)).trans BQ.out)
      replace BP := Aside0.mk ((far (gq + 1) (by have := GE.out; omega) (by have := GE.out; omega)).trans BP.out)
      replace HB := Aside0.mk (Below.setCell (p := ⟨g8, 10, none⟩) (Below.setCell (p := ⟨g7, 10, none⟩) HB.out (by have := GE.out; have := HGQ.out; show _ ≤ g7; omega) (.int .i64 (a1 % 3))) (by have := GE.out; have := HGQ.out; show _ ≤ g8; omega) (.int .i64 (a2 % 3)))
      clear far n78 n87 hx10 hfx10 hy10 hfy10
      generalize ((wc.setCell ⟨g7, 10, none⟩ (.int .i64 (a1 % 3))).setCell ⟨g8, 10, none⟩ (.int .i64 (a2 % 3))) = wt at BX BY BI BQ BP HB ⊢
      have CQ := (C_block2 (c1 := [.int .i64 7]) (c2 := [.int .i64 8]) (x := (7 : Int)) (y := 8) (d := Kd.int .i64) BQ.out rfl rfl rfl rfl)
      have CX := Aside0.mk (C_block1 (c := [.bool false, .slice (some ⟨gq, 0, none⟩) 2 2]) (x := (⟨false, [7, 8]⟩ : S47)) (d := k47) BP.out rfl (k47_mk _ _ (Nat.le_refl _) CQ))
      have CY := Aside0.mk CX.out
      have CI := Aside0.mk (C_block2 (c1 := [.int .i64 1, .int .i64 2, .int .u32 5]) (c2 := [.int .i64 2, .int .i64 2, .int .u32 5]) (x := (⟨1, 2, 5⟩ : S49)) (y := (⟨2, 2, 5⟩ : S49)) (d := k49) BI.out rfl rfl (k49_mk _ _) (k49_mk _ _))
      clear CQ BQ BP BI
      have hx0 : wt.cell? ⟨g7, 0, none⟩ = some (.int .u32 0) := (blk_cell BX.out 0).trans rfl
      have hy0 : wt.cell? ⟨g8, 0, none⟩ = some (.int .u32 0) := (blk_cell BY.out 0).trans rfl
      have hx1 : wt.cell? ⟨g7, 1, none⟩ = some (.int .i64 0) := (blk_cell BX.out 1).trans rfl
      have hy1 : wt.cell? ⟨g8, 1, none⟩ = some (.int .i64 0) := (blk_cell BY.out 1).trans rfl
      have hx2 : wt.cell? ⟨g7, 2, none⟩ = some (.int .i64 1) := (blk_cell BX.out 2).trans rfl
      have hy2 : wt.cell? ⟨g8, 2, none⟩ = some (.int .i64 2) := (blk_cell BY.out 2).trans rfl
      have hx3 : wt.cell? ⟨g7, 3, none⟩ = some (.int .i64 0) := (blk_cell BX.out 3).trans rfl
      have hy3 : wt.cell? ⟨g8, 3, none⟩ = some (.int .i64 0) := (blk_cell BY.out 3).trans rfl
      have hx4 : wt.cell? ⟨g7, 4, none⟩ = some (.slice (some ⟨gq + 1, 0, none⟩) 1 1) := (blk_cell BX.out 4).trans rfl
      have hy4 : wt.cell? ⟨g8, 4, none⟩ = some (.slice (some ⟨gq + 1, 0, none⟩) 1 1) := (blk_cell BY.out 4).trans rfl
      have hx5 : wt.cell? ⟨g7, 5, none⟩ = some (.int .u32 0) := (blk_cell BX.out 5).trans rfl
      have hy5 : wt.cell? ⟨g8, 5, none⟩ = some (.int .u32 0) := (blk_cell BY.out 5).trans rfl
      have hx6 : wt.cell? ⟨g7, 6, none⟩ = some (.int .i64 (-1)) := (blk_cell BX.out 6).trans rfl
      have hy6 : wt.cell? ⟨g8, 6, none⟩ = some (.int .i64 (-1)) := (blk_cell BY.out 6).trans rfl
      have hx7 : wt.cell? ⟨g7, 7, none⟩ = some (.int .i64 100) := (blk_cell BX.out 7).trans rfl
      have hy7 : wt.cell? ⟨g8, 7, none⟩ = some (.int .i64 100) := (blk_cell BY.out 7).trans rfl
      have hx8 : wt.cell? ⟨g7, 8, none⟩ = some (.slice none 0 0) := (blk_cell BX.out 8).trans rfl
      have hy8 : wt.cell? ⟨g8, 8, none⟩ = some (.slice none 0 0) := (blk_cell BY.out 8).trans rfl
      have hx9 : wt.cell? ⟨g7, 9, none⟩ = some (.slice none 0 0) := (blk_cell BX.out 9).trans rfl
      have hy9 : wt.cell? ⟨g8, 9, none⟩ = some (.slice none 0 0) := (blk_cell BY.out 9).trans rfl
      have hx10 : wt.cell? ⟨g7, 10, none⟩ = some (.int .i64 (a1 % 3)) := (blk_cell BX.out 10).trans rfl
      have hy10 : wt.cell? ⟨g8, 10, none⟩ = some (.int .i64 (a2 % 3)) := (blk_cell BY.out 10).trans rfl
      go_wp2_with fail
      refine (decide_Best.calls 1 (some ⟨gi, 0, none⟩) 2 [(⟨1, 2, 5⟩ : S49), (⟨2, 2, 5⟩ : S49)] (some ⟨wt.heap.size, 0, none⟩) 2 [(⟨(⟨0, 0⟩ : S34), 1, (⟨0, [(⟨false, [7, 8]⟩ : S47)], 0, (-1), 100, [], []⟩ : S39), a1 % 3⟩ : S41), (⟨(⟨0, 0⟩ : S34), 2, (⟨0, [(⟨false, [7, 8]⟩ : S47)], 0, (-1), 100, [], []⟩ : S39), a2 % 3⟩ : S41)] 0 true (wt.alloc (.cells #[.int .u32 0, .int .i64 0, .int .i64 1, .int .i64 0, .slice (some ⟨gq + 1, 0, none⟩) 1 1, .int .u32 0, .int .i64 (-1), .int .i64 100, .slice none 0 0, .slice none 0 0, .int .i64 (a1 % 3), .int .u32 0, .int .i64 0, .int .i64 2, .int .i64 0, .slice (some ⟨gq + 1, 0, none⟩) 1 1, .int .u32 0, .int .i64 (-1), .int .i64 100, .slice none 0 0, .slice none 0 0, .int .i64 (a2 % 3)] 41)) (Kd.C_alloc CI.out _) (Nat.le_refl _) (C_block2 (c1 := [.int .u32 0, .int .i64 0, .int .i64 1, .int .i64 0, .slice (some ⟨gq + 1, 0, none⟩) 1 1, .int .u32 0, .int .i64 (-1), .int .i64 100, .slice none 0 0, .slice none 0 0, .int .i64 (a1 % 3)]) (c2 := [.int .u32 0, .int .i64 0, .int .i64 2, .int .i64 0, .slice (some ⟨gq + 1, 0, none⟩) 1 1, .int .u32 0, .int .i64 (-1), .int .i64 100, .slice none 0 0, .slice none 0 0, .int .i64 (a2 % 3)]) (alloc_at wt _) rfl rfl (k41_mk _ (⟨(⟨0, 0⟩ : S34), 1, (⟨0, [(⟨false, [7, 8]⟩ : S47)], 0, (-1), 100, [], []⟩ : S39), a1 % 3⟩ : S41) (Nat.le_refl _) (Kd.C_alloc CX.out _) (Nat.le_refl _) (Kd.C_nil _ _) (Nat.le_refl _) (Kd.C_nil _ _)) (k41_mk _ (⟨(⟨0, 0⟩ : S34), 2, (⟨0, [(⟨false, [7, 8]⟩ : S47)], 0, (-1), 100, [], []⟩ : S39), a2 % 3⟩ : S41) (Nat.le_refl _) (Kd.C_alloc CY.out _) (Nat.le_refl _) (Kd.C_nil _ _) (Nat.le_refl _) (Kd.C_nil _ _))) (Nat.le_refl _) HF1.out).mono ?_
      rintro e w1 ⟨rfl, hb1⟩
      have hbw : Below wt.heap.size wt w1 := (below_alloc (Below.refl _ _) _).trans (hb1.mono (by simp))
      replace HB := Aside0.mk (HB.out.trans (hbw.mono HB.out.size))
      replace BX := Aside0.mk ((hbw.block g7 (blk_lt BX.out)).trans BX.out)
      replace BY := Aside0.mk ((hbw.block g8 (blk_lt BY.out)).trans BY.out)
      replace CI := Aside0.mk (Kd.C_below CI.out hbw)
      replace CX := Aside0.mk (Kd.C_below CX.out hbw)
      replace CY := Aside0.mk (Kd.C_below CY.out hbw)
      clear hb1 hbw hx0 hy0 hx1 hy1 hx2 hy2 hx3 hy3 hx4 hy4 hx5 hy5 hx6 hy6 hx7 hy7 hx8 hy8 hx9 hy9 hx10 hy10
      have hx0 : w1.cell? ⟨g7, 0, none⟩ = some (.int .u32 0) := (blk_cell BX.out 0).trans rfl
      have hy0 : w1.cell? ⟨g8, 0, none⟩ = some (.int .u32 0) := (blk_cell BY.out 0).trans rfl
      have hx1 : w1.cell? ⟨g7, 1, none⟩ = some (.int .i64 0) := (blk_cell BX.out 1).trans rfl
      have hy1 : w1.cell? ⟨g8, 1, none⟩ = some (.int .i64 0) := (blk_cell BY.out 1).trans rfl
      have hx2 : w1.cell? ⟨g7, 2, none⟩ = some (.int .i64 1) := (blk_cell BX.out 2).trans rfl
      have hy2 : w1.cell? ⟨g8, 2, none⟩ = some (.int .i64 2) := (blk_cell BY.out 2).trans rfl
      have hx3 : w1.cell? ⟨g7, 3, none⟩ = some (.int .i64 0) := (blk_cell BX.out 3).trans rfl
      have hy3 : w1.cell? ⟨g8, 3, none⟩ = some (.int .i64 0) := (blk_cell BY.out 3).trans rfl
      have hx4 : w1.cell? ⟨g7, 4, none⟩ = some (.slice (some ⟨gq + 1, 0, none⟩) 1 1) := (blk_cell BX.out 4).trans rfl
      have hy4 : w1.cell? ⟨g8, 4, none⟩ = some (.slice (some ⟨gq + 1, 0, none⟩) 1 1) := (blk_cell BY.out 4).trans rfl
      have hx5 : w1.cell? ⟨g7, 5, none⟩ = some (.int .u32 0) := (blk_cell BX.out 5).trans rfl
      have hy5 : w1.cell? ⟨g8, 5, none⟩ = some (.int .u32 0) := (blk_cell BY.out 5).trans rfl
      have hx6 : w1.cell? ⟨g7, 6, none⟩ = some (.int .i64 (-1)) := (blk_cell BX.out 6).trans rfl
      have hy6 : w1.cell? ⟨g8, 6, none⟩ = some (.int .i64 (-1)) := (blk_cell BY.out 6).trans rfl
      have hx7 : w1.cell? ⟨g7, 7, none⟩ = some (.int .i64 100) := (blk_cell BX.out 7).trans rfl
      have hy7 : w1.cell? ⟨g8, 7, none⟩ = some (.int .i64 100) := (blk_cell BY.out 7).trans rfl
      have hx8 : w1.cell? ⟨g7, 8, none⟩ = some (.slice none 0 0) := (blk_cell BX.out 8).trans rfl
      have hy8 : w1.cell? ⟨g8, 8, none⟩ = some (.slice none 0 0) := (blk_cell BY.out 8).trans rfl
      have hx9 : w1.cell? ⟨g7, 9, none⟩ = some (.slice none 0 0) := (blk_cell BX.out 9).trans rfl
      have hy9 : w1.cell? ⟨g8, 9, none⟩ = some (.slice none 0 0) := (blk_cell BY.out 9).trans rfl
      have hx10 : w1.cell? ⟨g7, 10, none⟩ = some (.int .i64 (a1 % 3)) := (blk_cell BX.out 10).trans rfl
      have hy10 : w1.cell? ⟨g8, 10, none⟩ = some (.int .i64 (a2 % 3)) := (blk_cell BY.out 10).trans rfl
      go_wp2_with fail
      refine (decide_Best.calls 1 (some ⟨gi, 0, none⟩) 2 [(⟨1, 2, 5⟩ : S49), (⟨2, 2, 5⟩ : S49)] (some ⟨w1.heap.size, 0, none⟩) 2 [(⟨(⟨0, 0⟩ : S34), 2, (⟨0, [(⟨false, [7, 8]⟩ : S47)], 0, (-1), 100, [], []⟩ : S39), a2 % 3⟩ : S41), (⟨(⟨0, 0⟩ : S34), 1, (⟨0, [(⟨false, [7, 8]⟩ : S47)], 0, (-1), 100, [], []⟩ : S39), a1 % 3⟩ : S41)] 1 true (w1.alloc (.cells #[.int .u32 0, .int .i64 0, .int .i64 2, .int .i64 0, .slice (some ⟨gq + 1, 0, none⟩) 1 1, .int .u32 0, .int .i64 (-1), .int .i64 100, .slice none 0 0, .slice none 0 0, .int .i64 (a2 % 3), .int .u32 0, .int .i64 0, .int .i64 1, .int .i64 0, .slice (some ⟨gq + 1, 0, none⟩) 1 1, .int .u32 0, .int .i64 (-1), .int .i64 100, .slice none 0 0, .slice none 0 0, .int .i64 (a1 % 3)] 41)) (Kd.C_alloc CI.out _) (Nat.le_refl _) (C_block2 (c1 := [.int .u32 0, .int .i64 0, .int .i64 2, .int .i64 0, .slice (some ⟨gq + 1, 0, none⟩) 1 1, .int .u32 0, .int .i64 (-1), .int .i64 100, .slice none 0 0, .slice none 0 0, .int .i64 (a2 % 3)]) (c2 := [.int .u32 0, .int .i64 0, .int .i64 1, .int .i64 0, .slice (some ⟨gq + 1, 0, none⟩) 1 1, .int .u32 0, .int .i64 (-1), .int .i64 100, .slice none 0 0, .slice none 0 0, .int .i64 (a1 % 3)]) (alloc_at w1 _) rfl rfl (k41_mk _ (⟨(⟨0, 0⟩ : S34), 2, (⟨0, [(⟨false, [7, 8]⟩ : S47)], 0, (-1), 100, [], []⟩ : S39), a2 % 3⟩ : S41) (Nat.le_refl _) (Kd.C_alloc CY.out _) (Nat.le_refl _) (Kd.C_nil _ _) (Nat.le_refl _) (Kd.C_nil _ _)) (k41_mk _ (⟨(⟨0, 0⟩ : S34), 1, (⟨0, [(⟨false, [7, 8]⟩ : S47)], 0, (-1), 100, [], []⟩ : S39), a1 % 3⟩ : S41) (Nat.le_refl _) (Kd.C_alloc CX.out _) (Nat.le_refl _) (Kd.C_nil _ _) (Nat.le_refl _) (Kd.C_nil _ _))) (Nat.le_refl _) HF2.out).mono ?_
      rintro e w2 ⟨rfl, hb1⟩
      have hbw : Below w1.heap.size w1 w2 := (below_alloc (Below.refl _ _) _).trans (hb1.mono (by simp))
      replace HB := Aside0.mk (HB.out.trans (hbw.mono HB.out.size))
      replace BX := Aside0.mk ((hbw.block g7 (blk_lt BX.out)).trans BX.out)
      replace BY := Aside0.mk ((hbw.block g8 (blk_lt BY.out)).trans BY.out)
      replace CI := Aside0.mk (Kd.C_below CI.out hbw)
      replace CX := Aside0.mk (Kd.C_below CX.out hbw)
      replace CY := Aside0.mk (Kd.C_below CY.out hbw)
      clear hb1 hbw hx0 hy0 hx1 hy1 hx2 hy2 hx3 hy3 hx4 hy4 hx5 hy5 hx6 hy6 hx7 hy7 hx8 hy8 hx9 hy9 hx10 hy10
      go_wp2_with fail
      refine (interregnumlaw15_answers.calls true _ HANS.out).mono ?_
      rintro e w3 ⟨rfl, hb1⟩
      replace HB := Aside0.mk (HB.out.trans (hb1.mono HB.out.size))
      clear hb1
      go_wp2
      go_ret
      exact ⟨by first | rfl | (simp; done), HB.out⟩
    · have Z_ := HB
      clear Z_
      have ea0 : decide (a1 % 3 = 2) = true := decide_eq_true h6a
      have ea1 : (a1 % 3 == 2) = true := beq_iff_eq.2 h6a
      have ea2 : (a1 % 3 != 2) = false := by simp [h6a]
      have eb0 : decide (a2 % 3 = 2) = false := decide_eq_false h6b
      have eb1 : (a2 % 3 == 2) = false := beq_eq_false_iff_ne.2 h6b
      have eb2 : (a2 % 3 != 2) = true := by simp [h6b]
      rw [ea0, eb0] at HF1 HF2
      clear h6a h6b
      replace HF1 := Aside0.mk (show decide_Best.f 1 [(⟨1, 2, 5⟩ : S49), (⟨2, 2, 5⟩ : S49)] [(⟨(⟨0, 0⟩ : S34), 1, (⟨0, [(⟨false, [7, 8]⟩ : S47)], 0, (-1), 100, [], []⟩ : S39), a1 % 3⟩ : S41), (⟨(⟨0, 0⟩ : S34), 2, (⟨0, [(⟨false, [7, 8]⟩ : S47)], 0, (-1), 100, [], []⟩ : S39), a2 % 3⟩ : S41)] = some (1, true) from HF1.out)
      replace HF2 := Aside0.mk (show decide_Best.f 1 [(⟨1, 2, 5⟩ : S49), (⟨2, 2, 5⟩ : S49)] [(⟨(⟨0, 0⟩ : S34), 2, (⟨0, [(⟨false, [7, 8]⟩ : S47)], 0, (-1), 100, [], []⟩ : S39), a2 % 3⟩ : S41), (⟨(⟨0, 0⟩ : S34), 1, (⟨0, [(⟨false, [7, 8]⟩ : S47)], 0, (-1), 100, [], []⟩ : S39), a1 % 3⟩ : S41)] = some (0, true) from HF2.out)
      go_upto_region 29 with (fail)
      clear ea0 ea1 ea2 eb0 eb1 eb2
      clear hw1 hw2 hm1 hv1 hm2 hv2
      have far : ∀ (k : Nat), k ≠ g7 → k ≠ g8 → ((wc.setCell ⟨g7, 10, none⟩ (.int .i64 (a1 % 3))).setCell ⟨g8, 10, none⟩ (.int .i64 (a2 % 3))).heap[k]? = wc.heap[k]? := fun k h1 h2 => (Below.heap_setCell _ ⟨g8, _, none⟩ _ k h2).trans (Below.heap_setCell _ ⟨g7, _, none⟩ _ k h1)
      replace BX := Aside0.mk (show ((wc.setCell ⟨g7, 10, none⟩ (.int .i64 (a1 % 3))).setCell ⟨g8, 10, none⟩ (.int .i64 (a2 % 3))).heap[g7]? = some (.cells #[.int .u32 0, .int .i64 0, .int .i64 1, .int .i64 0, .slice (some ⟨gq + 1, 0, none⟩) 1 1, .int .u32 0, .int .i64 (-1), .int .i64 100, .slice none 0 0, .slice none 0 0, .int .i64 (a1 % 3)] 41 (0, 0)) from (Below.heap_setCell _ ⟨g8, _, none⟩ _ g7 n78).trans (blk_put BX.out 10 _ rfl))
      replace BY := Aside0.mk (show ((wc.setCell ⟨g7, 10, none⟩ (.int .i64 (a1 % 3))).setCell ⟨g8, 10, none⟩ (.int .i64 (a2 % 3))).heap[g8]? = some (.cells #[.int .u32 0, .int .i64 0, .int .i64 2, .int .i64 0, .slice (some ⟨gq + 1, 0, none⟩) 1 1, .int .u32 0, .int .i64 (-1), .int .i64 100, .slice none 0 0, .slice none 0 0, .int .i64 (a2 % 3)] 41 (0, 0)) from blk_put ((Below.heap_setCell _ ⟨g7, _, none⟩ _ g8 n87).trans BY.out) 10 _ rfl)
      replace BI := Aside0.mk ((far gi (by have := GE.out; omega) (by have := GE.out; omega)).trans BI.out)
      replace BQ := Aside0.mk ((far gq (by have := GE.out; omega) (by have := GE.out; omega)).trans BQ.out)
      replace BP := Aside0.mk ((far (gq + 1) (by have := GE.out; omega) (by have := GE.out; omega)).trans BP.out)
      replace HB := Aside0.mk (Below.setCell (p := ⟨g8, 10, none⟩) (Below.setCell (p := ⟨g7, 10, none⟩) HB.out (by have := GE.out; have := HGQ.out; show _ ≤ g7; omega) (.int .i64 (a1 % 3))) (by have := GE.out; have := HGQ.out; show _ ≤ g8; omega) (.int .i64 (a2 % 3)))
      clear far n78 n87 hx10 hfx10 hy10 hfy10
      generalize ((wc.setCell ⟨g7, 10, none⟩ (.int .i64 (a1 % 3))).setCell ⟨g8, 10, none⟩ (.int .i64 (a2 % 3))) = wt at BX BY BI BQ BP HB ⊢
      have CQ := (C_block2 (c1 := [.int .i64 7]) (c2 := [.int .i64 8]) (x := (7 : Int)) (y := 8) (d := Kd.int .i64) BQ.out rfl rfl rfl rfl)
      have CX := Aside0.mk (C_block1 (c := [.bool false, .slice (some ⟨gq, 0, none⟩) 2 2]) (x := (⟨false, [7, 8]⟩ : S47)) (d := k47) BP.out rfl (k47_mk _ _ (Nat.le_refl _) CQ))
      have CY := Aside0.mk CX.out
      have CI := Aside0.mk (C_block2 (c1 := [.int .i64 1, .int .i64 2, .int .u32 5]) (c2 := [.int .i64 2, .int .i64 2, .int .u32 5]) (x := (⟨1, 2, 5⟩ : S49)) (y := (⟨2, 2, 5⟩ : S49)) (d := k49) BI.out rfl rfl (k49_mk _ _) (k49_mk _ _))
      clear CQ BQ BP BI
      have hx0 : wt.cell? ⟨g7, 0, none⟩ = some (.int .u32 0) := (blk_cell BX.out 0).trans rfl
      have hy0 : wt.cell? ⟨g8, 0, none⟩ = some (.int .u32 0) := (blk_cell BY.out 0).trans rfl
      have hx1 : wt.cell? ⟨g7, 1, none⟩ = some (.int .i64 0) := (blk_cell BX.out 1).trans rfl
      have hy1 : wt.cell? ⟨g8, 1, none⟩ = some (.int .i64 0) := (blk_cell BY.out 1).trans rfl
      have hx2 : wt.cell? ⟨g7, 2, none⟩ = some (.int .i64 1) := (blk_cell BX.out 2).trans rfl
      have hy2 : wt.cell? ⟨g8, 2, none⟩ = some (.int .i64 2) := (blk_cell BY.out 2).trans rfl
      have hx3 : wt.cell? ⟨g7, 3, none⟩ = some (.int .i64 0) := (blk_cell BX.out 3).trans rfl
      have hy3 : wt.cell? ⟨g8, 3, none⟩ = some (.int .i64 0) := (blk_cell BY.out 3).trans rfl
      have hx4 : wt.cell? ⟨g7, 4, none⟩ = some (.slice (some ⟨gq + 1, 0, none⟩) 1 1) := (blk_cell BX.out 4).trans rfl
      have hy4 : wt.cell? ⟨g8, 4, none⟩ = some (.slice (some ⟨gq + 1, 0, none⟩) 1 1) := (blk_cell BY.out 4).trans rfl
      have hx5 : wt.cell? ⟨g7, 5, none⟩ = some (.int .u32 0) := (blk_cell BX.out 5).trans rfl
      have hy5 : wt.cell? ⟨g8, 5, none⟩ = some (.int .u32 0) := (blk_cell BY.out 5).trans rfl
      have hx6 : wt.cell? ⟨g7, 6, none⟩ = some (.int .i64 (-1)) := (blk_cell BX.out 6).trans rfl
      have hy6 : wt.cell? ⟨g8, 6, none⟩ = some (.int .i64 (-1)) := (blk_cell BY.out 6).trans rfl
      have hx7 : wt.cell? ⟨g7, 7, none⟩ = some (.int .i64 100) := (blk_cell BX.out 7).trans rfl
      have hy7 : wt.cell? ⟨g8, 7, none⟩ = some (.int .i64 100) := (blk_cell BY.out 7).trans rfl
      have hx8 : wt.cell? ⟨g7, 8, none⟩ = some (.slice none 0 0) := (blk_cell BX.out 8).trans rfl
      have hy8 : wt.cell? ⟨g8, 8, none⟩ = some (.slice none 0 0) := (blk_cell BY.out 8).trans rfl
      have hx9 : wt.cell? ⟨g7, 9, none⟩ = some (.slice none 0 0) := (blk_cell BX.out 9).trans rfl
      have hy9 : wt.cell? ⟨g8, 9, none⟩ = some (.slice none 0 0) := (blk_cell BY.out 9).trans rfl
      have hx10 : wt.cell? ⟨g7, 10, none⟩ = some (.int .i64 (a1 % 3)) := (blk_cell BX.out 10).trans rfl
      have hy10 : wt.cell? ⟨g8, 10, none⟩ = some (.int .i64 (a2 % 3)) := (blk_cell BY.out 10).trans rfl
      go_wp2_with fail
      refine (decide_Best.calls 1 (some ⟨gi, 0, none⟩) 2 [(⟨1, 2, 5⟩ : S49), (⟨2, 2, 5⟩ : S49)] (some ⟨wt.heap.size, 0, none⟩) 2 [(⟨(⟨0, 0⟩ : S34), 1, (⟨0, [(⟨false, [7, 8]⟩ : S47)], 0, (-1), 100, [], []⟩ : S39), a1 % 3⟩ : S41), (⟨(⟨0, 0⟩ : S34), 2, (⟨0, [(⟨false, [7, 8]⟩ : S47)], 0, (-1), 100, [], []⟩ : S39), a2 % 3⟩ : S41)] 1 true (wt.alloc (.cells #[.int .u32 0, .int .i64 0, .int .i64 1, .int .i64 0, .slice (some ⟨gq + 1, 0, none⟩) 1 1, .int .u32 0, .int .i64 (-1), .int .i64 100, .slice none 0 0, .slice none 0 0, .int .i64 (a1 % 3), .int .u32 0, .int .i64 0, .int .i64 2, .int .i64 0, .slice (some ⟨gq + 1, 0, none⟩) 1 1, .int .u32 0, .int .i64 (-1), .int .i64 100, .slice none 0 0, .slice none 0 0, .int .i64 (a2 % 3)] 41)) (Kd.C_alloc CI.out _) (Nat.le_refl _) (C_block2 (c1 := [.int .u32 0, .int .i64 0, .int .i64 1, .int .i64 0, .slice (some ⟨gq + 1, 0, none⟩) 1 1, .int .u32 0, .int .i64 (-1), .int .i64 100, .slice none 0 0, .slice none 0 0, .int .i64 (a1 % 3)]) (c2 := [.int .u32 0, .int .i64 0, .int .i64 2, .int .i64 0, .slice (some ⟨gq + 1, 0, none⟩) 1 1, .int .u32 0, .int .i64 (-1), .int .i64 100, .slice none 0 0, .slice none 0 0, .int .i64 (a2 % 3)]) (alloc_at wt _) rfl rfl (k41_mk _ (⟨(⟨0, 0⟩ : S34), 1, (⟨0, [(⟨false, [7, 8]⟩ : S47)], 0, (-1), 100, [], []⟩ : S39), a1 % 3⟩ : S41) (Nat.le_refl _) (Kd.C_alloc CX.out _) (Nat.le_refl _) (Kd.C_nil _ _) (Nat.le_refl _) (Kd.C_nil _ _)) (k41_mk _ (⟨(⟨0, 0⟩ : S34), 2, (⟨0, [(⟨false, [7, 8]⟩ : S47)], 0, (-1), 100, [], []⟩ : S39), a2 % 3⟩ : S41) (Nat.le_refl _) (Kd.C_alloc CY.out _) (Nat.le_refl _) (Kd.C_nil _ _) (Nat.le_refl _) (Kd.C_nil _ _))) (Nat.le_refl _) HF1.out).mono ?_
      rintro e w1 ⟨rfl, hb1⟩
      have hbw : Below wt.heap.size wt w1 := (below_alloc (Below.refl _ _) _).trans (hb1.mono (by simp))
      replace HB := Aside0.mk (HB.out.trans (hbw.mono HB.out.size))
      replace BX := Aside0.mk ((hbw.block g7 (blk_lt BX.out)).trans BX.out)
      replace BY := Aside0.mk ((hbw.block g8 (blk_lt BY.out)).trans BY.out)
      replace CI := Aside0.mk (Kd.C_below CI.out hbw)
      replace CX := Aside0.mk (Kd.C_below CX.out hbw)
      replace CY := Aside0.mk (Kd.C_below CY.out hbw)
      clear hb1 hbw hx0 hy0 hx1 hy1 hx2 hy2 hx3 hy3 hx4 hy4 hx5 hy5 hx6 hy6 hx7 hy7 hx8 hy8 hx9 hy9 hx10 hy10
      have hx0 : w1.cell? ⟨g7, 0, none⟩ = some (.int .u32 0) := (blk_cell BX.out 0).trans rfl
      have hy0 : w1.cell? ⟨g8, 0, none⟩ = some (.int .u32 0) := (blk_cell BY.out 0).trans rfl
      have hx1 : w1.cell? ⟨g7, 1, none⟩ = some (.int .i64 0) := (blk_cell BX.out 1).trans rfl
      have hy1 : w1.cell? ⟨g8, 1, none⟩ = some (.int .i64 0) := (blk_cell BY.out 1).trans rfl
      have hx2 : w1.cell? ⟨g7, 2, none⟩ = some (.int .i64 1) := (blk_cell BX.out 2).trans rfl
      have hy2 : w1.cell? ⟨g8, 2, none⟩ = some (.int .i64 2) := (blk_cell BY.out 2).trans rfl
      have hx3 : w1.cell? ⟨g7, 3, none⟩ = some (.int .i64 0) := (blk_cell BX.out 3).trans rfl
      have hy3 : w1.cell? ⟨g8, 3, none⟩ = some (.int .i64 0) := (blk_cell BY.out 3).trans rfl
      have hx4 : w1.cell? ⟨g7, 4, none⟩ = some (.slice (some ⟨gq + 1, 0, none⟩) 1 1) := (blk_cell BX.out 4).trans rfl
      have hy4 : w1.cell? ⟨g8, 4, none⟩ = some (.slice (some ⟨gq + 1, 0, none⟩) 1 1) := (blk_cell BY.out 4).trans rfl
      have hx5 : w1.cell? ⟨g7, 5, none⟩ = some (.int .u32 0) := (blk_cell BX.out 5).trans rfl
      have hy5 : w1.cell? ⟨g8, 5, none⟩ = some (.int .u32 0) := (blk_cell BY.out 5).trans rfl
      have hx6 : w1.cell? ⟨g7, 6, none⟩ = some (.int .i64 (-1)) := (blk_cell BX.out 6).trans rfl
      have hy6 : w1.cell? ⟨g8, 6, none⟩ = some (.int .i64 (-1)) := (blk_cell BY.out 6).trans rfl
      have hx7 : w1.cell? ⟨g7, 7, none⟩ = some (.int .i64 100) := (blk_cell BX.out 7).trans rfl
      have hy7 : w1.cell? ⟨g8, 7, none⟩ = some (.int .i64 100) := (blk_cell BY.out 7).trans rfl
      have hx8 : w1.cell? ⟨g7, 8, none⟩ = some (.slice none 0 0) := (blk_cell BX.out 8).trans rfl
      have hy8 : w1.cell? ⟨g8, 8, none⟩ = some (.slice none 0 0) := (blk_cell BY.out 8).trans rfl
      have hx9 : w1.cell? ⟨g7, 9, none⟩ = some (.slice none 0 0) := (blk_cell BX.out 9).trans rfl
      have hy9 : w1.cell? ⟨g8, 9, none⟩ = some (.slice none 0 0) := (blk_cell BY.out 9).trans rfl
      have hx10 : w1.cell? ⟨g7, 10, none⟩ = some (.int .i64 (a1 % 3)) := (blk_cell BX.out 10).trans rfl
      have hy10 : w1.cell? ⟨g8, 10, none⟩ = some (.int .i64 (a2 % 3)) := (blk_cell BY.out 10).trans rfl
      go_wp2_with fail
      refine (decide_Best.calls 1 (some ⟨gi, 0, none⟩) 2 [(⟨1, 2, 5⟩ : S49), (⟨2, 2, 5⟩ : S49)] (some ⟨w1.heap.size, 0, none⟩) 2 [(⟨(⟨0, 0⟩ : S34), 2, (⟨0, [(⟨false, [7, 8]⟩ : S47)], 0, (-1), 100, [], []⟩ : S39), a2 % 3⟩ : S41), (⟨(⟨0, 0⟩ : S34), 1, (⟨0, [(⟨false, [7, 8]⟩ : S47)], 0, (-1), 100, [], []⟩ : S39), a1 % 3⟩ : S41)] 0 true (w1.alloc (.cells #[.int .u32 0, .int .i64 0, .int .i64 2, .int .i64 0, .slice (some ⟨gq + 1, 0, none⟩) 1 1, .int .u32 0, .int .i64 (-1), .int .i64 100, .slice none 0 0, .slice none 0 0, .int .i64 (a2 % 3), .int .u32 0, .int .i64 0, .int .i64 1, .int .i64 0, .slice (some ⟨gq + 1, 0, none⟩) 1 1, .int .u32 0, .int .i64 (-1), .int .i64 100, .slice none 0 0, .slice none 0 0, .int .i64 (a1 % 3)] 41)) (Kd.C_alloc CI.out _) (Nat.le_refl _) (C_block2 (c1 := [.int .u32 0, .int .i64 0, .int .i64 2, .int .i64 0, .slice (some ⟨gq + 1, 0, none⟩) 1 1, .int .u32 0, .int .i64 (-1), .int .i64 100, .slice none 0 0, .slice none 0 0, .int .i64 (a2 % 3)]) (c2 := [.int .u32 0, .int .i64 0, .int .i64 1, .int .i64 0, .slice (some ⟨gq + 1, 0, none⟩) 1 1, .int .u32 0, .int .i64 (-1), .int .i64 100, .slice none 0 0, .slice none 0 0, .int .i64 (a1 % 3)]) (alloc_at w1 _) rfl rfl (k41_mk _ (⟨(⟨0, 0⟩ : S34), 2, (⟨0, [(⟨false, [7, 8]⟩ : S47)], 0, (-1), 100, [], []⟩ : S39), a2 % 3⟩ : S41) (Nat.le_refl _) (Kd.C_alloc CY.out _) (Nat.le_refl _) (Kd.C_nil _ _) (Nat.le_refl _) (Kd.C_nil _ _)) (k41_mk _ (⟨(⟨0, 0⟩ : S34), 1, (⟨0, [(⟨false, [7, 8]⟩ : S47)], 0, (-1), 100, [], []⟩ : S39), a1 % 3⟩ : S41) (Nat.le_refl _) (Kd.C_alloc CX.out _) (Nat.le_refl _) (Kd.C_nil _ _) (Nat.le_refl _) (Kd.C_nil _ _))) (Nat.le_refl _) HF2.out).mono ?_
      rintro e w2 ⟨rfl, hb1⟩
      have hbw : Below w1.heap.size w1 w2 := (below_alloc (Below.refl _ _) _).trans (hb1.mono (by simp))
      replace HB := Aside0.mk (HB.out.trans (hbw.mono HB.out.size))
      replace BX := Aside0.mk ((hbw.block g7 (blk_lt BX.out)).trans BX.out)
      replace BY := Aside0.mk ((hbw.block g8 (blk_lt BY.out)).trans BY.out)
      replace CI := Aside0.mk (Kd.C_below CI.out hbw)
      replace CX := Aside0.mk (Kd.C_below CX.out hbw)
      replace CY := Aside0.mk (Kd.C_below CY.out hbw)
      clear hb1 hbw hx0 hy0 hx1 hy1 hx2 hy2 hx3 hy3 hx4 hy4 hx5 hy5 hx6 hy6 hx7 hy7 hx8 hy8 hx9 hy9 hx10 hy10
      go_wp2_with fail
      refine (interregnumlaw15_answers.calls true _ HANS.out).mono ?_
      rintro e w3 ⟨rfl, hb1⟩
      replace HB := Aside0.mk (HB.out.trans (hb1.mono HB.out.size))
      clear hb1
      go_wp2
      go_ret
      exact ⟨by first | rfl | (simp; done), HB.out⟩
    · have Z_ := HB
      clear Z_
      have ea0 : decide (a1 % 3 = 2) = false := decide_eq_false h6a
      have ea1 : (a1 % 3 == 2) = false := beq_eq_false_iff_ne.2 h6a
      have ea2 : (a1 % 3 != 2) = true := by simp [h6a]
      have eb0 : decide (a2 % 3 = 2) = true := decide_eq_true h6b
      have eb1 : (a2 % 3 == 2) = true := beq_iff_eq.2 h6b
      have eb2 : (a2 % 3 != 2) = false := by simp [h6b]
      rw [ea0, eb0] at HF1 HF2
      clear h6a h6b
      replace HF1 := Aside0.mk (show decide_Best.f 1 [(⟨1, 2, 5⟩ : S49), (⟨2, 2, 5⟩ : S49)] [(⟨(⟨0, 0⟩ : S34), 1, (⟨0, [(⟨false, [7, 8]⟩ : S47)], 0, (-1), 100, [], []⟩ : S39), a1 % 3⟩ : S41), (⟨(⟨0, 0⟩ : S34), 2, (⟨0, [(⟨false, [7, 8]⟩ : S47)], 0, (-1), 100, [], []⟩ : S39), a2 % 3⟩ : S41)] = some (0, true) from HF1.out)
      replace HF2 := Aside0.mk (show decide_Best.f 1 [(⟨1, 2, 5⟩ : S49), (⟨2, 2, 5⟩ : S49)] [(⟨(⟨0, 0⟩ : S34), 2, (⟨0, [(⟨false, [7, 8]⟩ : S47)], 0, (-1), 100, [], []⟩ : S39), a2 % 3⟩ : S41), (⟨(⟨0, 0⟩ : S34), 1, (⟨0, [(⟨false, [7, 8]⟩ : S47)], 0, (-1), 100, [], []⟩ : S39), a1 % 3⟩ : S41)] = some (1, true) from HF2.out)
      go_upto_region 29 with (fail)
      clear ea0 ea1 ea2 eb0 eb1 eb2
      clear hw1 hw2 hm1 hv1 hm2 hv2
      have far : ∀ (k : Nat), k ≠ g7 → k ≠ g8 → ((wc.setCell ⟨g7, 10, none⟩ (.int .i64 (a1 % 3))).setCell ⟨g8, 10, none⟩ (.int .i64 (a2 % 3))).heap[k]? = wc.heap[k]? := fun k h1 h2 => (Below.heap_setCell _ ⟨g8, _, none⟩ _ k h2).trans (Below.heap_setCell _ ⟨g7, _, none⟩ _ k h1)
      replace BX := Aside0.mk (show ((wc.setCell ⟨g7, 10, none⟩ (.int .i64 (a1 % 3))).setCell ⟨g8, 10, none⟩ (.int .i64 (a2 % 3))).heap[g7]? = some (.cells #[.int .u32 0, .int .i64 0, .int .i64 1, .int .i64 0, .slice (some ⟨gq + 1, 0, none⟩) 1 1, .int .u32 0, .int .i64 (-1), .int .i64 100, .slice none 0 0, .slice none 0 0, .int .i64 (a1 % 3)] 41 (0, 0)) from (Below.heap_setCell _ ⟨g8, _, none⟩ _ g7 n78).trans (blk_put BX.out 10 _ rfl))
      replace BY := Aside0.mk (show ((wc.setCell ⟨g7, 10, none⟩ (.int .i64 (a1 % 3))).setCell ⟨g8, 10, none⟩ (.int .i64 (a2 % 3))).heap[g8]? = some (.cells #[.int .u32 0, .int .i64 0, .int .i64 2, .int .i64 0, .slice (some ⟨gq + 1, 0, none⟩) 1 1, .int .u32 0, .int .i64 (-1), .int .i64 100, .slice none 0 0, .slice none 0 0, .int .i64 (a2 % 3)] 41 (0, 0)) from blk_put ((Below.heap_setCell _ ⟨g7, _, none⟩ _ g8 n87).trans BY.out) 10 _ rfl)
      replace BI := Aside0.mk ((far gi (by have := GE.out; omega) (by have := GE.out; omega)).trans BI.out)
      replace BQ := Aside0.mk ((far gq (by have := GE.out; omega) (by have := GE.out; omega)).trans BQ.out)
      replace BP := Aside0.mk ((far (gq + 1) (by have := GE.out; omega) (by have := GE.out; omega)).trans BP.out)
      replace HB := Aside0.mk (Below.setCell (p := ⟨g8, 10, none⟩) (Below.setCell (p := ⟨g7, 10, none⟩) HB.out (by have := GE.out; have := HGQ.out; show _ ≤ g7; omega) (.int .i64 (a1 % 3))) (by have := GE.out; have := HGQ.out; show _ ≤ g8; omega) (.int .i64 (a2 % 3)))
      clear far n78 n87 hx10 hfx10 hy10 hfy10
      generalize ((wc.setCell ⟨g7, 10, none⟩ (.int .i64 (a1 % 3))).setCell ⟨g8, 10, none⟩ (.int .i64 (a2 % 3))) = wt at BX BY BI BQ BP HB ⊢
      have CQ := (C_block2 (c1 := [.int .i64 7]) (c2 := [.int .i64 8]) (x := (7 : Int)) (y := 8) (d := Kd.int .i64) BQ.out rfl rfl rfl rfl)
      have CX := Aside0.mk (C_block1 (c := [.bool false, .slice (some ⟨gq, 0, none⟩) 2 2]) (x := (⟨false, [7, 8]⟩ : S47)) (d := k47) BP.out rfl (k47_mk _ _ (Nat.le_refl _) CQ))
      have CY := Aside0.mk CX.out
      have CI := Aside0.mk (C_block2 (c1 := [.int .i64 1, .int .i64 2, .int .u32 5]) (c2 := [.int .i64 2, .int .i64 2, .int .u32 5]) (x := (⟨1, 2, 5⟩ : S49)) (y := (⟨2, 2, 5⟩ : S49)) (d := k49) BI.out rfl rfl (k49_mk _ _) (k49_mk _ _))
      clear CQ BQ BP BI
      have hx0 : wt.cell? ⟨g7, 0, none⟩ = some (.int .u32 0) := (blk_cell BX.out 0).trans rfl
      have hy0 : wt.cell? ⟨g8, 0, none⟩ = some (.int .u32 0) := (blk_cell BY.out 0).trans rfl
      have hx1 : wt.cell? ⟨g7, 1, none⟩ = some (.int .i64 0) := (blk_cell BX.out 1).trans rfl
      have hy1 : wt.cell? ⟨g8, 1, none⟩ = some (.int .i64 0) := (blk_cell BY.out 1).trans rfl
      have hx2 : wt.cell? ⟨g7, 2, none⟩ = some (.int .i64 1) := (blk_cell BX.out 2).trans rfl
      have hy2 : wt.cell? ⟨g8, 2, none⟩ = some (.int .i64 2) := (blk_cell BY.out 2).trans rfl
      have hx3 : wt.cell? ⟨g7, 3, none⟩ = some (.int .i64 0) := (blk_cell BX.out 3).trans rfl
      have hy3 : wt.cell? ⟨g8, 3, none⟩ = some (.int .i64 0) := (blk_cell BY.out 3).trans rfl
      have hx4 : wt.cell? ⟨g7, 4, none⟩ = some (.slice (some ⟨gq + 1, 0, none⟩) 1 1) := (blk_cell BX.out 4).trans rfl
      have hy4 : wt.cell? ⟨g8, 4, none⟩ = some (.slice (some ⟨gq + 1, 0, none⟩) 1 1) := (blk_cell BY.out 4).trans rfl
      have hx5 : wt.cell? ⟨g7, 5, none⟩ = some (.int .u32 0) := (blk_cell BX.out 5).trans rfl
      have hy5 : wt.cell? ⟨g8, 5, none⟩ = some (.int .u32 0) := (blk_cell BY.out 5).trans rfl
      have hx6 : wt.cell? ⟨g7, 6, none⟩ = some (.int .i64 (-1)) := (blk_cell BX.out 6).trans rfl
      have hy6 : wt.cell? ⟨g8, 6, none⟩ = some (.int .i64 (-1)) := (blk_cell BY.out 6).trans rfl
      have hx7 : wt.cell? ⟨g7, 7, none⟩ = some (.int .i64 100) := (blk_cell BX.out 7).trans rfl
      have hy7 : wt.cell? ⟨g8, 7, none⟩ = some (.int .i64 100) := (blk_cell BY.out 7).trans rfl
      have hx8 : wt.cell? ⟨g7, 8, none⟩ = some (.slice none 0 0) := (blk_cell BX.out 8).trans rfl
      have hy8 : wt.cell? ⟨g8, 8, none⟩ = some (.slice none 0 0) := (blk_cell BY.out 8).trans rfl
      have hx9 : wt.cell? ⟨g7, 9, none⟩ = some (.slice none 0 0) := (blk_cell BX.out 9).trans rfl
      have hy9 : wt.cell? ⟨g8, 9, none⟩ = some (.slice none 0 0) := (blk_cell BY.out 9).trans rfl
      have hx10 : wt.cell? ⟨g7, 10, none⟩ = some (.int .i64 (a1 % 3)) := (blk_cell BX.out 10).trans rfl
      have hy10 : wt.cell? ⟨g8, 10, none⟩ = some (.int .i64 (a2 % 3)) := (blk_cell BY.out 10).trans rfl
      go_wp2_with fail
      refine (decide_Best.calls 1 (some ⟨gi, 0, none⟩) 2 [(⟨1, 2, 5⟩ : S49), (⟨2, 2, 5⟩ : S49)] (some ⟨wt.heap.size, 0, none⟩) 2 [(⟨(⟨0, 0⟩ : S34), 1, (⟨0, [(⟨false, [7, 8]⟩ : S47)], 0, (-1), 100, [], []⟩ : S39), a1 % 3⟩ : S41), (⟨(⟨0, 0⟩ : S34), 2, (⟨0, [(⟨false, [7, 8]⟩ : S47)], 0, (-1), 100, [], []⟩ : S39), a2 % 3⟩ : S41)] 0 true (wt.alloc (.cells #[.int .u32 0, .int .i64 0, .int .i64 1, .int .i64 0, .slice (some ⟨gq + 1, 0, none⟩) 1 1, .int .u32 0, .int .i64 (-1), .int .i64 100, .slice none 0 0, .slice none 0 0, .int .i64 (a1 % 3), .int .u32 0, .int .i64 0, .int .i64 2, .int .i64 0, .slice (some ⟨gq + 1, 0, none⟩) 1 1, .int .u32 0, .int .i64 (-1), .int .i64 100, .slice none 0 0, .slice none 0 0, .int .i64 (a2 % 3)] 41)) (Kd.C_alloc CI.out _) (Nat.le_refl _) (C_block2 (c1 := [.int .u32 0, .int .i64 0, .int .i64 1, .int .i64 0, .slice (some ⟨gq + 1, 0, none⟩) 1 1, .int .u32 0, .int .i64 (-1), .int .i64 100, .slice none 0 0, .slice none 0 0, .int .i64 (a1 % 3)]) (c2 := [.int .u32 0, .int .i64 0, .int .i64 2, .int .i64 0, .slice (some ⟨gq + 1, 0, none⟩) 1 1, .int .u32 0, .int .i64 (-1), .int .i64 100, .slice none 0 0, .slice none 0 0, .int .i64 (a2 % 3)]) (alloc_at wt _) rfl rfl (k41_mk _ (⟨(⟨0, 0⟩ : S34), 1, (⟨0, [(⟨false, [7, 8]⟩ : S47)], 0, (-1), 100, [], []⟩ : S39), a1 % 3⟩ : S41) (Nat.le_refl _) (Kd.C_alloc CX.out _) (Nat.le_refl _) (Kd.C_nil _ _) (Nat.le_refl _) (Kd.C_nil _ _)) (k41_mk _ (⟨(⟨0, 0⟩ : S34), 2, (⟨0, [(⟨false, [7, 8]⟩ : S47)], 0, (-1), 100, [], []⟩ : S39), a2 % 3⟩ : S41) (Nat.le_refl _) (Kd.C_alloc CY.out _) (Nat.le_refl _) (Kd.C_nil _ _) (Nat.le_refl _) (Kd.C_nil _ _))) (Nat.le_refl _) HF1.out).mono ?_
      rintro e w1 ⟨rfl, hb1⟩
      have hbw : Below wt.heap.size wt w1 := (below_alloc (Below.refl _ _) _).trans (hb1.mono (by simp))
      replace HB := Aside0.mk (HB.out.trans (hbw.mono HB.out.size))
      replace BX := Aside0.mk ((hbw.block g7 (blk_lt BX.out)).trans BX.out)
      replace BY := Aside0.mk ((hbw.block g8 (blk_lt BY.out)).trans BY.out)
      replace CI := Aside0.mk (Kd.C_below CI.out hbw)
      replace CX := Aside0.mk (Kd.C_below CX.out hbw)
      replace CY := Aside0.mk (Kd.C_below CY.out hbw)
      clear hb1 hbw hx0 hy0 hx1 hy1 hx2 hy2 hx3 hy3 hx4 hy4 hx5 hy5 hx6 hy6 hx7 hy7 hx8 hy8 hx9 hy9 hx10 hy10
      have hx0 : w1.cell? ⟨g7, 0, none⟩ = some (.int .u32 0) := (blk_cell BX.out 0).trans rfl
      have hy0 : w1.cell? ⟨g8, 0, none⟩ = some (.int .u32 0) := (blk_cell BY.out 0).trans rfl
      have hx1 : w1.cell? ⟨g7, 1, none⟩ = some (.int .i64 0) := (blk_cell BX.out 1).trans rfl
      have hy1 : w1.cell? ⟨g8, 1, none⟩ = some (.int .i64 0) := (blk_cell BY.out 1).trans rfl
      have hx2 : w1.cell? ⟨g7, 2, none⟩ = some (.int .i64 1) := (blk_cell BX.out 2).trans rfl
      have hy2 : w1.cell? ⟨g8, 2, none⟩ = some (.int .i64 2) := (blk_cell BY.out 2).trans rfl
      have hx3 : w1.cell? ⟨g7, 3, none⟩ = some (.int .i64 0) := (blk_cell BX.out 3).trans rfl
      have hy3 : w1.cell? ⟨g8, 3, none⟩ = some (.int .i64 0) := (blk_cell BY.out 3).trans rfl
      have hx4 : w1.cell? ⟨g7, 4, none⟩ = some (.slice (some ⟨gq + 1, 0, none⟩) 1 1) := (blk_cell BX.out 4).trans rfl
      have hy4 : w1.cell? ⟨g8, 4, none⟩ = some (.slice (some ⟨gq + 1, 0, none⟩) 1 1) := (blk_cell BY.out 4).trans rfl
      have hx5 : w1.cell? ⟨g7, 5, none⟩ = some (.int .u32 0) := (blk_cell BX.out 5).trans rfl
      have hy5 : w1.cell? ⟨g8, 5, none⟩ = some (.int .u32 0) := (blk_cell BY.out 5).trans rfl
      have hx6 : w1.cell? ⟨g7, 6, none⟩ = some (.int .i64 (-1)) := (blk_cell BX.out 6).trans rfl
      have hy6 : w1.cell? ⟨g8, 6, none⟩ = some (.int .i64 (-1)) := (blk_cell BY.out 6).trans rfl
      have hx7 : w1.cell? ⟨g7, 7, none⟩ = some (.int .i64 100) := (blk_cell BX.out 7).trans rfl
      have hy7 : w1.cell? ⟨g8, 7, none⟩ = some (.int .i64 100) := (blk_cell BY.out 7).trans rfl
      have hx8 : w1.cell? ⟨g7, 8, none⟩ = some (.slice none 0 0) := (blk_cell BX.out 8).trans rfl
      have hy8 : w1.cell? ⟨g8, 8, none⟩ = some (.slice none 0 0) := (blk_cell BY.out 8).trans rfl
      have hx9 : w1.cell? ⟨g7, 9, none⟩ = some (.slice none 0 0) := (blk_cell BX.out 9).trans rfl
      have hy9 : w1.cell? ⟨g8, 9, none⟩ = some (.slice none 0 0) := (blk_cell BY.out 9).trans rfl
      have hx10 : w1.cell? ⟨g7, 10, none⟩ = some (.int .i64 (a1 % 3)) := (blk_cell BX.out 10).trans rfl
      have hy10 : w1.cell? ⟨g8, 10, none⟩ = some (.int .i64 (a2 % 3)) := (blk_cell BY.out 10).trans rfl
      go_wp2_with fail
      refine (decide_Best.calls 1 (some ⟨gi, 0, none⟩) 2 [(⟨1, 2, 5⟩ : S49), (⟨2, 2, 5⟩ : S49)] (some ⟨w1.heap.size, 0, none⟩) 2 [(⟨(⟨0, 0⟩ : S34), 2, (⟨0, [(⟨false, [7, 8]⟩ : S47)], 0, (-1), 100, [], []⟩ : S39), a2 % 3⟩ : S41), (⟨(⟨0, 0⟩ : S34), 1, (⟨0, [(⟨false, [7, 8]⟩ : S47)], 0, (-1), 100, [], []⟩ : S39), a1 % 3⟩ : S41)] 1 true (w1.alloc (.cells #[.int .u32 0, .int .i64 0, .int .i64 2, .int .i64 0, .slice (some ⟨gq + 1, 0, none⟩) 1 1, .int .u32 0, .int .i64 (-1), .int .i64 100, .slice none 0 0, .slice none 0 0, .int .i64 (a2 % 3), .int .u32 0, .int .i64 0, .int .i64 1, .int .i64 0, .slice (some ⟨gq + 1, 0, none⟩) 1 1, .int .u32 0, .int .i64 (-1), .int .i64 100, .slice none 0 0, .slice none 0 0, .int .i64 (a1 % 3)] 41)) (Kd.C_alloc CI.out _) (Nat.le_refl _) (C_block2 (c1 := [.int .u32 0, .int .i64 0, .int .i64 2, .int .i64 0, .slice (some ⟨gq + 1, 0, none⟩) 1 1, .int .u32 0, .int .i64 (-1), .int .i64 100, .slice none 0 0, .slice none 0 0, .int .i64 (a2 % 3)]) (c2 := [.int .u32 0, .int .i64 0, .int .i64 1, .int .i64 0, .slice (some ⟨gq + 1, 0, none⟩) 1 1, .int .u32 0, .int .i64 (-1), .int .i64 100, .slice none 0 0, .slice none 0 0, .int .i64 (a1 % 3)]) (alloc_at w1 _) rfl rfl (k41_mk _ (⟨(⟨0, 0⟩ : S34), 2, (⟨0, [(⟨false, [7, 8]⟩ : S47)], 0, (-1), 100, [], []⟩ : S39), a2 % 3⟩ : S41) (Nat.le_refl _) (Kd.C_alloc CY.out _) (Nat.le_refl _) (Kd.C_nil _ _) (Nat.le_refl _) (Kd.C_nil _ _)) (k41_mk _ (⟨(⟨0, 0⟩ : S34), 1, (⟨0, [(⟨false, [7, 8]⟩ : S47)], 0, (-1), 100, [], []⟩ : S39), a1 % 3⟩ : S41) (Nat.le_refl _) (Kd.C_alloc CX.out _) (Nat.le_refl _) (Kd.C_nil _ _) (Nat.le_refl _) (Kd.C_nil _ _))) (Nat.le_refl _) HF2.out).mono ?_
      rintro e w2 ⟨rfl, hb1⟩
      have hbw : Below w1.heap.size w1 w2 := (below_alloc (Below.refl _ _) _).trans (hb1.mono (by simp))
      replace HB := Aside0.mk (HB.out.trans (hbw.mono HB.out.size))
      replace BX := Aside0.mk ((hbw.block g7 (blk_lt BX.out)).trans BX.out)
      replace BY := Aside0.mk ((hbw.block g8 (blk_lt BY.out)).trans BY.out)
      replace CI := Aside0.mk (Kd.C_below CI.out hbw)
      replace CX := Aside0.mk (Kd.C_below CX.out hbw)
      replace CY := Aside0.mk (Kd.C_below CY.out hbw)
      clear hb1 hbw hx0 hy0 hx1 hy1 hx2 hy2 hx3 hy3 hx4 hy4 hx5 hy5 hx6 hy6 hx7 hy7 hx8 hy8 hx9 hy9 hx10 hy10
      go_wp2_with fail
      refine (interregnumlaw15_answers.calls true _ HANS.out).mono ?_
      rintro e w3 ⟨rfl, hb1⟩
      replace HB := Aside0.mk (HB.out.trans (hb1.mono HB.out.size))
      clear hb1
      go_wp2
      go_ret
      exact ⟨by first | rfl | (simp; done), HB.out⟩
    · have Z_ := HB
      clear Z_
      have ea0 : decide (a1 % 3 = 2) = false := decide_eq_false h6a
      have ea1 : (a1 % 3 == 2) = false := beq_eq_false_iff_ne.2 h6a
      have ea2 : (a1 % 3 != 2) = true := by simp [h6a]
      have eb0 : decide (a2 % 3 = 2) = false := decide_eq_false h6b
      have eb1 : (a2 % 3 == 2) = false := beq_eq_false_iff_ne.2 h6b
      have eb2 : (a2 % 3 != 2) = true := by simp [h6b]
      rw [ea0, eb0] at HF1 HF2
      clear h6a h6b
      replace HF1 := Aside0.mk (show decide_Best.f 1 [(⟨1, 2, 5⟩ : S49), (⟨2, 2, 5⟩ : S49)] [(⟨(⟨0, 0⟩ : S34), 1, (⟨0, [(⟨false, [7, 8]⟩ : S47)], 0, (-1), 100, [], []⟩ : S39), a1 % 3⟩ : S41), (⟨(⟨0, 0⟩ : S34), 2, (⟨0, [(⟨false, [7, 8]⟩ : S47)], 0, (-1), 100, [], []⟩ : S39), a2 % 3⟩ : S41)] = some (0, true) from HF1.out)
      replace HF2 := Aside0.mk (show decide_Best.f 1 [(⟨1, 2, 5⟩ : S49), (⟨2, 2, 5⟩ : S49)] [(⟨(⟨0, 0⟩ : S34), 2, (⟨0, [(⟨false, [7, 8]⟩ : S47)], 0, (-1), 100, [], []⟩ : S39), a2 % 3⟩ : S41), (⟨(⟨0, 0⟩ : S34), 1, (⟨0, [(⟨false, [7, 8]⟩ : S47)], 0, (-1), 100, [], []⟩ : S39), a1 % 3⟩ : S41)] = some (1, true) from HF2.out)
      go_upto_region 29 with (fail)
      clear ea0 ea1 ea2 eb0 eb1 eb2
      clear hw1 hw2 hm1 hv1 hm2 hv2
      have far : ∀ (k : Nat), k ≠ g7 → k ≠ g8 → ((wc.setCell ⟨g7, 10, none⟩ (.int .i64 (a1 % 3))).setCell ⟨g8, 10, none⟩ (.int .i64 (a2 % 3))).heap[k]? = wc.heap[k]? := fun k h1 h2 => (Below.heap_setCell _ ⟨g8, _, none⟩ _ k h2).trans (Below.heap_setCell _ ⟨g7, _, none⟩ _ k h1)
      replace BX := Aside0.mk (show ((wc.setCell ⟨g7, 10, none⟩ (.int .i64 (a1 % 3))).setCell ⟨g8, 10, none⟩ (.int .i64 (a2 % 3))).heap[g7]? = some (.cells #[.int .u32 0, .int .i64 0, .int .i64 1, .int .i64 0, .slice (some ⟨gq + 1, 0, none⟩) 1 1, .int .u32 0, .int .i64 (-1), .int .i64 100, .slice none 0 0, .slice none 0 0, .int .i64 (a1 % 3)] 41 (0, 0)) from (Below.heap_setCell _ ⟨g8, _, none⟩ _ g7 n78).trans (blk_put BX.out 10 _ rfl))
      replace BY := Aside0.mk (show ((wc.setCell ⟨g7, 10, none⟩ (.int .i64 (a1 % 3))).setCell ⟨g8, 10, none⟩ (.int .i64 (a2 % 3))).heap[g8]? = some (.cells #[.int .u32 0, .int .i64 0, .int .i64 2, .int .i64 0, .slice (some ⟨gq + 1, 0, none⟩) 1 1, .int .u32 0, .int .i64 (-1), .int .i64 100, .slice none 0 0, .slice none 0 0, .int .i64 (a2 % 3)] 41 (0, 0)) from blk_put ((Below.heap_setCell _ ⟨g7, _, none⟩ _ g8 n87).trans BY.out) 10 _ rfl)
      replace BI := Aside0.mk ((far gi (by have := GE.out; omega) (by have := GE.out; omega)).trans BI.out)
      replace BQ := Aside0.mk ((far gq (by have := GE.out; omega) (by have := GE.out; omega)).trans BQ.out)
      replace BP := Aside0.mk ((far (gq + 1) (by have := GE.out; omega) (by have := GE.out; omega)).trans BP.out)
      replace HB := Aside0.mk (Below.setCell (p := ⟨g8, 10, none⟩) (Below.setCell (p := ⟨g7, 10, none⟩) HB.out (by have := GE.out; have := HGQ.out; show _ ≤ g7; omega) (.int .i64 (a1 % 3))) (by have := GE.out; have := HGQ.out; show _ ≤ g8; omega) (.int .i64 (a2 % 3)))
      clear far n78 n87 hx10 hfx10 hy10 hfy10
      generalize ((wc.setCell ⟨g7, 10, none⟩ (.int .i64 (a1 % 3))).setCell ⟨g8, 10, none⟩ (.int .i64 (a2 % 3))) = wt at BX BY BI BQ BP HB ⊢
      have CQ := (C_block2 (c1 := [.int .i64 7]) (c2 := [.int .i64 8]) (x := (7 : Int)) (y := 8) (d := Kd.int .i64) BQ.out rfl rfl rfl rfl)
      have CX := Aside0.mk (C_block1 (c := [.bool false, .slice (some ⟨gq, 0, none⟩) 2 2]) (x := (⟨false, [7, 8]⟩ : S47)) (d := k47) BP.out rfl (k47_mk _ _ (Nat.le_refl _) CQ))
      have CY := Aside0.mk CX.out
      have CI := Aside0.mk (C_block2 (c1 := [.int .i64 1, .int .i64 2, .int .u32 5]) (c2 := [.int .i64 2, .int .i64 2, .int .u32 5]) (x := (⟨1, 2, 5⟩ : S49)) (y := (⟨2, 2, 5⟩ : S49)) (d := k49) BI.out rfl rfl (k49_mk _ _) (k49_mk _ _))
      clear CQ BQ BP BI
      have hx0 : wt.cell? ⟨g7, 0, none⟩ = some (.int .u32 0) := (blk_cell BX.out 0).trans rfl
      have hy0 : wt.cell? ⟨g8, 0, none⟩ = some (.int .u32 0) := (blk_cell BY.out 0).trans rfl
      have hx1 : wt.cell? ⟨g7, 1, none⟩ = some (.int .i64 0) := (blk_cell BX.out 1).trans rfl
      have hy1 : wt.cell? ⟨g8, 1, none⟩ = some (.int .i64 0) := (blk_cell BY.out 1).trans rfl
      have hx2 : wt.cell? ⟨g7, 2, none⟩ = some (.int .i64 1) := (blk_cell BX.out 2).trans rfl
      have hy2 : wt.cell? ⟨g8, 2, none⟩ = some (.int .i64 2) := (blk_cell BY.out 2).trans rfl
      have hx3 : wt.cell? ⟨g7, 3, none⟩ = some (.int .i64 0) := (blk_cell BX.out 3).trans rfl
      have hy3 : wt.cell? ⟨g8, 3, none⟩ = some (.int .i64 0) := (blk_cell BY.out 3).trans rfl
      have hx4 : wt.cell? ⟨g7, 4, none⟩ = some (.slice (some ⟨gq + 1, 0, none⟩) 1 1) := (blk_cell BX.out 4).trans rfl
      have hy4 : wt.cell? ⟨g8, 4, none⟩ = some (.slice (some ⟨gq + 1, 0, none⟩) 1 1) := (blk_cell BY.out 4).trans rfl
      have hx5 : wt.cell? ⟨g7, 5, none⟩ = some (.int .u32 0) := (blk_cell BX.out 5).trans rfl
      have hy5 : wt.cell? ⟨g8, 5, none⟩ = some (.int .u32 0) := (blk_cell BY.out 5).trans rfl
      have hx6 : wt.cell? ⟨g7, 6, none⟩ = some (.int .i64 (-1)) := (blk_cell BX.out 6).trans rfl
      have hy6 : wt.cell? ⟨g8, 6, none⟩ = some (.int .i64 (-1)) := (blk_cell BY.out 6).trans rfl
      have hx7 : wt.cell? ⟨g7, 7, none⟩ = some (.int .i64 100) := (blk_cell BX.out 7).trans rfl
      have hy7 : wt.cell? ⟨g8, 7, none⟩ = some (.int .i64 100) := (blk_cell BY.out 7).trans rfl
      have hx8 : wt.cell? ⟨g7, 8, none⟩ = some (.slice none 0 0) := (blk_cell BX.out 8).trans rfl
      have hy8 : wt.cell? ⟨g8, 8, none⟩ = some (.slice none 0 0) := (blk_cell BY.out 8).trans rfl
      have hx9 : wt.cell? ⟨g7, 9, none⟩ = some (.slice none 0 0) := (blk_cell BX.out 9).trans rfl
      have hy9 : wt.cell? ⟨g8, 9, none⟩ = some (.slice none 0 0) := (blk_cell BY.out 9).trans rfl
      have hx10 : wt.cell? ⟨g7, 10, none⟩ = some (.int .i64 (a1 % 3)) := (blk_cell BX.out 10).trans rfl
      have hy10 : wt.cell? ⟨g8, 10, none⟩ = some (.int .i64 (a2 % 3)) := (blk_cell BY.out 10).trans rfl
      go_wp2_with fail
      refine (decide_Best.calls 1 (some ⟨gi, 0, none⟩) 2 [(⟨1, 2, 5⟩ : S49), (⟨2, 2, 5⟩ : S49)] (some ⟨wt.heap.size, 0, none⟩) 2 [(⟨(⟨0, 0⟩ : S34), 1, (⟨0, [(⟨false, [7, 8]⟩ : S47)], 0, (-1), 100, [], []⟩ : S39), a1 % 3⟩ : S41), (⟨(⟨0, 0⟩ : S34), 2, (⟨0, [(⟨false, [7, 8]⟩ : S47)], 0, (-1), 100, [], []⟩ : S39), a2 % 3⟩ : S41)] 0 true (wt.alloc (.cells #[.int .u32 0, .int .i64 0, .int .i64 1, .int .i64 0, .slice (some ⟨gq + 1, 0, none⟩) 1 1, .int .u32 0, .int .i64 (-1), .int .i64 100, .slice none 0 0, .slice none 0 0, .int .i64 (a1 % 3), .int .u32 0, .int .i64 0, .int .i64 2, .int .i64 0, .slice (some ⟨gq + 1, 0, none⟩) 1 1, .int .u32 0, .int .i64 (-1), .int .i64 100, .slice none 0 0, .slice none 0 0, .int .i64 (a2 % 3)] 41)) (Kd.C_alloc CI.out _) (Nat.le_refl _) (C_block2 (c1 := [.int .u32 0, .int .i64 0, .int .i64 1, .int .i64 0, .slice (some ⟨gq + 1, 0, none⟩) 1 1, .int .u32 0, .int .i64 (-1), .int .i64 100, .slice none 0 0, .slice none 0 0, .int .i64 (a1 % 3)]) (c2 := [.int .u32 0, .int .i64 0, .int .i64 2, .int .i64 0, .slice (some ⟨gq + 1, 0, none⟩) 1 1, .int .u32 0, .int .i64 (-1), .int .i64 100, .slice none 0 0, .slice none 0 0, .int .i64 (a2 % 3)]) (alloc_at wt _) rfl rfl (k41_mk _ (⟨(⟨0, 0⟩ : S34), 1, (⟨0, [(⟨false, [7, 8]⟩ : S47)], 0, (-1), 100, [], []⟩ : S39), a1 % 3⟩ : S41) (Nat.le_refl _) (Kd.C_alloc CX.out _) (Nat.le_refl _) (Kd.C_nil _ _) (Nat.le_refl _) (Kd.C_nil _ _)) (k41_mk _ (⟨(⟨0, 0⟩ : S34), 2, (⟨0, [(⟨false, [7, 8]⟩ : S47)], 0, (-1), 100, [], []⟩ : S39), a2 % 3⟩ : S41) (Nat.le_refl _) (Kd.C_alloc CY.out _) (Nat.le_refl _) (Kd.C_nil _ _) (Nat.le_refl _) (Kd.C_nil _ _))) (Nat.le_refl _) HF1.out).mono ?_
      rintro e w1 ⟨rfl, hb1⟩
      have hbw : Below wt.heap.size wt w1 := (below_alloc (Below.refl _ _) _).trans (hb1.mono (by simp))
      replace HB := Aside0.mk (HB.out.trans (hbw.mono HB.out.size))
      replace BX := Aside0.mk ((hbw.block g7 (blk_lt BX.out)).trans BX.out)
      replace BY := Aside0.mk ((hbw.block g8 (blk_lt BY.out)).trans BY.out)
      replace CI := Aside0.mk (Kd.C_below CI.out hbw)
      replace CX := Aside0.mk (Kd.C_below CX.out hbw)
      replace CY := Aside0.mk (Kd.C_below CY.out hbw)
      clear hb1 hbw hx0 hy0 hx1 hy1 hx2 hy2 hx3 hy3 hx4 hy4 hx5 hy5 hx6 hy6 hx7 hy7 hx8 hy8 hx9 hy9 hx10 hy10
      have hx0 : w1.cell? ⟨g7, 0, none⟩ = some (.int .u32 0) := (blk_cell BX.out 0).trans rfl
      have hy0 : w1.cell? ⟨g8, 0, none⟩ = some (.int .u32 0) := (blk_cell BY.out 0).trans rfl
      have hx1 : w1.cell? ⟨g7, 1, none⟩ = some (.int .i64 0) := (blk_cell BX.out 1).trans rfl
      have hy1 : w1.cell? ⟨g8, 1, none⟩ = some (.int .i64 0) := (blk_cell BY.out 1).trans rfl
      have hx2 : w1.cell? ⟨g7, 2, none⟩ = some (.int .i64 1) := (blk_cell BX.out 2).trans rfl
      have hy2 : w1.cell? ⟨g8, 2, none⟩ = some (.int .i64 2) := (blk_cell BY.out 2).trans rfl
      have hx3 : w1.cell? ⟨g7, 3, none⟩ = some (.int .i64 0) := (blk_cell BX.out 3).trans rfl
      have hy3 : w1.cell? ⟨g8, 3, none⟩ = some (.int .i64 0) := (blk_cell BY.out 3).trans rfl
      have hx4 : w1.cell? ⟨g7, 4, none⟩ = some (.slice (some ⟨gq + 1, 0, none⟩) 1 1) := (blk_cell BX.out 4).trans rfl
      have hy4 : w1.cell? ⟨g8, 4, none⟩ = some (.slice (some ⟨gq + 1, 0, none⟩) 1 1) := (blk_cell BY.out 4).trans rfl
      have hx5 : w1.cell? ⟨g7, 5, none⟩ = some (.int .u32 0) := (blk_cell BX.out 5).trans rfl
      have hy5 : w1.cell? ⟨g8, 5, none⟩ = some (.int .u32 0) := (blk_cell BY.out 5).trans rfl
      have hx6 : w1.cell? ⟨g7, 6, none⟩ = some (.int .i64 (-1)) := (blk_cell BX.out 6).trans rfl
      have hy6 : w1.cell? ⟨g8, 6, none⟩ = some (.int .i64 (-1)) := (blk_cell BY.out 6).trans rfl
      have hx7 : w1.cell? ⟨g7, 7, none⟩ = some (.int .i64 100) := (blk_cell BX.out 7).trans rfl
      have hy7 : w1.cell? ⟨g8, 7, none⟩ = some (.int .i64 100) := (blk_cell BY.out 7).trans rfl
      have hx8 : w1.cell? ⟨g7, 8, none⟩ = some (.slice none 0 0) := (blk_cell BX.out 8).trans rfl
      have hy8 : w1.cell? ⟨g8, 8, none⟩ = some (.slice none 0 0) := (blk_cell BY.out 8).trans rfl
      have hx9 : w1.cell? ⟨g7, 9, none⟩ = some (.slice none 0 0) := (blk_cell BX.out 9).trans rfl
      have hy9 : w1.cell? ⟨g8, 9, none⟩ = some (.slice none 0 0) := (blk_cell BY.out 9).trans rfl
      have hx10 : w1.cell? ⟨g7, 10, none⟩ = some (.int .i64 (a1 % 3)) := (blk_cell BX.out 10).trans rfl
      have hy10 : w1.cell? ⟨g8, 10, none⟩ = some (.int .i64 (a2 % 3)) := (blk_cell BY.out 10).trans rfl
      go_wp2_with fail
      refine (decide_Best.calls 1 (some ⟨gi, 0, none⟩) 2 [(⟨1, 2, 5⟩ : S49), (⟨2, 2, 5⟩ : S49)] (some ⟨w1.heap.size, 0, none⟩) 2 [(⟨(⟨0, 0⟩ : S34), 2, (⟨0, [(⟨false, [7, 8]⟩ : S47)], 0, (-1), 100, [], []⟩ : S39), a2 % 3⟩ : S41), (⟨(⟨0, 0⟩ : S34), 1, (⟨0, [(⟨false, [7, 8]⟩ : S47)], 0, (-1), 100, [], []⟩ : S39), a1 % 3⟩ : S41)] 1 true (w1.alloc (.cells #[.int .u32 0, .int .i64 0, .int .i64 2, .int .i64 0, .slice (some ⟨gq + 1, 0, none⟩) 1 1, .int .u32 0, .int .i64 (-1), .int .i64 100, .slice none 0 0, .slice none 0 0, .int .i64 (a2 % 3), .int .u32 0, .int .i64 0, .int .i64 1, .int .i64 0, .slice (some ⟨gq + 1, 0, none⟩) 1 1, .int .u32 0, .int .i64 (-1), .int .i64 100, .slice none 0 0, .slice none 0 0, .int .i64 (a1 % 3)] 41)) (Kd.C_alloc CI.out _) (Nat.le_refl _) (C_block2 (c1 := [.int .u32 0, .int .i64 0, .int .i64 2, .int .i64 0, .slice (some ⟨gq + 1, 0, none⟩) 1 1, .int .u32 0, .int .i64 (-1), .int .i64 100, .slice none 0 0, .slice none 0 0, .int .i64 (a2 % 3)]) (c2 := [.int .u32 0, .int .i64 0, .int .i64 1, .int .i64 0, .slice (some ⟨gq + 1, 0, none⟩) 1 1, .int .u32 0, .int .i64 (-1), .int .i64 100, .slice none 0 0, .slice none 0 0, .int .i64 (a1 % 3)]) (alloc_at w1 _) rfl rfl (k41_mk _ (⟨(⟨0, 0⟩ : S34), 2, (⟨0, [(⟨false, [7, 8]⟩ : S47)], 0, (-1), 100, [], []⟩ : S39), a2 % 3⟩ : S41) (Nat.le_refl _) (Kd.C_alloc CY.out _) (Nat.le_refl _) (Kd.C_nil _ _) (Nat.le_refl _) (Kd.C_nil _ _)) (k41_mk _ (⟨(⟨0, 0⟩ : S34), 1, (⟨0, [(⟨false, [7, 8]⟩ : S47)], 0, (-1), 100, [], []⟩ : S39), a1 % 3⟩ : S41) (Nat.le_refl _) (Kd.C_alloc CX.out _) (Nat.le_refl _) (Kd.C_nil _ _) (Nat.le_refl _) (Kd.C_nil _ _))) (Nat.le_refl _) HF2.out).mono ?_
      rintro e w2 ⟨rfl, hb1⟩
      have hbw : Below w1.heap.size w1 w2 := (below_alloc (Below.refl _ _) _).trans (hb1.mono (by simp))
      replace HB := Aside0.mk (HB.out.trans (hbw.mono HB.out.size))
      replace BX := Aside0.mk ((hbw.block g7 (blk_lt BX.out)).trans BX.out)
      replace BY := Aside0.mk ((hbw.block g8 (blk_lt BY.out)).trans BY.out)
      replace CI := Aside0.mk (Kd.C_below CI.out hbw)
      replace CX := Aside0.mk (Kd.C_below CX.out hbw)
      replace CY := Aside0.mk (Kd.C_below CY.out hbw)
      clear hb1 hbw hx0 hy0 hx1 hy1 hx2 hy2 hx3 hy3 hx4 hy4 hx5 hy5 hx6 hy6 hx7 hy7 hx8 hy8 hx9 hy9 hx10 hy10
      go_wp2_with fail
      refine (interregnumlaw15_answers.calls true _ HANS.out).mono ?_
      rintro e w3 ⟨rfl, hb1⟩
      replace HB := Aside0.mk (HB.out.trans (hb1.mono HB.out.size))
      clear hb1
      go_wp2
      go_ret
      exact ⟨by first | rfl | (simp; done), HB.out⟩
def interregnumlaw15_DecideSteps.f (a0 a1 a2 : Int) : Option Bool := if stepsOk a0 a1 a2 then some true else none
theorem interregnumlaw15_DecideSteps.calls (a0 a1 a2 : Int) (r : Bool) (w : World) (h : interregnumlaw15_DecideSteps.f a0 a1 a2 = some r) :
    Calls Try.prog 7 #[.int .u8 a0, .int .u16 a1, .int .u16 a2] w fun e w' => e = .returned (.bool r) ∧ Below w.heap.size w w' := by
  unfold interregnumlaw15_DecideSteps.f at h
  split at h
  case isFalse => cases h
  case isTrue hc =>
  obtain rfl := Option.some.inj h
  exact steps_walk a0 a1 a2 w hc


end Go.Proofs.Ytediicgkcgfghaa.PDecideSteps
