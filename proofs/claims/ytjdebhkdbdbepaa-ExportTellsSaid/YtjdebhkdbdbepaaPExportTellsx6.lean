-- Lean text by a program of this repo (wip/tools/printx.py), out of Lean's own print of the translation
import Derived.Shelf.Abstract
import Derived.RangeFuncLeaves
import Derived.RangeFuncCalls
import Derived.RangeFuncBound
import Derived.RangeFuncNested
import Derived.Test.YtjdebhkdbdbepaaOwn
import Derived.Test.YtjdebhkdbdbepaaInts
import Derived.Test.YtjdebhkdbdbepaaMid
import Derived.Test.YtjdebhkdbdbepaaHelp
import Derived.ArgAppend
import Derived.Test.YtjdebhkdbdbepaaPExportTellsx0
import Derived.Test.YtjdebhkdbdbepaaPExportTellsx3
import Derived.Test.YtjdebhkdbdbepaaPExportTellsx4
import Derived.Test.YtjdebhkdbdbepaaPExportTellsx5
namespace Go.Proofs.Ytjdebhkdbdbepaa.PExportTells
open Go.RowKit Go.Proofs.YtjdebhkdbdbepaaW.PrintWords Go.Proofs.YtjdebhkdbdbepaaW.PrintLast Go.Proofs.YtjdebhkdbdbepaaW.PrintMore
attribute [local go_sem] max2_int min2_int max_two min_two max_three min_three max_four min_four   -- for this text's walks alone
set_option linter.unusedVariables false
set_option linter.unusedSimpArgs false

-- NOT PRINTED: function 51 (slices_BinarySearchFunc_export_Told_export_Told_api_Prefix)

-- NOT PRINTED: function 67 (cmp_Or_int)

-- NOT PRINTED: function 76 (cmp_isNaN_uint32)

-- NOT PRINTED: function 68 (cmp_Compare_uint32)

-- NOT PRINTED: function 77 (cmp_isNaN_int)

-- NOT PRINTED: function 69 (cmp_Compare_int)

-- NOT PRINTED: function 53 (prefix_Compare)

-- NOT PRINTED: function 52 (export_find_1)

-- NOT PRINTED: function 32 (export_find)

-- NOT PRINTED: function 54 (slices_Chunk_api_Prefix_api_Prefix_1)

-- NOT PRINTED: function 33 (slices_Chunk_api_Prefix_api_Prefix)

-- NOT PRINTED: function 34 (slices_Clone_api_Prefix_api_Prefix)

-- NOT PRINTED: function 70 (slices_EqualFunc_api_Segment_api_Segment_api_Segment_api_Segment)

-- NOT PRINTED: function 72 (slices_Equal_int_int)

-- NOT PRINTED: function 71 (path_Same_1)

-- NOT PRINTED: function 55 (path_Same)

-- NOT PRINTED: function 56 (slices_Equal_uint32_uint32)

-- NOT PRINTED: function 57 (slices_EqualFunc_api_Raw_api_Raw_api_Raw_api_Raw)

-- NOT PRINTED: function 59 (bytes_Equal)

-- NOT PRINTED: function 58 (attr_Same_1)

-- NOT PRINTED: function 35 (attr_Same)

-- NOT PRINTED: function 17 (export_Delta)

/-! ### interregnumlaw16_answers: function 9 -/
-- FN rounds=0 making=1
-- IMPORT Derived.ArgAppend
-- IMPORT Derived.Test.YtjdebhkdbdbepaaHelp
-- IMPORT Derived.Test.YtjdebhkdbdbepaaMid
-- IMPORT Derived.Test.YtjdebhkdbdbepaaInts
-- IMPORT Derived.Test.YtjdebhkdbdbepaaOwn
-- IMPORT Derived.RangeFuncNested
-- IMPORT Derived.RangeFuncBound
-- IMPORT Derived.RangeFuncCalls
-- IMPORT Derived.RangeFuncLeaves
-- IMPORT Derived.Shelf.Abstract
open Go.Proofs.Ytjdebhkdbdbepaa.Ints
open Go.Proofs.Ytjdebhkdbdbepaa.Own
open Go.Proofs.Ytjdebhkdbdbepaa.Help
open Go.Proofs.Ytjdebhkdbdbepaa.Mid
section
variable {P : Program} {ops : Array Oper} {rest : List Oper} {o : Oper} {a : Act} {W : World} {Q : Exit → Act → World → Prop}
/-- A slice of one element that is written out. -/
theorem lit_event (hgd : o.guard = none) {N : Tmp} (hd : o.dst = some N) {inner : Array Value} {e : TypeId} {n : Nat}
    (hrun : (execOp a.eval o).run P W = .ok (.value (.slice (some ⟨W.heap.size, 0, none⟩) n n)) (W.alloc (.cells inner e)))
    (h : ∀ g w1, g = W.heap.size → w1.heap[g]? = some (.cells inner e (0, 0)) → Below W.heap.size W w1 → wpList P ops Q rest (a.put o.dst (.slice (some ⟨g, 0, none⟩) n n)) w1) : wpList P ops Q (o :: rest) a W :=
  Kd.event_run hgd hrun (h _ _ rfl (alloc_at _ _) (below_alloc (Below.refl _ _) _))
end
theorem told_pre (xa xl o : Int) (A1 : Option Addr) (n1 c1 : Nat) (nx md pr : Int) (A5 : Option Addr) (n5 c5 : Nat) (A6 : Option Addr) (n6 c6 : Nat) : ∀ (j : Nat) (v : Value), ([.int .u32 xa, .int .i64 xl] : List Value)[j]? = some v → (#[.int .u32 xa, .int .i64 xl, .int .i64 o, .slice A1 n1 c1, .int .u32 nx, .int .i64 md, .int .i64 pr, .slice A5 n5 c5, .slice A6 n6 c6] : Array Value).toList[0 + j]? = some v := by
  intro j v h
  match j with
  | 0 => exact h
  | 1 => exact h
  | j + 2 => simp at h
theorem told_att (xa xl o : Int) (A1 : Option Addr) (n1 c1 : Nat) (nx md pr : Int) (A5 : Option Addr) (n5 c5 : Nat) (A6 : Option Addr) (n6 c6 : Nat) : ∀ (j : Nat) (v : Value), ([.int .i64 o, .slice A1 n1 c1, .int .u32 nx, .int .i64 md, .int .i64 pr, .slice A5 n5 c5, .slice A6 n6 c6] : List Value)[j]? = some v → (#[.int .u32 xa, .int .i64 xl, .int .i64 o, .slice A1 n1 c1, .int .u32 nx, .int .i64 md, .int .i64 pr, .slice A5 n5 c5, .slice A6 n6 c6] : Array Value).toList[2 + j]? = some v := by
  intro j v h
  match j with
  | 0 => exact h
  | 1 => exact h
  | 2 => exact h
  | 3 => exact h
  | 4 => exact h
  | 5 => exact h
  | 6 => exact h
  | j + 7 => simp at h
/-- Any cells, n in one element. -/
def rawK (n : Nat) : Kd { x : List Value // x.length = n ∧ ∀ u ∈ x, u.oneCell' = true } where
  sz := n
  E := []
  K := fun _ x cs => cs = x.1
  M := fun _ _ _ x cs => cs = x.1
  K_len := fun {w x cs} h => by rw [h]; exact x.2.1
  K_one := fun {w x cs} h u hu => by rw [h] at hu; exact x.2.2 u hu
  K_below := fun _ h => h
  K_of_M := fun h => h
  M_mono := fun _ h => h
  M_bound := fun h => h
  M_move := fun _ h => h
  M_lower := fun _ h => h
structure DS where
  B1 : Option Addr
  d1 : Nat
  B5 : Option Addr
  B6 : Option Addr
  gP : Nat
def ds0 : DS := ⟨none, 0, none, none, 0⟩
/-- What holds in the region that makes the update. -/
def dF (w : World) (go gy D : Nat) (told : Array Value) (w' : World) : Prop := Below w.heap.size w w' ∧ w'.heap[go]? = some (.cells #[.slice none 0 0] 50 (0, 0)) ∧ w'.heap[gy]? = some (.cells told 54 (0, 0)) ∧ w'.heap[D]? = some (.deferred (some []))
theorem dF_below {w W w1 : World} {go gy D : Nat} {told : Array Value} (h : dF w go gy D told W) (hb : Below W.heap.size W w1) : dF w go gy D told w1 := by
  obtain ⟨h1, h2, h4, h5⟩ := h
  exact ⟨below_step h1 hb, (hb.block _ (blk_lt h2)).trans h2, (hb.block _ (blk_lt h4)).trans h4, (hb.block _ (blk_lt h5)).trans h5⟩
/-- The way out by a panic is shut. -/
def noPanic (Q : Exit → Act → World → Prop) : Exit → Act → World → Prop
  | .panic _, _, _ => False
  | e, a, w => Q e a w
theorem wp_noPanic {P : Program} {c : Code} {Q : Exit → Act → World → Prop} {a : Act} {w : World} (h : c.wp P (noPanic Q) a w) : c.wp P Q a w :=
  Code.wp_mono (fun e a w h => by cases e <;> first | exact h | exact h.elim) h
theorem raw_cell {n e : Nat} {w : World} {base : Nat} {ok : Nat → Prop} {g m c : Nat} {p : { x : List Value // x.length = n ∧ ∀ u ∈ x, u.oneCell' = true }} (h : (rawK n).R e w base ok (.slice (some ⟨g, 0, none⟩) m c) ([] ++ [p])) (j : Nat) (u : Value) (hj : p.1[j]? = some u) : w.cell? ⟨g, j, none⟩ = some u := by
  obtain ⟨h1, h2, h3⟩ := Kd.R_reads' h
  obtain ⟨ad, cs, hA, _, hK, hc⟩ := Kd.C_get h3 p 0 (by omega) (by simp)
  injection hA with hA
  subst hA
  have hK' : cs = p.1 := hK
  subst hK'
  have h4 := hc j u hj
  rcases Nat.eq_zero_or_pos j with hj0 | hj0
  · subst hj0
    simpa [Addr.add] using h4
  · have : j ≠ 0 := by omega
    simpa [Addr.add, this] using h4
set_option maxHeartbeats 4000000 in
set_option maxRecDepth 100000 in
theorem bsf_nil (a b : Int) (f : Value) (w : World) : Calls Try.prog 51 #[.slice none 0 0, .agg #[.int .u32 a, .int .i64 b], f] w fun e w' => e = .returned (.tuple #[.int .i64 0, .bool false]) ∧ Below w.heap.size w w' := by
  have hu29 := Try.underlying29
  have HB := Aside0.mk (Below.refl w.heap.size w)
  go_enter Try.func51, Try.ntmps51
  go_wp2
  go_loopg [9, 10] 1 (fun kq v9 v10 wr => v9 = .int .i64 0 ∧ v10 = .int .i64 0 ∧ Aside0 (Below w.heap.size w wr))
  case atStart => exact ⟨rfl, rfl, ⟨by repeat (first | exact HB.out | apply below_alloc | apply pw_below_drewN | apply below_drew1)⟩⟩
  case round =>
    obtain ⟨rfl, rfl, HB2⟩ := hrel
    go_upto_region 8 with (fail)
    go_quiet (fail)
    go_wp2
    go_ret2
    exact ⟨rfl, by repeat (first | exact HB2.out | apply below_alloc | apply pw_below_drewN | apply below_drew1)⟩
set_option maxHeartbeats 4000000 in
set_option maxRecDepth 100000 in
theorem find_nil (a b : Int) (w : World) : Calls Try.prog 32 #[.slice none 0 0, .agg #[.int .u32 a, .int .i64 b]] w fun e w' => e = .returned (.tuple #[.agg #[.int .u32 0, .int .i64 0, .int .i64 0, .slice none 0 0, .int .u32 0, .int .i64 0, .int .i64 0, .slice none 0 0, .slice none 0 0], .bool false]) ∧ Below w.heap.size w w' := by
  have hu29 := Try.underlying29
  have HB := Aside0.mk (Below.refl w.heap.size w)
  go_enter Try.func32, Try.ntmps32
  go_wp2_with (first | ((with_reducible refine gate_dst (N := 3) rfl ?_); refine box_event ?hg (N := 3) ?hd (cs := #[.int .u32 a, .int .i64 b]) (t := 29) ?hr ?_; (case hd => rfl); (case hg => rfl); (case hr => first | (go_simp; done) | (go_simp; rfl)); intro gp hg w1 hbox hb; have HB1 := Aside0.mk (below_step HB.out hb); have BKP1 := Aside0.mk hbox; have GEP := Aside0.mk (show w.heap.size ≤ gp from by rw [hg]; exact Nat.le_refl _); clear hbox hb hg) | ((with_reducible refine gate_dst (N := 4) rfl ?_); refine box_event ?hg (N := 4) ?hd (cs := #[.int .u32 0, .int .i64 0, .int .i64 0, .slice none 0 0, .int .u32 0, .int .i64 0, .int .i64 0, .slice none 0 0, .slice none 0 0]) (t := 54) ?hr ?_; (case hd => rfl); (case hg => rfl); (case hr => first | (go_simp; done) | (go_simp; rfl)); intro ga hg w2 hbox hb; have BKP2 := Aside0.mk ((hb.block _ (blk_lt BKP1.out)).trans BKP1.out); have HB2 := Aside0.mk (below_step HB1.out hb); have BKA2 := Aside0.mk hbox; have GEA := Aside0.mk (show gp < ga from by rw [hg]; exact blk_lt BKP1.out); have hp0 : w2.cell? ⟨gp, 0, none⟩ = some (.int .u32 a) := (blk_cell BKP2.out 0).trans rfl; have hp1 : w2.cell? ⟨gp, 1, none⟩ = some (.int .i64 b) := (blk_cell BKP2.out 1).trans rfl; clear hbox hb hg) | (go_at_call 51; refine (bsf_nil a b _ _).mono ?_; rintro e w3 ⟨rfl, hb⟩; have BKA3 := Aside0.mk ((hb.block _ (blk_lt BKA2.out)).trans BKA2.out); have HB3 := Aside0.mk (below_step HB2.out hb); clear hb hp0 hp1) | ((with_reducible refine gate_store (t := 54) (p := 4) rfl ?_); refine store_new rfl 54 (.tmp 4) (.tmp 16) rfl [.int .u32 0, .int .i64 0, .int .i64 0, .slice none 0 0, .int .u32 0, .int .i64 0, .int .i64 0, .slice none 0 0, .slice none 0 0] (by rfl) (by rfl) BKA3.out (by rfl) (by kernel_rfl) (by intro v hv; simp only [List.mem_cons, List.not_mem_nil, or_false] at hv; rcases hv with rfl | rfl | rfl | rfl | rfl | rfl | rfl | rfl | rfl <;> rfl) ?_; intro w4 hx hg hs; have BKF := Aside0.mk hx; have HBF := Aside0.mk (HB3.out.grown hg HB3.out.size (fun k e => by injection e with e; have := GEP.out; have := GEA.out; omega)); clear hx hg hs))
  refine bodyPost_ret (results_ct rfl _ _ ga 54 #[.int .u32 0, .int .i64 0, .int .i64 0, .slice none 0 0, .int .u32 0, .int .i64 0, .int .i64 0, .slice none 0 0, .slice none 0 0] (0, 0) _ rfl BKF.out Try.underlying54 rfl (by kernel_rfl)) rfl ?_
  exact ⟨rfl, HBF.out⟩
set_option maxHeartbeats 4000000 in
set_option maxRecDepth 100000 in
theorem chunk_made (w : World) : Calls Try.prog 33 #[.slice none 0 0, .int .i64 100] w fun e w' => ∃ gs gn, e = .returned (.func (.func 54) #[] #[.pointer (some ⟨gs, 0, none⟩), .pointer (some ⟨gn, 0, none⟩)]) ∧ w'.cell? ⟨gs, 0, none⟩ = some (.slice none 0 0) ∧ w'.cell? ⟨gn, 0, none⟩ = some (.int .i64 100) ∧ Below w.heap.size w w' := by
  have HB := Aside0.mk (Below.refl w.heap.size w)
  go_enter Try.func33, Try.ntmps33
  go_wp2_with (first | ((with_reducible refine gate_dst (N := 2) rfl ?_); refine box_event ?hg (N := 2) ?hd (cs := #[.slice none 0 0]) (t := 55) ?hr ?_; (case hd => rfl); (case hg => rfl); (case hr => first | (go_simp; done) | (go_simp; rfl)); intro gs hg w1 hbox hb; have HB1 := Aside0.mk (below_step HB.out hb); have BKS1 := Aside0.mk hbox; clear hbox hb hg) | ((with_reducible refine gate_dst (N := 3) rfl ?_); refine box_event ?hg (N := 3) ?hd (cs := #[.int .i64 100]) (t := 3) ?hr ?_; (case hd => rfl); (case hg => rfl); (case hr => first | (go_simp; done) | (go_simp; rfl)); intro gn hg w2 hbox hb; have BKS2 := Aside0.mk ((hb.block _ (blk_lt BKS1.out)).trans BKS1.out); have HB2 := Aside0.mk (below_step HB1.out hb); have BKN2 := Aside0.mk hbox; have hn0 : w2.cell? ⟨gn, 0, none⟩ = some (.int .i64 100) := (blk_cell BKN2.out 0).trans rfl; clear hbox hb hg))
  go_ret
  exact ⟨gs, gn, rfl, (blk_cell BKS2.out 0).trans rfl, (blk_cell BKN2.out 0).trans rfl, HB2.out⟩
set_option maxHeartbeats 4000000 in
set_option maxRecDepth 100000 in
theorem chunk_stops (n gs gn : Nat) (Kp : World → World → Prop) (w : World) (hs : w.cell? ⟨gs, 0, none⟩ = some (.slice none 0 0)) :
    SeqStopsK Fence.wide n Try.prog 54 #[.pointer (some ⟨gs, 0, none⟩), .pointer (some ⟨gn, 0, none⟩)] (fun _ : Empty => (#[.slice none 0 0] : Array Value)) Kp (fun xs => xs = []) (fun _ => False) 0 w := fun l J Jx W hW _ _ _ h0 => by
  have HS := Aside0.mk ((hW.cell (World.block_lt_of_cell? w _ hs)).trans hs)
  have H0 := Aside0.mk h0
  clear hs h0
  refine callsIn_wide.2 ?_
  show Calls Try.prog 54 #[.func (.yield l) #[] #[], .pointer (some ⟨gs, 0, none⟩), .pointer (some ⟨gn, 0, none⟩)] W _
  go_enter Try.func54, Try.ntmps54
  go_wp2
  go_loopg [4] 1 (fun kq v4 wr => v4 = .int .i64 0 ∧ wr = W)
  case atStart => exact ⟨rfl, rfl⟩
  case round =>
    obtain ⟨rfl, hwr⟩ := hrel
    have hwr := hwr.symm
    subst hwr
    have hs := HS.out
    go_wp2
    go_end0
    exact ⟨⟨_, rfl⟩, H0.out⟩
set_option maxHeartbeats 4000000 in
set_option maxRecDepth 100000 in
theorem delta_one (gx : Nat) (xa xl o : Int) (A1 : Option Addr) (c1 : Nat) (l1 : List S69) (nx md pr : Int) (A5 : Option Addr) (c5 : Nat) (l5 : List Int) (A6 : Option Addr) (c6 : Nat) (l6 : List S73) (w : World) (hx : w.heap[gx]? = some (.cells #[.int .u32 xa, .int .i64 xl, .int .i64 o, .slice A1 l1.length c1, .int .u32 nx, .int .i64 md, .int .i64 pr, .slice A5 l5.length c5, .slice A6 l6.length c6] 54 (0, 0))) (hr1 : Kd.C k69 w A1 l1.length l1) (hc1 : l1.length ≤ c1) (hr5 : Kd.C (Kd.int .u32) w A5 l5.length l5) (hc5 : l5.length ≤ c5) (hr6 : Kd.C k73 w A6 l6.length l6) (hc6 : l6.length ≤ c6) (h4 : l1.length < 4000) (hd1 : ∀ y ∈ l1, slices_Clone_int_int.f y.f1 = some y.f1) (h5 : slices_Clone_uint32_uint32.f l5 = some l5) (h6 : l6.length < 4000) (hd : ∀ r ∈ l6, bytes_Clone.f r.f2 = some r.f2) :
    Calls Try.prog 17 #[.slice none 0 0, .slice (some ⟨gx, 0, none⟩) 1 1] w fun e w' => ∃ gR cR NA nc, e = .returned (.slice (some ⟨gR, 0, none⟩) 1 cR) ∧ w'.cell? ⟨gR, 8, none⟩ = some (.slice NA 1 nc) ∧ Below w.heap.size w w' := by
  have HX := Aside0.mk hx
  have HR1 := Aside0.mk hr1
  have HR5 := Aside0.mk hr5
  have HR6 := Aside0.mk hr6
  have HC := Aside0.mk (And.intro hc1 (And.intro hc5 hc6))
  have H4 := Aside0.mk h4
  have HD1 := Aside0.mk hd1
  have H5 := Aside0.mk h5
  have H6 := Aside0.mk h6
  have HD := Aside0.mk hd
  have hu34 := Try.underlying34
  have hu29 := Try.underlying29
  have hu54 := Try.underlying54
  have HB := Aside0.mk (Below.refl w.heap.size w)
  clear hx hr1 hc1 hr5 hc5 hr6 hc6 h4 hd1 h5 h6 hd
  refine (callsIn_wide (n := 4)).1 ?_
  refine callsIn_of_wp_marks Try.func17 rfl trivial ?_ rfl
  simp only [Try.ntmps17, List.size_toArray, List.length_cons, List.length_nil, Nat.reduceAdd, Nat.reduceSub, Array.replicate_succ, Array.replicate_zero, List.push_toArray, List.append_toArray, List.nil_append, List.cons_append]
  refine wpIn_wide.2 ?_
  go_wp2
  go_loopg [5, 18] 1 (fun kq v5 v18 wr => v5 = .slice none 0 0 ∧ v18 = .int .i64 0 ∧ wr = w)
  case atStart => exact ⟨rfl, rfl, rfl⟩
  case round =>
    obtain ⟨rfl, rfl, hwr⟩ := hrel
    have hwr := hwr.symm
    subst hwr
    go_wp2_with (first | ((with_reducible refine gate_dst (N := 10) rfl ?_); refine box_event ?hg (N := 10) ?hd (cs := #[.slice none 0 0]) (t := 50) ?hr ?_; (case hd => rfl); (case hg => rfl); (case hr => first | (go_simp; done) | (go_simp; rfl)); intro go hg w1 hbox hb; have HB1 := Aside0.mk (below_step HB.out hb); have BKO1 := Aside0.mk hbox; have GEO := Aside0.mk (show w.heap.size ≤ go from by rw [hg]; exact Nat.le_refl _); clear hbox hb hg) | (go_at_call 33; refine (chunk_made _).mono ?_; rintro e w2 ⟨gs, gn, rfl, hs, hn, hb⟩; have BKO2 := Aside0.mk ((hb.block _ (blk_lt BKO1.out)).trans BKO1.out); have HB2 := Aside0.mk (below_step HB1.out hb); have HS2 := Aside0.mk hs; clear hs hn hb))
    have HX2 := Aside0.mk ((HB2.out.block _ (blk_lt HX.out)).trans HX.out)
    refine (wpIn_wide (n := 4)).1 ?_
    refine wpIn_rangeFunc_ownF rfl (by decide) (gf := 54) (lb := #[.pointer (some ⟨gs, 0, none⟩), .pointer (some ⟨gn, 0, none⟩)]) rfl trivial (fun args W0 => enters_ Try.func54 (by kernel_rfl) rfl args W0) (chunk_stops 3 gs gn (fun _ _ => True) w2 HS2.out) (fun _ _ => trivial) (fun _ _ _ _ _ _ _ _ => trivial) (Below.refl _ _) (fun x => x.elim) (fun _ W => Below w2.heap.size w2 W) (fun _ _ _ => False) (ownFrom_below (Nat.le_refl _) (Nat.le_refl _)) (fun _ _ _ _ _ h => h.elim) (Below.refl _ _) (fun x => x.elim) ?assign ?body ?done ?stop
    case assign =>
      intro l x
      exact x.elim
    case body =>
      intro l pre x
      exact x.elim
    case stop =>
      rintro D c pre W _ h
      exact h.elim
    case done =>
      rintro D xs W hD rfl hB hK
      have HBW := Aside0.mk (below_step HB2.out hB)
      have HDD := Aside0.mk (Nat.le_trans HB2.out.size hD)
      have HK := Aside0.mk hK
      have BKO3 := Aside0.mk ((hB.block _ (blk_lt BKO2.out)).trans BKO2.out)
      have HX3 := Aside0.mk ((hB.block _ (blk_lt HX2.out)).trans HX2.out)
      clear hD hB hK HB2 BKO2 HX2 HS2 HB1 BKO1
      go_wp2
      go_loopg [48] 2 (fun kq v48 wr => (v48 = .int .i64 0 ∧ Aside0 (kq = 2) ∧ wr = W) ∨ (v48 = .int .i64 1 ∧ Aside0 (kq = 1) ∧ ∃ gR cR NA nc, wr.cell? ⟨go, 0, none⟩ = some (.slice (some ⟨gR, 0, none⟩) 1 cR) ∧ Aside0 (wr.cell? ⟨gR, 8, none⟩ = some (.slice NA 1 nc)) ∧ Aside0 (Below w.heap.size w wr) ∧ Aside0 (wr.heap[D]? = some (.deferred (some [])))))
      case atStart => exact Or.inl ⟨rfl, ⟨rfl⟩, rfl⟩
      case round =>
        rcases hrel with ⟨rfl, hk, hwr⟩ | ⟨rfl, hk, gR, cR, NA, nc, hcell, hcell8, HBr, HKr⟩
        · have hwr := hwr.symm
          subst hwr
          obtain ⟨k1, rfl⟩ : ∃ k1, gk = k1 + 1 := ⟨gk - 1, by have := hk.out; omega⟩
          go_upto_region 18 with (first | ((with_reducible refine gate_dst (N := 51) rfl ?_); (try (refine gate_guard (by rfl) ?_; dsimp only)); refine load_blk rfl 54 (.tmp 50) rfl (g := gx) (off := 0) [.int .u32 xa, .int .i64 xl, .int .i64 o, .slice A1 l1.length c1, .int .u32 nx, .int .i64 md, .int .i64 pr, .slice A5 l5.length c5, .slice A6 l6.length c6] _ rfl HX3.out (self_x _) Try.underlying54 rfl (by kernel_rfl) ?_) | ((with_reducible refine gate_dst (N := 13) rfl ?_); refine box_event ?hg (N := 13) ?hd (cs := #[.int .u32 0, .int .i64 0, .int .i64 0, .slice none 0 0, .int .u32 0, .int .i64 0, .int .i64 0, .slice none 0 0, .slice none 0 0]) (t := 54) ?hr ?_; (case hd => rfl); (case hg => rfl); (case hr => first | (go_simp; done) | (go_simp; rfl)); intro gy hg wb hbox hb; have BKOb := Aside0.mk ((hb.block _ (blk_lt BKO3.out)).trans BKO3.out); have HKb := Aside0.mk ((hb.block _ (blk_lt HK.out)).trans HK.out); have HBb := Aside0.mk (below_step HBW.out hb); have BKYb := Aside0.mk hbox; have GOY := Aside0.mk (show go < gy from by rw [hg]; exact blk_lt BKO3.out); have GDY := Aside0.mk (show D < gy from by rw [hg]; exact blk_lt HK.out); clear hbox hb hg) | ((with_reducible refine gate_store (t := 54) (p := 13) rfl ?_); refine store_new rfl 54 (.tmp 13) (.tmp 51) rfl [.int .u32 xa, .int .i64 xl, .int .i64 o, .slice A1 l1.length c1, .int .u32 nx, .int .i64 md, .int .i64 pr, .slice A5 l5.length c5, .slice A6 l6.length c6] (by rfl) (by rfl) BKYb.out (by rfl) (by kernel_rfl) (by intro v hv; simp only [List.mem_cons, List.not_mem_nil, or_false] at hv; rcases hv with rfl | rfl | rfl | rfl | rfl | rfl | rfl | rfl | rfl <;> rfl) ?_; intro wc_ hx hg hs; have BKYc := Aside0.mk hx; have BKOc := Aside0.mk ((hg.block _ (blk_lt BKOb.out) (fun e => by injection e with e; have := GOY.out; omega)).trans BKOb.out); have HKc := Aside0.mk ((hg.block _ (blk_lt HKb.out) (fun e => by injection e with e; have := GDY.out; omega)).trans HKb.out); have HBc := Aside0.mk (HBb.out.grown hg HBb.out.size (fun k e => by injection e with e; have := GOY.out; have := GEO.out; omega)); have hp0 : wc_.cell? ⟨gy, 0, none⟩ = some (.int .u32 xa) := (blk_cell BKYc.out 0).trans rfl; have hp1 : wc_.cell? ⟨gy, 1, none⟩ = some (.int .i64 xl) := (blk_cell BKYc.out 1).trans rfl; clear hx hg hs) | (go_at_call 32; refine (find_nil xa xl _).mono ?_; rintro e wd ⟨rfl, hb⟩; have BKOd := Aside0.mk ((hb.block _ (blk_lt BKOc.out)).trans BKOc.out); have BKYd := Aside0.mk ((hb.block _ (blk_lt BKYc.out)).trans BKYc.out); have HKd := Aside0.mk ((hb.block _ (blk_lt HKc.out)).trans HKc.out); have HBd := Aside0.mk (below_step HBc.out hb); clear hb hp0 hp1) | ((with_reducible refine gate_dst (N := 14) rfl ?_); refine box_event ?hg (N := 14) ?hd (cs := #[.int .u32 0, .int .i64 0, .int .i64 0, .slice none 0 0, .int .u32 0, .int .i64 0, .int .i64 0, .slice none 0 0, .slice none 0 0]) (t := 54) ?hr ?_; (case hd => rfl); (case hg => rfl); (case hr => first | (go_simp; done) | (go_simp; rfl)); intro gz hg we hbox hb; have BKOe := Aside0.mk ((hb.block _ (blk_lt BKOd.out)).trans BKOd.out); have BKYe := Aside0.mk ((hb.block _ (blk_lt BKYd.out)).trans BKYd.out); have HKe := Aside0.mk ((hb.block _ (blk_lt HKd.out)).trans HKd.out); have HBe := Aside0.mk (below_step HBd.out hb); have BKZe := Aside0.mk hbox; have GOZ := Aside0.mk (show go < gz from by rw [hg]; exact blk_lt BKOd.out); have GYZ := Aside0.mk (show gy < gz from by rw [hg]; exact blk_lt BKYd.out); have GDZ := Aside0.mk (show D < gz from by rw [hg]; exact blk_lt HKd.out); clear hbox hb hg) | ((with_reducible refine gate_store (t := 54) (p := 14) rfl ?_); refine store_new rfl 54 (.tmp 14) (.tmp 57) rfl [.int .u32 0, .int .i64 0, .int .i64 0, .slice none 0 0, .int .u32 0, .int .i64 0, .int .i64 0, .slice none 0 0, .slice none 0 0] (by rfl) (by rfl) BKZe.out (by rfl) (by kernel_rfl) (by intro v hv; simp only [List.mem_cons, List.not_mem_nil, or_false] at hv; rcases hv with rfl | rfl | rfl | rfl | rfl | rfl | rfl | rfl | rfl <;> rfl) ?_; intro WA hx hg hs; have BKOa := Aside0.mk ((hg.block _ (blk_lt BKOe.out) (fun e => by injection e with e; have := GOZ.out; omega)).trans BKOe.out); have BKYa := Aside0.mk ((hg.block _ (blk_lt BKYe.out) (fun e => by injection e with e; have := GYZ.out; omega)).trans BKYe.out); have HKa := Aside0.mk ((hg.block _ (blk_lt HKe.out) (fun e => by injection e with e; have := GDZ.out; omega)).trans HKe.out); have HBa := Aside0.mk (HBe.out.grown hg HBe.out.size (fun k e => by injection e with e; have := GOZ.out; have := GEO.out; omega)); clear hx hg hs))
          refine wp_noPanic ?_
          refine start_ (n := 11) (S := fun w' => w'.heap[go]? = some (.cells #[.slice none 0 0] 50 (0, 0)) ∧ w'.heap[gy]? = some (.cells #[.int .u32 xa, .int .i64 xl, .int .i64 o, .slice A1 l1.length c1, .int .u32 nx, .int .i64 md, .int .i64 pr, .slice A5 l5.length c5, .slice A6 l6.length c6] 54 (0, 0))) (ds := [10]) #[false, false, false, false, false, false, false, false, false, false, false] (by kernel_rfl) rfl rfl ⟨BKOa.out, BKYa.out⟩ (fun hHeld => ?_)
          have hF := Aside0.mk (show dF w go gy D #[.int .u32 xa, .int .i64 xl, .int .i64 o, .slice A1 l1.length c1, .int .u32 nx, .int .i64 md, .int .i64 pr, .slice A5 l5.length c5, .slice A6 l6.length c6] WA.drew from ⟨below_drew1 HBa.out, blk_drew BKOa.out, blk_drew BKYa.out, HKa.out⟩)
          generalize WA.drew = wD at hF hHeld ⊢
          refine pure_ (i := 1) (N := some 70) (v := ?_) (a' := ?_) #[false, true, false, false, false, false, false, false, false, false, false] rfl rfl (by kernel_rfl) (fun _ _ _ h => h) (Or.inl ⟨by rfl, ?_⟩) ?_ ?_
          rotate_left
          · intro w'
            go_simp
            with_reducible rfl
          rotate_left
          · simp only [Act.put, List.setIfInBounds_toArray, List.set_cons_zero, List.set_cons_succ, i64_w, i32_w]
            rfl
          refine pure_ (i := 4) (N := some 73) (v := ?_) (a' := ?_) #[false, true, false, false, true, false, false, false, false, false, false] rfl rfl (by kernel_rfl) (fun _ _ _ h => h) (Or.inl ⟨by rfl, ?_⟩) ?_ ?_
          rotate_left
          · intro w'
            go_simp
            with_reducible rfl
          rotate_left
          · simp only [Act.put, List.setIfInBounds_toArray, List.set_cons_zero, List.set_cons_succ, i64_w, i32_w]
            rfl
          refine take_ (i := 0) (N := some 69) (v := ?_) (a' := ?_) #[true, true, false, false, true, false, false, false, false, false, false] rfl rfl (by kernel_rfl) (fun _ _ _ h => h) (Or.inl ⟨by rfl, ?_⟩) hHeld ?_ ?_
          rotate_left
          · rintro w' ⟨s0, s1⟩
            have hc : w'.cell? ⟨go, 0, none⟩ = some (.slice none 0 0) := (blk_cell s0 0).trans rfl
            go_simp
            with_reducible rfl
          rotate_left
          · simp only [Act.put, List.setIfInBounds_toArray, List.set_cons_zero, List.set_cons_succ, i64_w, i32_w]
            rfl
          refine take_ (i := 2) (N := some 71) (v := ?_) (a' := ?_) #[true, true, true, false, true, false, false, false, false, false, false] rfl rfl (by kernel_rfl) (fun _ _ _ h => h) (Or.inl ⟨by rfl, ?_⟩) hHeld ?_ ?_
          rotate_left
          · rintro w' ⟨s0, s1⟩
            refine load_run 34 (.tmp 70) ?_ [.int .i64 o, .slice A1 l1.length c1, .int .u32 nx, .int .i64 md, .int .i64 pr, .slice A5 l5.length c5, .slice A6 l6.length c6] _ ?_ s1 (told_att xa xl o A1 l1.length c1 nx md pr A5 l5.length c5 A6 l6.length c6) Try.underlying34 rfl ?_
            · rfl
            · rfl
            · kernel_rfl
          rotate_left
          · simp only [Act.put, List.setIfInBounds_toArray, List.set_cons_zero, List.set_cons_succ, i64_w, i32_w]
            rfl
          refine take_ (i := 5) (N := some 74) (v := ?_) (a' := ?_) #[true, true, true, false, true, true, false, false, false, false, false] rfl rfl (by kernel_rfl) (fun _ _ _ h => h) (Or.inl ⟨by rfl, ?_⟩) hHeld ?_ ?_
          rotate_left
          · rintro w' ⟨s0, s1⟩
            refine load_run 29 (.tmp 73) ?_ [.int .u32 xa, .int .i64 xl] _ ?_ s1 (told_pre xa xl o A1 l1.length c1 nx md pr A5 l5.length c5 A6 l6.length c6) Try.underlying29 rfl ?_
            · rfl
            · rfl
            · kernel_rfl
          rotate_left
          · simp only [Act.put, List.setIfInBounds_toArray, List.set_cons_zero, List.set_cons_succ, i64_w, i32_w]
            rfl
          refine join_ (σ := DS) 4 #[true, true, true, true, true, true, true, false, false, false, false] (fun s_ => [(72, .agg #[.int .i64 o, .slice s_.B1 l1.length s_.d1, .int .u32 nx, .int .i64 md, .int .i64 pr, .slice s_.B5 l5.length l5.length, .slice s_.B6 l6.length l6.length]), (75, .slice (some ⟨s_.gP, 0, none⟩) 1 1)]) (fun _ w' => dF w go gy D #[.int .u32 xa, .int .i64 xl, .int .i64 o, .slice A1 l1.length c1, .int .u32 nx, .int .i64 md, .int .i64 pr, .slice A5 l5.length c5, .slice A6 l6.length c6] w') ?_ ?_
          rotate_left
          · intro hJ3_6
            refine join_ (σ := DS) 5 #[true, true, true, true, true, true, false, false, false, false, false] (fun s_ => [(72, .agg #[.int .i64 o, .slice s_.B1 l1.length s_.d1, .int .u32 nx, .int .i64 md, .int .i64 pr, .slice s_.B5 l5.length l5.length, .slice s_.B6 l6.length l6.length])]) (fun _ w' => dF w go gy D #[.int .u32 xa, .int .i64 xl, .int .i64 o, .slice A1 l1.length c1, .int .u32 nx, .int .i64 md, .int .i64 pr, .slice A5 l5.length c5, .slice A6 l6.length c6] w') ?_ ?_
            rotate_left
            · intro hJ3
              refine join_ (σ := DS) 5 #[true, true, true, false, true, true, true, false, false, false, false] (fun s_ => [(75, .slice (some ⟨s_.gP, 0, none⟩) 1 1)]) (fun _ w' => dF w go gy D #[.int .u32 xa, .int .i64 xl, .int .i64 o, .slice A1 l1.length c1, .int .u32 nx, .int .i64 md, .int .i64 pr, .slice A5 l5.length c5, .slice A6 l6.length c6] w') ?_ ?_
              rotate_left
              · intro hJ6
                refine two_ (i := 3) (j := 6) (Ni := some 72) (Nj := some 75) #[true, true, true, true, true, true, false, false, false, false, false] #[true, true, true, false, true, true, true, false, false, false, false] rfl rfl rfl rfl (by kernel_rfl) (by decide) (by decide) (fun K hK => ?_) (fun K hK => ?_)
                · skip
                  refine goes_ Try.func24 (by kernel_rfl) rfl #[.agg #[.int .i64 o, .slice A1 l1.length c1, .int .u32 nx, .int .i64 md, .int .i64 pr, .slice A5 l5.length c5, .slice A6 l6.length c6]] (by rfl) rfl rfl (by (try simp only [List.map_toArray, List.map_cons, List.map_nil]); first | done | rfl) ?_
                  refine (attr_own o A1 c1 l1 nx md pr A5 c5 l5 A6 c6 l6 _ (Kd.C_below HR1.out hF.out.1) HC.out.1 (Kd.C_below HR5.out hF.out.1) HC.out.2.1 (Kd.C_below HR6.out hF.out.1) HC.out.2.2 H4.out HD1.out H5.out H6.out HD.out).mono ?_
                  rintro e w1_ ⟨X1, x1, y1, X5, y5, X6, y6, rfl, -, -, -, -, hb⟩
                  have hF1 := Aside0.mk (dF_below hF.out hb)
                  clear hb
                  refine ⟨_, rfl, ?_⟩
                  refine hK.out _ _ ⟨hF1.out.2.1, hF1.out.2.2.1⟩ (fun hHeld => ?_)
                  clear hK K
                  refine norm_ (a' := ?_) ?_ ?_
                  rotate_left
                  · show Act.put _ (some 72) _ = _
                    simp only [Act.put, List.setIfInBounds_toArray, List.set_cons_zero, List.set_cons_succ, i64_w, i32_w]
                    rfl
                  exact norm_ (by first | (simp only [putAll, Act.put, List.setIfInBounds_toArray, List.set_cons_zero, List.set_cons_succ]; done) | (simp only [putAll, Act.put, List.setIfInBounds_toArray, List.set_cons_zero, List.set_cons_succ]; rfl)) (hJ3 { ds0 with B1 := X1, d1 := x1, B5 := X5, B6 := X6 } _ hF1.out)
                · skip
                  refine value_ (w1 := ?_) (v := ?_) (by rfl) rfl ?_ ?_
                  rotate_left 2
                  · go_simp
                    constructor
                    · rfl
                    · rfl
                  have hF1 := Aside0.mk (dF_below hF.out (below_alloc (Below.refl _ _) (.cells #[.int .u32 xa, .int .i64 xl] 29)))
                  refine hK.out _ _ ⟨hF1.out.2.1, hF1.out.2.2.1⟩ (fun hHeld => ?_)
                  clear hK K
                  refine norm_ (a' := ?_) ?_ ?_
                  rotate_left
                  · show Act.put _ (some 75) _ = _
                    simp only [Act.put, List.setIfInBounds_toArray, List.set_cons_zero, List.set_cons_succ, i64_w, i32_w]
                    rfl
                  exact norm_ (by first | (simp only [putAll, Act.put, List.setIfInBounds_toArray, List.set_cons_zero, List.set_cons_succ]; done) | (simp only [putAll, Act.put, List.setIfInBounds_toArray, List.set_cons_zero, List.set_cons_succ]; rfl)) (hJ6 { ds0 with gP := wD.heap.size } _ hF1.out)
              · skip
                intro s_ w' hF0
                have hF := Aside0.mk hF0
                have hHeld := And.intro hF0.2.1 hF0.2.2.1
                clear hF0
                refine norm_ (a' := ?_) ?_ ?_
                rotate_left
                · simp only [putAll, Act.put, List.setIfInBounds_toArray, List.set_cons_zero, List.set_cons_succ]
                  rfl
                refine one_ (i := 3) (N := some 72) #[true, true, true, true, true, true, true, false, false, false, false] rfl rfl (by kernel_rfl) (by decide) (fun K hK => ?_)
                refine goes_ Try.func24 (by kernel_rfl) rfl #[.agg #[.int .i64 o, .slice A1 l1.length c1, .int .u32 nx, .int .i64 md, .int .i64 pr, .slice A5 l5.length c5, .slice A6 l6.length c6]] (by rfl) rfl rfl (by (try simp only [List.map_toArray, List.map_cons, List.map_nil]); first | done | rfl) ?_
                refine (attr_own o A1 c1 l1 nx md pr A5 c5 l5 A6 c6 l6 _ (Kd.C_below HR1.out hF.out.1) HC.out.1 (Kd.C_below HR5.out hF.out.1) HC.out.2.1 (Kd.C_below HR6.out hF.out.1) HC.out.2.2 H4.out HD1.out H5.out H6.out HD.out).mono ?_
                rintro e w1_ ⟨X1, x1, y1, X5, y5, X6, y6, rfl, -, -, -, -, hb⟩
                have hF1 := Aside0.mk (dF_below hF.out hb)
                clear hb
                refine ⟨_, rfl, ?_⟩
                refine hK.out _ _ ⟨hF1.out.2.1, hF1.out.2.2.1⟩ (fun hHeld => ?_)
                clear hK K
                refine norm_ (a' := ?_) ?_ ?_
                rotate_left
                · show Act.put _ (some 72) _ = _
                  simp only [Act.put, List.setIfInBounds_toArray, List.set_cons_zero, List.set_cons_succ, i64_w, i32_w]
                  rfl
                exact norm_ (by first | (simp only [putAll, Act.put, List.setIfInBounds_toArray, List.set_cons_zero, List.set_cons_succ]; done) | (simp only [putAll, Act.put, List.setIfInBounds_toArray, List.set_cons_zero, List.set_cons_succ]; rfl)) (hJ3_6 { s_ with B1 := X1, d1 := x1, B5 := X5, B6 := X6 } _ hF1.out)
            · skip
              intro s_ w' hF0
              have hF := Aside0.mk hF0
              have hHeld := And.intro hF0.2.1 hF0.2.2.1
              clear hF0
              refine norm_ (a' := ?_) ?_ ?_
              rotate_left
              · simp only [putAll, Act.put, List.setIfInBounds_toArray, List.set_cons_zero, List.set_cons_succ]
                rfl
              refine one_ (i := 6) (N := some 75) #[true, true, true, true, true, true, true, false, false, false, false] rfl rfl (by kernel_rfl) (by decide) (fun K hK => ?_)
              refine value_ (w1 := ?_) (v := ?_) (by rfl) rfl ?_ ?_
              rotate_left 2
              · go_simp
                constructor
                · rfl
                · rfl
              have hF1 := Aside0.mk (dF_below hF.out (below_alloc (Below.refl _ _) (.cells #[.int .u32 xa, .int .i64 xl] 29)))
              refine hK.out _ _ ⟨hF1.out.2.1, hF1.out.2.2.1⟩ (fun hHeld => ?_)
              clear hK K
              refine norm_ (a' := ?_) ?_ ?_
              rotate_left
              · show Act.put _ (some 75) _ = _
                simp only [Act.put, List.setIfInBounds_toArray, List.set_cons_zero, List.set_cons_succ, i64_w, i32_w]
                rfl
              exact norm_ (by first | (simp only [putAll, Act.put, List.setIfInBounds_toArray, List.set_cons_zero, List.set_cons_succ]; done) | (simp only [putAll, Act.put, List.setIfInBounds_toArray, List.set_cons_zero, List.set_cons_succ]; rfl)) (hJ3_6 { s_ with gP := w'.heap.size } _ hF1.out)
          intro s_ w' hF0
          have hF := Aside0.mk hF0
          have hHeld := And.intro hF0.2.1 hF0.2.2.1
          clear hF0
          refine norm_ (a' := ?_) ?_ ?_
          rotate_left
          · simp only [putAll, Act.put, List.setIfInBounds_toArray, List.set_cons_zero, List.set_cons_succ]
            rfl
          refine pure_ (i := 7) (N := some 76) (v := ?_) (a' := ?_) #[true, true, true, true, true, true, true, true, false, false, false] rfl rfl (by kernel_rfl) (fun _ _ _ h => h) (Or.inl ⟨by rfl, ?_⟩) ?_ ?_
          rotate_left
          · intro w'
            go_simp
            with_reducible rfl
          rotate_left
          · simp only [Act.put, List.setIfInBounds_toArray, List.set_cons_zero, List.set_cons_succ, i64_w, i32_w]
            rfl
          refine one_ (i := 8) (N := some 77) #[true, true, true, true, true, true, true, true, true, false, false] rfl rfl (by kernel_rfl) (by decide) (fun K hK => ?_)
          refine value_ (w1 := ?_) (v := ?_) (by rfl) rfl ?_ ?_
          rotate_left 2
          · go_simp
            constructor
            · rfl
            · rfl
          refine hK.out _ _ ⟨(((below_alloc (Below.refl _ _) _).block _ (blk_lt hF.out.2.1)).trans hF.out.2.1), (((below_alloc (Below.refl _ _) _).block _ (blk_lt hF.out.2.2.1)).trans hF.out.2.2.1)⟩ (fun hHeld => ?_)
          clear hK K
          refine norm_ (a' := ?_) ?_ ?_
          rotate_left
          · show Act.put _ (some 77) _ = _
            simp only [Act.put, List.setIfInBounds_toArray, List.set_cons_zero, List.set_cons_succ, i64_w, i32_w]
            rfl
          refine one_ (i := 9) (N := some 78) #[true, true, true, true, true, true, true, true, true, true, false] rfl rfl (by kernel_rfl) (by decide) (fun K hK => ?_)
          refine Kd.R_append_step (rawK 9) (w0 := w) w.heap.size (by rfl) (.tmp 69) (.tmp 77) 50 57 (.agg #[.slice none 0 0, .int .i64 0, .slice none 0 0, .int .u32 0, .int .i64 0, .int .i64 0, .slice none 0 0, .slice none 0 0, .slice none 0 0]) 152 rfl Try.underlying50 (show (Try.prog.info? 57).map (fun i => (i.zero, i.size, i.bytes)) = some (some (.agg #[.slice none 0 0, .int .i64 0, .slice none 0 0, .int .u32 0, .int .i64 0, .int .i64 0, .slice none 0 0, .slice none 0 0, .slice none 0 0]), 9, 152) from by kernel_rfl) rfl (by decide) (by omega) (.slice none 0 0) [] ⟨[.slice none 0 0, .int .i64 o, .slice s_.B1 l1.length s_.d1, .int .u32 nx, .int .i64 md, .int .i64 pr, .slice s_.B5 l5.length l5.length, .slice s_.B6 l6.length l6.length, .slice (some ⟨s_.gP, 0, none⟩) 1 1], rfl, (by intro v hv; simp only [List.mem_cons, List.not_mem_nil, or_false] at hv; rcases hv with rfl | rfl | rfl | rfl | rfl | rfl | rfl | rfl | rfl <;> rfl)⟩ [.slice none 0 0, .int .i64 o, .slice s_.B1 l1.length s_.d1, .int .u32 nx, .int .i64 md, .int .i64 pr, .slice s_.B5 l5.length l5.length, .slice s_.B6 l6.length l6.length, .slice (some ⟨s_.gP, 0, none⟩) 1 1] (fun _ => True) (fun _ => True) rfl rfl rfl (fun _ _ => ⟨trivial, by simp [Value.ownBlock]⟩) (fun _ _ => trivial) (Kd.R_nil _ _ _ _ _) hF.out.1 hF.out.1.size (by simp) ?_
          intro v9 w9 ho hb hg hat
          obtain ⟨gR, cR, ev, hge_, hlt_, cellsR, hgR⟩ := Kd.R_form ho (by simp)
          have ev2 : v9 = .slice (some ⟨gR, 0, none⟩) 1 cR := ev
          clear ev
          subst ev2
          have HC8 := Aside0.mk ((blk_cell hgR 8).symm.trans (raw_cell ho 8 _ rfl))
          have HGR := Aside0.mk hgR
          clear hge_ hlt_ hgR
          have HB9 := Aside0.mk hb
          have BKO9 := Aside0.mk ((hg.block _ (blk_lt hF.out.2.1) (by simp [Value.ownBlock])).trans hF.out.2.1)
          have BKY9 := Aside0.mk ((hg.block _ (blk_lt hF.out.2.2.1) (by simp [Value.ownBlock])).trans hF.out.2.2.1)
          have HK9 := Aside0.mk ((hg.block _ (blk_lt hF.out.2.2.2) (by simp [Value.ownBlock])).trans hF.out.2.2.2)
          have hs0 : w9.cell? ⟨go, 0, none⟩ = some (.slice none 0 0) := (blk_cell BKO9.out 0).trans rfl
          have hsf0 := blk_frozen BKO9.out 0
          clear ho hb hg hat
          refine hK.out _ _ ⟨BKO9.out, BKY9.out⟩ (fun hHeld => ?_)
          clear hK K
          refine norm_ (a' := ?_) ?_ ?_
          rotate_left
          · show Act.put _ (some 78) _ = _
            simp only [Act.put, List.setIfInBounds_toArray, List.set_cons_zero, List.set_cons_succ, i64_w, i32_w]
            rfl
          refine last_ (i := 10) (N := none) #[true, true, true, true, true, true, true, true, true, true, true] rfl rfl (by kernel_rfl) (by decide) (fun K hK => ?_)
          refine skip_ (w1 := ?_) (by rfl) rfl ?_ ?_
          rotate_left
          · go_simp
            rfl
          refine hK.out _ _ ?_
          clear hK K
          refine done_ (by kernel_rfl) ?_
          simp only [noPanic]
          go_wp2
          have HNE := Aside0.mk (show gR ≠ go from by
            intro e
            have h1 := HGR.out
            rw [e, BKO9.out] at h1
            injection h1 with h1
            injection h1 with _ h2
            exact absurd h2 (by decide))
          have HND := Aside0.mk (show D ≠ go from by
            intro e
            have h1 := HK9.out
            rw [e, BKO9.out] at h1
            injection h1 with h1
            cases h1)
          go_roundg k1
          case measure => omega
          case rel =>
            exact Or.inr ⟨by first | rfl | (simp; done) | (simp [wrap64]; done), ⟨by have := hk.out; omega⟩, gR, cR, some ⟨s_.gP, 0, none⟩, 1, (blk_cell (blk_put BKO9.out 0 (.slice (some ⟨gR, 0, none⟩) 1 cR) rfl) 0).trans rfl, ⟨(blk_cell (blk_far HGR.out (p := ⟨go, 0, none⟩) HNE.out _) 8).trans HC8.out⟩, ⟨Below.setCell HB9.out GEO.out _⟩, ⟨(Below.heap_setCell _ ⟨go, 0, none⟩ _ D HND.out).trans HK9.out⟩⟩
        · skip
          go_wp2
          refine ⟨by simp, .inl ⟨_, _, rfl, run_takeDeferred HKr.out, ?_⟩⟩
          exact ⟨_, results_tmp rfl _ _ _, gR, cR, NA, nc, rfl, cell_kept hcell8.out (grownBy_putObj' _ D (.deferred none)) (fun r e => by cases e; exact ⟨_, HKr.out, rfl⟩), HBr.out.grown (grownBy_putObj' _ D (.deferred none)) HBr.out.size (fun k e => by cases e; exact HDD.out)⟩
set_option maxHeartbeats 4000000 in
set_option maxRecDepth 100000 in
theorem ans_good : attr_Good.f 40 0 (prependV [] 1) 167772169 (-1) (-1) [] [] = some true := by kernel_rfl
set_option maxHeartbeats 4000000 in
set_option maxRecDepth 100000 in
theorem answers_ (w : World) : Calls Try.prog 9 #[] w fun e w' => e = .returned (.bool true) ∧ Below w.heap.size w w' := by
  have hu24 := Try.underlying24
  have hu27 := Try.underlying27
  have hu36 := Try.underlying36
  have hu34 := Try.underlying34
  have hu29 := Try.underlying29
  have hu54 := Try.underlying54
  have hu57 := Try.underlying57
  have HB := Aside0.mk (Below.refl w.heap.size w)
  go_enter Try.func9, Try.ntmps9
  go_upto_region 3 with (first | ((with_reducible refine gate_dst (N := 1) rfl ?_); refine box_event ?hg (N := 1) ?hd (cs := #[.int .i64 0, .int .u32 0, .int .u32 0, .int .i64 0, .int .i64 0, .int .i64 0, .int .i64 0, .int .i64 0]) (t := 24) ?hr ?_; (case hd => rfl); (case hg => rfl); (case hr => first | (go_simp; done) | (go_simp; rfl)); intro gc hg w1 hbox hb; have HB1 := Aside0.mk (below_step HB.out hb); have BKC1 := Aside0.mk hbox; have GEC := Aside0.mk (show w.heap.size ≤ gc from by rw [hg]; exact Nat.le_refl _); clear hbox hb hg) | ((with_reducible refine gate_store (t := 24) (p := 1) rfl ?_); refine store_new rfl 24 (.tmp 1) (.tmp 5) rfl [.int .i64 1, .int .u32 0, .int .u32 167772169, .int .i64 0, .int .i64 0, .int .i64 0, .int .i64 0, .int .i64 0] (by rfl) (by rfl) BKC1.out (by rfl) (by kernel_rfl) (by intro v hv; simp only [List.mem_cons, List.not_mem_nil, or_false] at hv; rcases hv with rfl | rfl | rfl | rfl | rfl | rfl | rfl | rfl <;> rfl) ?_; intro w2 hx hg hs; have BKC2 := Aside0.mk hx; have HB2 := Aside0.mk (HB1.out.grown hg HB1.out.size (fun k e => by injection e with e; have := GEC.out; omega)); clear hx hg hs) | ((with_reducible refine gate_dst (N := 7) rfl ?_); (try (refine gate_guard (by rfl) ?_; dsimp only)); refine load_blk rfl 24 (.tmp 1) rfl (g := gc) (off := 0) [.int .i64 1, .int .u32 0, .int .u32 167772169, .int .i64 0, .int .i64 0, .int .i64 0, .int .i64 0, .int .i64 0] _ rfl BKC2.out (self_x _) Try.underlying24 rfl (by kernel_rfl) ?_) | (go_at_call 10; refine (export_ext_true 40 1 0 167772169 0 0 0 0 0 3 2 none 0 0 none 0 [] false 0 0 (-1) 0 none 0 [] 167772161 (-1) (-1) none 0 [] none 0 [] 0 1 (-1) true true _ (Kd.C_nil _ _) (Nat.le_refl _) (Kd.C_nil _ _) (Nat.le_refl _) (Kd.C_nil _ _) (Nat.le_refl _) (Kd.C_nil _ _) (Nat.le_refl _) rfl (by decide) (fun y h => by cases h) (fun y h => by cases h) rfl (by decide) (fun y h => by cases h) rfl (by decide) ans_good).mono ?_; rintro e w3 ⟨X1, y1, X5, X6, rfl, g1, g2, g3, g4, hb⟩; have G1 := Aside0.mk g1; have G2 := Aside0.mk g2; have G3 := Aside0.mk g3; have G4 := Aside0.mk g4; have BKC3 := Aside0.mk ((hb.block _ (blk_lt BKC2.out)).trans BKC2.out); have HB3 := Aside0.mk (below_step HB2.out hb); have HW3 := Aside0.mk (Below.refl w3.heap.size w3); clear g1 g2 g3 g4 hb) | ((with_reducible refine gate_dst (N := 2) rfl ?_); refine box_event ?hg (N := 2) ?hd (cs := #[.int .i64 0, .slice none 0 0, .int .u32 0, .int .i64 0, .int .i64 0, .slice none 0 0, .slice none 0 0]) (t := 34) ?hr ?_; (case hd => rfl); (case hg => rfl); (case hr => first | (go_simp; done) | (go_simp; rfl)); intro ga hg w4 hbox hb; have BKC4 := Aside0.mk ((hb.block _ (blk_lt BKC3.out)).trans BKC3.out); have HB4 := Aside0.mk (below_step HB3.out hb); have BKA4 := Aside0.mk hbox; have GEA := Aside0.mk (show gc < ga from by rw [hg]; exact blk_lt BKC3.out); have HW4 := Aside0.mk (below_step HW3.out hb); have GA3 := Aside0.mk (show w3.heap.size ≤ ga from by rw [hg]; exact Nat.le_refl _); clear hbox hb hg) | ((with_reducible refine gate_store (t := 34) (p := 2) rfl ?_); refine store_new rfl 34 (.tmp 2) (.tmp 12) rfl [.int .i64 0, .slice X1 1 y1, .int .u32 167772169, .int .i64 (-1), .int .i64 (-1), .slice X5 0 0, .slice X6 0 0] (by rfl) (by rfl) BKA4.out (by rfl) (by kernel_rfl) (by intro v hv; simp only [List.mem_cons, List.not_mem_nil, or_false] at hv; rcases hv with rfl | rfl | rfl | rfl | rfl | rfl | rfl <;> rfl) ?_; intro w5 hx hg hs; have BKA5 := Aside0.mk hx; have HB5 := Aside0.mk (HB4.out.grown hg HB4.out.size (fun k e => by injection e with e; have := GEC.out; have := GEA.out; omega)); have HW5 := Aside0.mk (HW4.out.grown hg HW4.out.size (fun k e => by injection e with e; have := GA3.out; omega)); have BKC5 := Aside0.mk ((hg.block _ (blk_lt BKC4.out) (fun e => by injection e with e; have := GEA.out; omega)).trans BKC4.out); clear hx hg hs))
  go_wp2_with (first | ((with_reducible refine gate_dst (N := 14) rfl ?_); (try (refine gate_guard (by rfl) ?_; dsimp only)); refine load_blk rfl 34 (.tmp 2) rfl (g := ga) (off := 0) [.int .i64 0, .slice X1 1 y1, .int .u32 167772169, .int .i64 (-1), .int .i64 (-1), .slice X5 0 0, .slice X6 0 0] _ rfl BKA5.out (self_x _) Try.underlying34 rfl (by kernel_rfl) ?_) | ((with_reducible refine gate_dst (N := 16) rfl ?_); refine lit_event ?hg (N := 16) ?hd (inner := #[.int .u32 0, .int .i64 0, .int .i64 0, .slice X1 1 y1, .int .u32 167772169, .int .i64 (-1), .int .i64 (-1), .slice X5 0 0, .slice X6 0 0]) (e := 54) (n := 1) ?hr ?_; (case hd => rfl); (case hg => rfl); (case hr => first | (go_simp; done) | (go_simp; rfl)); intro gx w6 hg hbox hb; have BKX6 := Aside0.mk hbox; have BKC6 := Aside0.mk ((hb.block _ (blk_lt BKC5.out)).trans BKC5.out); have BKA6 := Aside0.mk ((hb.block _ (blk_lt BKA5.out)).trans BKA5.out); have HB6 := Aside0.mk (below_step HB5.out hb); have HW6 := Aside0.mk (below_step HW5.out hb); clear hg hbox hb) | (go_at_call 17; refine (delta_one gx 0 0 0 X1 y1 (prependV [] 1) 167772169 (-1) (-1) X5 0 [] X6 0 [] _ BKX6.out (Kd.C_below G2.out HW6.out) G1.out (Kd.C_below G3.out HW6.out) (Nat.le_refl _) (Kd.C_below G4.out HW6.out) (Nat.le_refl _) (by decide) (by decide) rfl (by decide) (fun y h => by cases h)).mono ?_; rintro e w7 ⟨gR, cR, NA, nc, rfl, hc8, hb⟩; have BKC7 := Aside0.mk ((hb.block _ (blk_lt BKC6.out)).trans BKC6.out); have BKA7 := Aside0.mk ((hb.block _ (blk_lt BKA6.out)).trans BKA6.out); have HB7 := Aside0.mk (below_step HB6.out hb); have ha1 : w7.cell? ⟨ga, 1, none⟩ = some (.slice X1 1 y1) := (blk_cell BKA7.out 1).trans rfl; have ha2 : w7.cell? ⟨ga, 2, none⟩ = some (.int .u32 167772169) := (blk_cell BKA7.out 2).trans rfl; have hc2 : w7.cell? ⟨gc, 2, none⟩ = some (.int .u32 167772169) := (blk_cell BKC7.out 2).trans rfl; clear hb))
  go_ret
  exact ⟨rfl, HB7.out⟩
def interregnumlaw16_answers.f : Option (Bool) := some true
theorem interregnumlaw16_answers.calls (r : Bool) (w : World) (h : interregnumlaw16_answers.f = some r) :
    Calls Try.prog 9 #[] w fun e w' => e = .returned (.bool r) ∧ Below w.heap.size w w' := by
  obtain rfl := Option.some.inj h
  exact answers_ w


/-! ### interregnumref05_Bit: function 50 -/
def interregnumref05_Bit.f (a0 : Int) (a1 : Int) : Option (Int) := if 0 ≤ (IntKind.u64.wrap (wrap64 (31 - a1))) then (some (Int.tmod (shr .u32 a0 (IntKind.u64.wrap (wrap64 (31 - a1)))) 2)) else (none)
set_option maxHeartbeats 8000000 in
set_option maxRecDepth 100000 in
theorem interregnumref05_Bit.calls (a0 : Int) (a1 : Int) (r : Int) (w : World) (h : interregnumref05_Bit.f a0 a1 = some r) :
    Calls Try.prog 50 #[.int .u32 a0, .int .i64 a1] w fun e w' => e = .returned (.int .u32 r) ∧ Drawn0 w w' := by
 have H : (if 0 ≤ (IntKind.u64.wrap (wrap64 (31 - a1))) then (some (Int.tmod (shr .u32 a0 (IntKind.u64.wrap (wrap64 (31 - a1)))) 2)) else (none)) = some r := h
 clear h
 obtain ⟨ji3, hji3⟩ : ∃ j_ : Int, (IntKind.u64.wrap (wrap64 (31 - a1))) = j_ := ⟨_, rfl⟩
 replace H : (if 0 ≤ (ji3) then (some (Int.tmod (shr .u32 a0 (ji3)) 2)) else (none)) = some r := by first | (rw [hji3] at H; exact H) | (simp only [hji3] at H ⊢; exact H)
 by_cases c4 : 0 ≤ (ji3)
 rotate_left
 ·rw [if_neg c4] at H
  exact absurd H (by simp)
 rw [if_pos c4] at H
 have c4b0 := eq_true c4
 have c4b1 : decide (0 ≤ (ji3)) = true := decide_eq_true c4
 clear c4
 obtain ⟨ji5, hji5⟩ : ∃ j_ : Int, (shr .u32 a0 (ji3)) = j_ := ⟨_, rfl⟩
 replace H : (some (Int.tmod (ji5) 2)) = some r := by first | (rw [hji5] at H; exact H) | (simp only [hji5] at H ⊢; exact H)
 have hji5_ : (a0 / 2 ^ min (ji3).toNat 32) = ji5 := hji5
 have hji5z : (ji3) ≤ 32 → (a0 / 2 ^ (ji3).toNat) = ji5 := shr_small hji5
 obtain rfl := Option.some.inj H
 go_enter Try.func50, Try.ntmps50
 go_wp2
 go_ret
 exact ⟨by first | rfl | (simp; done) | (simp only [← hji3, ← hji5] <;> (first | rfl | simp)) | (simp [*]; done), by repeat (first | exact Drawn0.refl _ | apply Drawn0.step)⟩

/-! ### interregnumref05_Right: function 30 -/
mutual
def interregnumref05_Right.j0 : Nat → Bool → Int → Int → Option (Bool)
  | 0, _, _, _ => none
  | k + 1, x11, x130000, x130001 => if x11 = true then (some false) else (interregnumref05_Right.l0 k x130001 x130000 x130001)
def interregnumref05_Right.l0 : Nat → Int → Int → Int → Option (Bool)
  | 0, _, _, _ => none
  | k + 1, x3, x130000, x130001 => if x3 < 32 then ((interregnumref05_Bit.f x130000 x3).bind fun t130 => (if t130 = 1 then (some false) else (interregnumref05_Right.l0 k (wrap64 (x3 + 1)) x130000 x130001))) else (some true)
end
def interregnumref05_Right.f (k : Nat) (a0_0 : Int) (a0_1 : Int) : Option (Bool) := if a0_1 < 0 then (interregnumref05_Right.j0 k true a0_0 a0_1) else (interregnumref05_Right.j0 k (decide (a0_1 > 32)) a0_0 a0_1)
theorem interregnumref05_Right.mono_l : ∀ k, (∀ y0 y1 y2, LeO (interregnumref05_Right.j0 k y0 y1 y2) (interregnumref05_Right.j0 (k + 1) y0 y1 y2)) ∧ (∀ y0 y1 y2, LeO (interregnumref05_Right.l0 k y0 y1 y2) (interregnumref05_Right.l0 (k + 1) y0 y1 y2))
  | 0 => ⟨fun _ _ _ r h => by simp [interregnumref05_Right.j0] at h, fun _ _ _ r h => by simp [interregnumref05_Right.l0] at h⟩
  | k + 1 => by
    obtain ⟨ih0, ih1⟩ := interregnumref05_Right.mono_l k
    refine ⟨?_, ?_⟩
    · intro y0 y1 y2
      unfold interregnumref05_Right.j0
      repeat' first
      | (with_reducible exact ih0 _ _ _)
      | (with_reducible exact ih1 _ _ _)
      | (with_reducible exact LeO.refl _)
      | (with_reducible exact LeO.none _)
      | (with_reducible refine LeO.ite ?_ ?_)
      | (with_reducible refine LeO.bind ?_ (fun _ => ?_))
      | exact ih0 _ _ _
      | exact ih1 _ _ _
      | exact LeO.none _
      | refine LeO.ite ?_ ?_
      | refine LeO.bind ?_ (fun _ => ?_)
    · intro y0 y1 y2
      unfold interregnumref05_Right.l0
      repeat' first
      | (with_reducible exact ih0 _ _ _)
      | (with_reducible exact ih1 _ _ _)
      | (with_reducible exact LeO.refl _)
      | (with_reducible exact LeO.none _)
      | (with_reducible refine LeO.ite ?_ ?_)
      | (with_reducible refine LeO.bind ?_ (fun _ => ?_))
      | exact ih0 _ _ _
      | exact ih1 _ _ _
      | exact LeO.none _
      | refine LeO.ite ?_ ?_
      | refine LeO.bind ?_ (fun _ => ?_)
theorem interregnumref05_Right.mono : ∀ a0 a1 k, LeO (interregnumref05_Right.f k a0 a1) (interregnumref05_Right.f (k + 1) a0 a1) := by
  intro a0 a1 k
  obtain ⟨ih0, ih1⟩ := interregnumref05_Right.mono_l k
  unfold interregnumref05_Right.f
  repeat' first
      | (with_reducible exact ih0 _ _ _)
      | (with_reducible exact ih1 _ _ _)
      | (with_reducible exact LeO.refl _)
      | (with_reducible exact LeO.none _)
      | (with_reducible refine LeO.ite ?_ ?_)
      | (with_reducible refine LeO.bind ?_ (fun _ => ?_))
      | exact ih0 _ _ _
      | exact ih1 _ _ _
      | exact LeO.none _
      | refine LeO.ite ?_ ?_
      | refine LeO.bind ?_ (fun _ => ?_)
set_option maxHeartbeats 8000000 in
set_option maxRecDepth 100000 in
theorem interregnumref05_Right.calls (k : Nat) (a0_0 : Int) (a0_1 : Int) (r : Bool) (w : World) (h : interregnumref05_Right.f k a0_0 a0_1 = some r) :
    Calls Try.prog 30 #[.agg #[.int .u32 a0_0, .int .i64 a0_1]] w fun e w' => e = .returned (.bool r) ∧ Below w.heap.size w w' := by
 have hu29 := Try.underlying29
 have HB := Aside0.mk (Below.refl w.heap.size w)
 have H : (if a0_1 < 0 then (interregnumref05_Right.j0 k true a0_0 a0_1) else (interregnumref05_Right.j0 k (decide (a0_1 > 32)) a0_0 a0_1)) = some r := h
 clear h
 have HC2 := Aside0.mk H
 clear H
 go_enter Try.func30, Try.ntmps30
 go_upto_region 1 with (first | ((with_reducible refine gate_dst (N := 1) rfl ?_); refine box_event ?hg (N := 1) ?hd (cs := #[.int .u32 a0_0, .int .i64 a0_1]) (t := 29) ?hr ?_; (case hd => rfl); (case hg => rfl); (case hr => first | (go_simp; done) | (go_simp; rfl) | (go_simp; simp [IntKind.wrap_u8, IntKind.wrap_u32]; done)); intro gb129 hg w3 hbox hb; have n0_ := Aside0.mk (below_step (by repeat (first | (with_reducible first | exact HB.out | apply below_alloc | apply pw_below_drewN | apply below_drew1) | exact HB.out)) hb); have n1_ := Aside0.mk (hbox); have n2_ := Aside0.mk ((by rw [hg]; exact (below_size (by repeat (first | (with_reducible first | exact HB.out | apply below_alloc | apply pw_below_drewN | apply below_drew1) | exact HB.out))) : w.heap.size ≤ gb129)); have n3_ := Aside0.mk ((by rw [hg]; exact (below_size (by repeat (first | (with_reducible first | exact HB.out | apply below_alloc | apply pw_below_drewN | apply below_drew1) | exact HB.out))) : w.heap.size ≤ gb129)); clear HB; have HB := n0_; have BK129 := n1_; have GW129 := n2_; have GE129 := n3_; clear n0_ n1_ n2_ n3_; clear hb hbox hg))
 (try simp only [Act.put, q1_, q2_, q3_])
 go_cut [11] (fun v11 wc => ∃ (kq : Nat) (x11_1 : Bool), v11 = .bool x11_1 ∧ Aside0 (interregnumref05_Right.j0 kq x11_1 a0_0 a0_1 = some r) ∧ Aside0 (kq ≤ k) ∧ Aside0 (wc.heap[gb129]? = some (.cells #[.int .u32 a0_0, .int .i64 a0_1] 29 (0, 0))) ∧ Aside0 (Below w.heap.size w wc))
 case first =>
  have H := HC2.out
  clear HC2
  by_cases c4 : a0_1 < 0
  ·rw [if_pos c4] at H
   have c4b0 : decide (a0_1 < 0) = true := decide_eq_true c4
   clear c4
   (first | rw [c4b0] | (simp only [i64_w, i32_w]; rw [c4b0]) | skip)
   have H' := Aside0.mk H
   clear H
   have hcz5_0 : w3.cell? ⟨gb129, 0, none⟩ = some (.int .u32 a0_0) := (blk_cell BK129.out 0).trans rfl
   have hcz5_1 : w3.cell? ⟨gb129, 1, none⟩ = some (.int .i64 a0_1) := (blk_cell BK129.out 1).trans rfl
   have hfz5_0 := blk_frozen BK129.out 0
   have hfz5_1 := blk_frozen BK129.out 1
   go_wp2
   go_meet
   case rel => exact ⟨_, (true), (by first | rfl | (simp; done) | (simp [*]; done)), H', ⟨by first | omega | exact Nat.le_refl _⟩, ⟨by (with_reducible repeat (first | refine blk_drewN ?_ _ | refine blk_drew ?_ | refine blk_alloc ?_ _)); exact BK129.out⟩, ⟨by repeat (first | (with_reducible first | exact HB.out | apply below_alloc | apply pw_below_drewN | apply below_drew1 | refine below_set ?_ GE129.out) | exact HB.out)⟩⟩
  rw [if_neg c4] at H
  have c4b0 : decide (a0_1 < 0) = false := decide_eq_false c4
  clear c4
  (first | rw [c4b0] | (simp only [i64_w, i32_w]; rw [c4b0]) | skip)
  have H' := Aside0.mk H
  clear H
  have hcz6_0 : w3.cell? ⟨gb129, 0, none⟩ = some (.int .u32 a0_0) := (blk_cell BK129.out 0).trans rfl
  have hcz6_1 : w3.cell? ⟨gb129, 1, none⟩ = some (.int .i64 a0_1) := (blk_cell BK129.out 1).trans rfl
  have hfz6_0 := blk_frozen BK129.out 0
  have hfz6_1 := blk_frozen BK129.out 1
  go_wp2
  go_meet
  case rel => exact ⟨_, (decide (a0_1 > 32)), (by first | rfl | (simp; done) | (simp [*]; done)), H', ⟨by first | omega | exact Nat.le_refl _⟩, ⟨by (with_reducible repeat (first | refine blk_drewN ?_ _ | refine blk_drew ?_ | refine blk_alloc ?_ _)); exact BK129.out⟩, ⟨by repeat (first | (with_reducible first | exact HB.out | apply below_alloc | apply pw_below_drewN | apply below_drew1 | refine below_set ?_ GE129.out) | exact HB.out)⟩⟩
 case rest =>
  clear HC2
  try clear p2
  try clear c3
  try clear c4
  try clear c4b0
  try clear hcz5_0
  try clear hcz5_1
  try clear hcz6_0
  try clear hcz6_1
  try clear hfz5_0
  try clear hfz5_1
  try clear hfz6_0
  try clear hfz6_1
  obtain ⟨kq, x11_1, rfl, HA, HJ1, BK129, HB⟩ := hcut
  cases kq with
  | zero => exact absurd HA.out (by simp [interregnumref05_Right.j0])
  | succ kj1 =>
  have H := HA.out
  clear HA
  simp only [interregnumref05_Right.j0] at H
  by_cases c7 : x11_1 = true
  ·subst c7
   have H1 : (some false) = some r := by rw [if_pos rfl] at H; exact H
   clear H
   have H := H1
   clear H1
   obtain rfl := Option.some.inj H
   go_wp2
   go_ret
   exact ⟨by first | rfl | (simp [errW_none, errW_some] <;> rfl) | (simp [*, errW_none, errW_some] <;> rfl), by repeat (first | (with_reducible first | exact HB.out | apply below_alloc | apply pw_below_drewN | apply below_drew1 | refine below_set ?_ GE129.out) | exact HB.out)⟩
  replace c7 := Bool.eq_false_iff.mpr c7
  subst c7
  have H1 : (interregnumref05_Right.l0 kj1 a0_1 a0_0 a0_1) = some r := by rw [if_neg (show ¬ (false = true) by decide)] at H; exact H
  clear H
  have H := H1
  clear H1
  have H' := Aside0.mk H
  clear H
  have hcz8_0 : wc.cell? ⟨gb129, 0, none⟩ = some (.int .u32 a0_0) := (blk_cell BK129.out 0).trans rfl
  have hcz8_1 : wc.cell? ⟨gb129, 1, none⟩ = some (.int .i64 a0_1) := (blk_cell BK129.out 1).trans rfl
  have hfz8_0 := blk_frozen BK129.out 0
  have hfz8_1 := blk_frozen BK129.out 1
  go_wp2
  go_loopg [3] kj1 (fun kq v3 w' => ∃ (x3_2 : Int), v3 = .int .i64 x3_2 ∧ Aside0 (interregnumref05_Right.l0 kq x3_2 a0_0 a0_1 = some r) ∧ Aside0 (kq ≤ kj1) ∧ Aside0 (w'.heap[gb129]? = some (.cells #[.int .u32 a0_0, .int .i64 a0_1] 29 (0, 0))) ∧ Aside0 (Below w.heap.size w w'))
  case atStart => exact ⟨(a0_1), (by first | rfl | (simp; done) | (simp [*]; done)), H', ⟨Nat.le_refl _⟩, ⟨by (with_reducible repeat (first | refine blk_drewN ?_ _ | refine blk_drew ?_ | refine blk_alloc ?_ _)); exact BK129.out⟩, ⟨by repeat (first | (with_reducible first | exact HB.out | apply below_alloc | apply pw_below_drewN | apply below_drew1 | refine below_set ?_ GE129.out) | exact HB.out)⟩⟩
  clear H'
  try clear p2
  try clear c3
  try clear c4
  try clear c4b0
  try clear c7
  try clear hcz5_0
  try clear hcz5_1
  try clear hcz6_0
  try clear hcz6_1
  try clear hcz8_0
  try clear hcz8_1
  try clear hfz5_0
  try clear hfz5_1
  try clear hfz6_0
  try clear hfz6_1
  try clear hfz8_0
  try clear hfz8_1
  try clear p2
  obtain ⟨x3_2, rfl, HA, HK2, BK129, HB⟩ := hrel
  cases gk with
  | zero => exact absurd HA.out (by simp [interregnumref05_Right.l0])
  | succ k2 =>
  have H := HA.out
  clear HA
  simp only [interregnumref05_Right.l0] at H
  by_cases c9 : x3_2 < 32
  rotate_left
  ·rw [if_neg c9] at H
   have c9b0 : decide (x3_2 < 32) = false := decide_eq_false c9
   clear c9
   obtain rfl := Option.some.inj H
   go_wp2
   go_ret
   exact ⟨by first | rfl | (simp [errW_none, errW_some] <;> rfl) | (simp [*, errW_none, errW_some] <;> rfl), by repeat (first | (with_reducible first | exact HB.out | apply below_alloc | apply pw_below_drewN | apply below_drew1 | refine below_set ?_ GE129.out) | exact HB.out)⟩
  rw [if_pos c9] at H
  have c9b0 : decide (x3_2 < 32) = true := decide_eq_true c9
  clear c9
  replace H := Option.bind_eq_some_iff.mp H
  obtain ⟨t130, A100, H⟩ := H
  replace H : (if t130 = 1 then (some false) else (interregnumref05_Right.l0 k2 (wrap64 (x3_2 + 1)) a0_0 a0_1)) = some r := H
  have A10 := Aside0.mk A100
  clear A100
  by_cases c11 : t130 = 1
  ·rw [if_pos c11] at H
   have c11b0 : (t130 == 1) = true := beq_iff_eq.mpr c11
   have c11b1 : (t130 != 1) = false := bne_eq_false_iff_eq.mpr c11
   clear c11
   obtain rfl := Option.some.inj H
   have hcz12_0 : wr.cell? ⟨gb129, 0, none⟩ = some (.int .u32 a0_0) := (blk_cell BK129.out 0).trans rfl
   have hcz12_1 : wr.cell? ⟨gb129, 1, none⟩ = some (.int .i64 a0_1) := (blk_cell BK129.out 1).trans rfl
   have hfz12_0 := blk_frozen BK129.out 0
   have hfz12_1 := blk_frozen BK129.out 1
   go_wp2_with (first | ((with_reducible refine gate_callee (f := 50) rfl ?_); refine goesL_ (some 21) rfl rfl Try.func50 (by kernel_rfl) rfl #[.int .u32 a0_0, .int .i64 x3_2] rfl (by (try simp only [List.map_toArray, List.map_cons, List.map_nil]); first | done | rfl | (simp only [List.length_drop, List.length_take]; rfl)) ?_; (with_reducible refine (interregnumref05_Bit.calls a0_0 x3_2 t130 _ A10.out).mono ?_); rintro e w' ⟨rfl, ⟨nd, rfl⟩⟩; refine ⟨_, rfl, ?_⟩))
   go_ret
   exact ⟨by first | rfl | (simp [errW_none, errW_some] <;> rfl) | (simp [*, errW_none, errW_some] <;> rfl), by repeat (first | (with_reducible first | exact HB.out | apply below_alloc | apply pw_below_drewN | apply below_drew1 | refine below_set ?_ GE129.out) | exact HB.out)⟩
  rw [if_neg c11] at H
  have c11b0 : (t130 == 1) = false := beq_eq_false_iff_ne.mpr c11
  have c11b1 : (t130 != 1) = true := bne_iff_ne.mpr c11
  have H' := Aside0.mk H
  clear H
  have hcz13_0 : wr.cell? ⟨gb129, 0, none⟩ = some (.int .u32 a0_0) := (blk_cell BK129.out 0).trans rfl
  have hcz13_1 : wr.cell? ⟨gb129, 1, none⟩ = some (.int .i64 a0_1) := (blk_cell BK129.out 1).trans rfl
  have hfz13_0 := blk_frozen BK129.out 0
  have hfz13_1 := blk_frozen BK129.out 1
  go_wp2_with (first | ((with_reducible refine gate_callee (f := 50) rfl ?_); refine goesL_ (some 21) rfl rfl Try.func50 (by kernel_rfl) rfl #[.int .u32 a0_0, .int .i64 x3_2] rfl (by (try simp only [List.map_toArray, List.map_cons, List.map_nil]); first | done | rfl | (simp only [List.length_drop, List.length_take]; rfl)) ?_; (with_reducible refine (interregnumref05_Bit.calls a0_0 x3_2 t130 _ A10.out).mono ?_); rintro e w' ⟨rfl, ⟨nd, rfl⟩⟩; refine ⟨_, rfl, ?_⟩))
  go_roundg k2
  case measure => have := HJ1.out; have := HK2.out; omega
  case rel => exact ⟨(wrap64 (x3_2 + 1)), (by first | rfl | (simp; done) | (simp [*]; done)), H', ⟨by have := HJ1.out; have := HK2.out; omega⟩, ⟨by (with_reducible repeat (first | refine blk_drewN ?_ _ | refine blk_drew ?_ | refine blk_alloc ?_ _)); exact BK129.out⟩, ⟨by repeat (first | (with_reducible first | exact HB.out | apply below_alloc | apply pw_below_drewN | apply below_drew1 | refine below_set ?_ GE129.out) | exact HB.out)⟩⟩

end Go.Proofs.Ytjdebhkdbdbepaa.PExportTells
