/- Whole arrays and structs out of, and into, the midst of a block that is known whole. No program in sight. -/
import Derived.Deep.MidRow
import Derived.Laws.CopyOwn
import Derived.Test.YtjdebhkdbdbepaaWWords
import Derived.Test.YtjdebhkdbdbepaaDisk
namespace Go.Proofs.Ytjdebhkdbdbepaa.Mid
open Go.RowKit Go.Proofs.YtjdebhkdbdbepaaW.PrintWords
set_option linter.unusedVariables false
set_option linter.unusedSimpArgs false
/-- For trials alone: a walk stops at a goal that is held. -/
def Hold (p : Prop) : Prop := p
theorem hold {p : Prop} (h : Hold p) : p := h
theorem unhold {p : Prop} (h : p) : Hold p := h
section
variable {P : Program} {ops : Array Oper} {rest : List Oper} {o : Oper} {a : Act} {w : World} {Q : Exit → Act → World → Prop}
theorem range_of_block {g off : Nat} {cur : Array Value} {t : TypeId} {fr : Nat × Nat} {cs : List Value} (hb : w.heap[g]? = some (.cells cur t fr)) (hc : ∀ j v, cs[j]? = some v → cur.toList[off + j]? = some v) : w.rangeAt g off cs := fun j v hv => by
  have h := hc j v hv
  simp only [World.cell?, hb]
  simpa using h
theorem load_blk (hgd : o.guard = none) (ty : TypeId) (x : Operand) (ho : o.op = .load ty x) {g off : Nat} {cur : Array Value} {t : TypeId} {fr : Nat × Nat} (cs : List Value) (d : TypeDesc)
    (hx : a.eval x = .pointer (some ⟨g, off, none⟩)) (hb : w.heap[g]? = some (.cells cur t fr)) (hc : ∀ j v, cs[j]? = some v → cur.toList[off + j]? = some v)
    (hu : P.underlying ty = some d) (hd : d.isRow = true) (hi : (P.info? ty).map (·.size) = some cs.length) (h : wpList P ops Q rest (a.put o.dst (.agg cs.toArray)) w) : wpList P ops Q (o :: rest) a w :=
  wpList_load_mid hgd ty x ho g off hx cs d (range_of_block hb hc) hu hd hi h
theorem there_of_block {g off n : Nat} {cur : Array Value} {t : TypeId} (hb : w.heap[g]? = some (.cells cur t (0, 0))) (hf : off + n ≤ cur.size) : w.there g off n := fun j hj => by
  refine ⟨?_, blk_frozen hb _⟩
  simp only [World.cell?, hb]
  have : off + j < cur.size := by omega
  simp [this]
theorem grown_setCells (g off : Nat) (vs : List Value) (w : World) : w.grownBy (w.setCells g off vs) (some g) := by
  obtain ⟨h1, h2, h3, h4⟩ := setCells_same g vs off w
  exact ⟨h1, h2, h3, Nat.le_of_eq h4.symm, fun k hk hne => setCells_far vs off k (fun e => hne (by rw [e]))⟩
theorem store_blk (hgd : o.guard = none) (ty : TypeId) (x y : Operand) (ho : o.op = .store ty x y) {g off : Nat} {cur : Array Value} {t : TypeId} (cs : List Value)
    (hx : a.eval x = .pointer (some ⟨g, off, none⟩)) (hy : a.eval y = .agg cs.toArray) (hb : w.heap[g]? = some (.cells cur t (0, 0))) (hf : off + cs.length ≤ cur.size)
    (hi : (P.info? ty).map (·.size) = some cs.length) (h1 : ∀ v ∈ cs, v.oneCell' = true)
    (h : ∀ w1 cur', w1.heap[g]? = some (.cells cur' t (0, 0)) → cur'.toList = cur.toList.take off ++ cs ++ cur.toList.drop (off + cs.length) → w.grownBy w1 (some g) → w1.heap.size = w.heap.size → wpList P ops Q rest (a.put o.dst undef) w1) :
    wpList P ops Q (o :: rest) a w := by
  refine wpList_store_mid hgd ty x y ho g off cs.toArray hx hy (there_of_block hb (by simpa using hf)) (by simpa using hi) (all_oneCell_toArray h1) ?_
  obtain ⟨cur', hb', _, he⟩ := setCells_row cs off w cur hb hf
  have hs := setCells_same g cs off w
  exact h _ cur' hb' he (grown_setCells g off cs w) hs.2.2.2
/-- .. into a new variable: it holds just what was stored. -/
theorem store_new (hgd : o.guard = none) (ty : TypeId) (x y : Operand) (ho : o.op = .store ty x y) {g : Nat} {cur : Array Value} {t : TypeId} (cs : List Value)
    (hx : a.eval x = .pointer (some ⟨g, 0, none⟩)) (hy : a.eval y = .agg cs.toArray) (hb : w.heap[g]? = some (.cells cur t (0, 0))) (hf : cs.length = cur.size)
    (hi : (P.info? ty).map (·.size) = some cs.length) (h1 : ∀ v ∈ cs, v.oneCell' = true)
    (h : ∀ w1, w1.heap[g]? = some (.cells cs.toArray t (0, 0)) → w.grownBy w1 (some g) → w1.heap.size = w.heap.size → wpList P ops Q rest (a.put o.dst undef) w1) :
    wpList P ops Q (o :: rest) a w := by
  refine store_blk hgd ty x y ho cs hx hy hb (by omega) hi h1 ?_
  intro w1 cur' hb' he hg hs
  have : cur' = cs.toArray := by
    apply Array.toList_inj.1
    rw [he]
    rw [List.drop_of_length_le (by simp; omega)]
    simp
  exact h w1 (this ▸ hb') hg hs
/-- A slice of one value of many cells. -/
theorem foldl_fill (cs : List Value) : ∀ (k : Nat) (z : Array Value), k + cs.length ≤ z.size → (List.foldl (fun (zs : Array Value) (x : Value × Nat) => zs.setIfInBounds (0 + x.2) x.1) z (cs.zipIdx k)).toList = z.toList.take k ++ cs ++ z.toList.drop (k + cs.length) := by
  induction cs with
  | nil => intro k z _; simp
  | cons c r ih =>
    intro k z h
    rw [List.length_cons] at h
    rw [List.zipIdx_cons, List.foldl_cons, ih (k + 1) _ (by simp; omega)]
    simp only [Array.toList_setIfInBounds, Nat.zero_add]
    have h1 : (z.toList.set k c).take (k + 1) = z.toList.take k ++ [c] := by
      rw [List.set_eq_take_append_cons_drop, if_pos (by simp; omega)]
      have hk : (List.take k z.toList).length = k := by simp; omega
      rw [List.take_append, hk, show k + 1 - k = 1 by omega, List.take_of_length_le (by omega)]
      simp
    rw [h1, List.drop_set_of_lt (by omega), show k + 1 + r.length = k + (r.length + 1) by omega]
    simp
theorem run_buildSlice_one (w : World) (t e : TypeId) (i : TypeInfo) (z : Value) (ht : P.underlying t = some (.slice e)) (hi : P.info? e = some i) (hz : i.zero = some z) (cs : List Value) (hs : i.size = cs.length) (hz2 : z.cells.size = cs.length) (hp : 0 < cs.length) (hm : cs.length ≤ 16777216) :
    (Instr.buildSlice t 1 #[(0, .agg cs.toArray)]).run P w = .ok (.slice (some ⟨w.heap.size, 0, none⟩) 1 1) (w.alloc (.cells cs.toArray e)) := by
  have n1 : ¬ (16777216 < cs.length) := by omega
  have n2 : ¬ cs.length = 0 := by omega
  have hf : (List.foldl (fun (zs : Array Value) (x : Value × Nat) => zs.setIfInBounds x.2 x.1) ((Array.range cs.length).map (z.cells[· % z.cells.size]!)) cs.zipIdx) = cs.toArray := by
    apply Array.toList_inj.1
    have := foldl_fill cs 0 ((Array.range cs.length).map (z.cells[· % z.cells.size]!)) (by simp)
    simp only [Nat.zero_add] at this
    rw [this]
    rw [List.drop_of_length_le (by simp)]
    simp
  simp [Instr.buildSlice, run_underlying ht, typeInfo, hi, sizeOf, hs, zeroValue, hz, n1, n2, newRow, Instr.fill, Value.cells]
  exact congrArg (fun x => w.alloc (.cells x e)) hf
theorem step_slice_one {o : Oper} {K : Act → World → Prop} {Q : Exit → Act → World → Prop} {E : Prop} (hgd : o.guard = none) {t e : TypeId} (x : Operand) (ho : o.op = .buildSlice t 1 #[(0, x)]) (cs : List Value) (hx : a.eval x = .agg cs.toArray) (i : TypeInfo) (z : Value)
    (ht : P.underlying t = some (.slice e)) (hi : P.info? e = some i) (hz : i.zero = some z) (hs : i.size = cs.length) (hz2 : z.cells.size = cs.length) (hp : 0 < cs.length) (hm : cs.length ≤ 16777216)
    (h : K (a.put o.dst (.slice (some ⟨w.heap.size, 0, none⟩) 1 1)) (w.alloc (.cells cs.toArray e))) :
    if Region.wanted o (yielded ops a.tmps) = true then Oper.wp P o a w K Q else E := by
  have hw : Region.wanted o (yielded ops a.tmps) = true := by simp [Region.wanted, hgd]
  rw [if_pos hw]
  unfold Oper.wp
  have : (execOp a.eval o).run P w = .ok (.value (.slice (some ⟨w.heap.size, 0, none⟩) 1 1)) (w.alloc (.cells cs.toArray e)) := by
    have hr := run_buildSlice_one w t e i z ht hi hz cs hs hz2 hp hm
    simp [execOp, ho, hx, hr, Result.andThen]
  rw [this]
  exact h
/-- 'copy' into the midst of a block that is known whole, as one step of a region that draws its order. -/
theorem step_copy_row {o : Oper} {K : Act → World → Prop} {Q : Exit → Act → World → Prop} {E : Prop} (hgd : o.guard = none) (d s : Operand) (dT sT : TypeId)
    (ho : o.op = .call { callee := .builtin .copy, args := #[d, s], argTypes := #[dT, sT] }) (elem : TypeId) (hu : P.underlying dT = some (.slice elem)) (hsz : (P.info? elem).map (·.size) = some 1)
    (g off dLen dCap : Nat) (ad : Addr) (sLen sCap : Nat) (hd : a.eval d = .slice (some ⟨g, off, none⟩) dLen dCap) (hs : a.eval s = .slice (some ad) sLen sCap)
    (cur : List Value) (t : TypeId) (hg : w.heap[g]? = some (.cells cur.toArray t (0, 0))) (cs : List Value) (hn : cs.length = Nat.min sLen dLen)
    (hsrc : ∀ j v, cs[j]? = some v → w.cell? (ad.add j) = some v) (hfit : off + cs.length ≤ cur.length) (h1 : ∀ v ∈ cs, v.oneCell' = true)
    (h : ∀ w', w'.heap[g]? = some (.cells (cur.take off ++ cs ++ cur.drop (off + cs.length)).toArray t (0, 0)) → w.grownBy w' (some g) → K (a.put o.dst (goInt cs.length)) w') :
    if Region.wanted o (yielded ops a.tmps) = true then Oper.wp P o a w K Q else E := by
  have hw : Region.wanted o (yielded ops a.tmps) = true := by simp [Region.wanted, hgd]
  rw [if_pos hw]
  have hrun := run_copy_row (P := P) w dT sT o.type elem g off dLen dCap ad sLen sCap cur.toArray t cs hu hsz hg hn hsrc (by simpa using hfit) h1
  unfold Oper.wp
  simp [execOp, ho, resolve, invoke, builtin, hd, hs, hrun, Result.andThen]
  refine h _ (by simpa using setRow_heap w g _ _ t _ hg) ⟨rfl, rfl, rfl, by simp [World.setRow], fun k hk hne => setRow_other w g k _ (fun e => hne (by rw [e]))⟩
end
open Disk in
theorem elem_one (p : Int × List Int) : ∀ v ∈ (Value.int .i64 p.1 :: Disk.bytes p.2), v.oneCell' = true := by
  intro v hv
  rcases List.mem_cons.1 hv with rfl | hv
  · rfl
  · unfold Disk.bytes at hv
    obtain ⟨x, _, rfl⟩ := List.mem_map.1 hv
    rfl
open Disk in
theorem flat_get {l : List (Int × List Int)} (h : ∀ p ∈ l, p.2.length = 64) {k : Nat} (hk : k < l.length) (j : Nat) (v : Value) (hv : (Value.int .i64 (l[k]).1 :: Disk.bytes (l[k]).2)[j]? = some v) : (flat l)[k * 65 + j]? = some v := by
  induction l generalizing k with
  | nil => simp at hk
  | cons p r ih =>
    have hp := h p List.mem_cons_self
    have hpl : (Value.int .i64 p.1 :: Disk.bytes p.2).length = 65 := by simp [Disk.bytes, hp]
    unfold flat
    rw [List.flatMap_cons]
    cases k with
    | zero =>
      have hj : j < (Value.int .i64 p.1 :: Disk.bytes p.2).length := (List.getElem?_eq_some_iff.1 hv).1
      rw [Nat.zero_mul, Nat.zero_add, List.getElem?_append_left hj]
      exact hv
    | succ k =>
      rw [List.getElem?_append_right (by omega), hpl, show (k + 1) * 65 + j - 65 = k * 65 + j by omega]
      exact ih (fun q hq => h q (List.mem_cons_of_mem _ hq)) (by simpa using hk) hv
end Go.Proofs.Ytjdebhkdbdbepaa.Mid
