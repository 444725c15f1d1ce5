/- Whole arrays and structs out of, and into, the midst of a block that is known whole. No program in sight. -/
import Derived.Deep.MidRow
import Derived.Laws.CopyOwn
import Derived.Test.YtjdebhkdbdbepaaWWords
import Derived.Test.YtjdebhkdbdbepaaDisk
namespace Go.Proofs.Ytjdebhkdbdbepaa.Mid
open Go.RowKit Go.Proofs.YtjdebhkdbdbepaaW.PrintWords
set_option linter.unusedVariables false
set_option linter.unusedSimpArgs false
/-- For trials alone: a walk stops at a goal that is held. -/
def Hold (p : Prop) : Prop := p
theorem hold {p : Prop} (h : Hold p) : p := h
section
variable {P : Program} {ops : Array Oper} {rest : List Oper} {o : Oper} {a : Act} {w : World} {Q : Exit → Act → World → Prop}
theorem range_of_block {g off : Nat} {cur : Array Value} {t : TypeId} {fr : Nat × Nat} {cs : List Value} (hb : w.heap[g]? = some (.cells cur t fr)) (hc : ∀ j v, cs[j]? = some v → cur.toList[off + j]? = some v) : w.rangeAt g off cs := fun j v hv => by
  have h := hc j v hv
  simp only [World.cell?, hb]
  simpa using h
theorem load_blk (hgd : o.guard = none) (ty : TypeId) (x : Operand) (ho : o.op = .load ty x) {g off : Nat} {cur : Array Value} {t : TypeId} {fr : Nat × Nat} (cs : List Value) (d : TypeDesc)
    (hx : a.eval x = .pointer (some ⟨g, off, none⟩)) (hb : w.heap[g]? = some (.cells cur t fr)) (hc : ∀ j v, cs[j]? = some v → cur.toList[off + j]? = some v)
    (hu : P.underlying ty = some d) (hd : d.isRow = true) (hi : (P.info? ty).map (·.size) = some cs.length) (h : wpList P ops Q rest (a.put o.dst (.agg cs.toArray)) w) : wpList P ops Q (o :: rest) a w :=
  wpList_load_mid hgd ty x ho g off hx cs d (range_of_block hb hc) hu hd hi h
theorem there_of_block {g off n : Nat} {cur : Array Value} {t : TypeId} (hb : w.heap[g]? = some (.cells cur t (0, 0))) (hf : off + n ≤ cur.size) : w.there g off n := fun j hj => by
  refine ⟨?_, blk_frozen hb _⟩
  simp only [World.cell?, hb]
  have : off + j < cur.size := by omega
  simp [this]
theorem grown_setCells (g off : Nat) (vs : List Value) (w : World) : w.grownBy (w.setCells g off vs) (some g) := by
  obtain ⟨h1, h2, h3, h4⟩ := setCells_same g vs off w
  exact ⟨h1, h2, h3, Nat.le_of_eq h4.symm, fun k hk hne => setCells_far vs off k (fun e => hne (by rw [e]))⟩
theorem store_blk (hgd : o.guard = none) (ty : TypeId) (x y : Operand) (ho : o.op = .store ty x y) {g off : Nat} {cur : Array Value} {t : TypeId} (cs : List Value)
    (hx : a.eval x = .pointer (some ⟨g, off, none⟩)) (hy : a.eval y = .agg cs.toArray) (hb : w.heap[g]? = some (.cells cur t (0, 0))) (hf : off + cs.length ≤ cur.size)
    (hi : (P.info? ty).map (·.size) = some cs.length) (h1 : ∀ v ∈ cs, v.oneCell' = true)
    (h : ∀ w1 cur', w1.heap[g]? = some (.cells cur' t (0, 0)) → cur'.toList = cur.toList.take off ++ cs ++ cur.toList.drop (off + cs.length) → w.grownBy w1 (some g) → w1.heap.size = w.heap.size → wpList P ops Q rest (a.put o.dst undef) w1) :
    wpList P ops Q (o :: rest) a w := by
  refine wpList_store_mid hgd ty x y ho g off cs.toArray hx hy (there_of_block hb (by simpa using hf)) (by simpa using hi) (all_oneCell_toArray h1) ?_
  obtain ⟨cur', hb', _, he⟩ := setCells_row cs off w cur hb hf
  have hs := setCells_same g cs off w
  exact h _ cur' hb' he (grown_setCells g off cs w) hs.2.2.2
/-- .. into a new variable: it holds just what was stored. -/
theorem store_new (hgd : o.guard = none) (ty : TypeId) (x y : Operand) (ho : o.op = .store ty x y) {g : Nat} {cur : Array Value} {t : TypeId} (cs : List Value)
    (hx : a.eval x = .pointer (some ⟨g, 0, none⟩)) (hy : a.eval y = .agg cs.toArray) (hb : w.heap[g]? = some (.cells cur t (0, 0))) (hf : cs.length = cur.size)
    (hi : (P.info? ty).map (·.size) = some cs.length) (h1 : ∀ v ∈ cs, v.oneCell' = true)
    (h : ∀ w1, w1.heap[g]? = some (.cells cs.toArray t (0, 0)) → w.grownBy w1 (some g) → w1.heap.size = w.heap.size → wpList P ops Q rest (a.put o.dst undef) w1) :
    wpList P ops Q (o :: rest) a w := by
  refine store_blk hgd ty x y ho cs hx hy hb (by omega) hi h1 ?_
  intro w1 cur' hb' he hg hs
  have : cur' = cs.toArray := by
    apply Array.toList_inj.1
    rw [he]
    rw [List.drop_of_length_le (by simp; omega)]
    simp
  exact h w1 (this ▸ hb') hg hs
end
end Go.Proofs.Ytjdebhkdbdbepaa.Mid
