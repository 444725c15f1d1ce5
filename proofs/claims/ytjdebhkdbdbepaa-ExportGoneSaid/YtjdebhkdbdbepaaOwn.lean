/- Rows of the call's own of which the capacity was cut, and rows of which only the length is known. -/
import Derived.Test.YtjdebhkdbdbepaaInts
import Derived.Test.YtjdebhkdbdbepaaMid
namespace Go.Proofs.Ytjdebhkdbdbepaa.Own
open Go Go.RowKit Go.Proofs.YtjdebhkdbdbepaaW.PrintWords Go.Proofs.YtjdebhkdbdbepaaW.PrintLast Go.Proofs.YtjdebhkdbdbepaaW.PrintMore Go.Proofs.Ytjdebhkdbdbepaa.Ints
set_option linter.unusedVariables false
/-- A slice of whole numbers, a row of the call's own of which the capacity may have been cut. Read, it is any slice. -/
def cut (e : Nat) (k : IntKind) : Kd (List Int) where
  sz := 1
  E := [e]
  K := fun w xs cs => ∃ A c, cs = [.slice A xs.length c] ∧ xs.length ≤ c ∧ (Kd.int k).C w A xs.length xs
  M := fun w base ok xs cs => ∃ A n c c', cs = [.slice A n c] ∧ n ≤ c ∧ (Kd.int k).R e w base ok (.slice A n c') xs
  K_len := by
    rintro w x cs ⟨A, c, rfl, _⟩
    rfl
  K_one := by
    rintro w x cs ⟨A, c, rfl, _⟩ u hu
    rw [List.mem_singleton.1 hu]
    rfl
  K_below := by
    rintro w w1 x cs hb ⟨A, c, rfl, hl, hr⟩
    exact ⟨A, c, rfl, hl, Kd.C_below hr hb⟩
  K_of_M := by
    rintro w base ok x cs ⟨A, n, c, c', rfl, hl, h⟩
    obtain ⟨rfl, _, hr⟩ := Kd.R_reads' h
    exact ⟨A, c, rfl, hl, hr⟩
  M_mono := by
    rintro w base ok ok' x cs hok ⟨A, n, c, c', rfl, hl, h⟩
    exact ⟨A, n, c, c', rfl, hl, Kd.R_mono h hok⟩
  M_bound := by
    rintro w base ok x cs ⟨A, n, c, c', rfl, hl, h⟩
    exact ⟨A, n, c, c', rfl, hl, Kd.R_bound h⟩
  M_move := by
    rintro w w1 base ok x cs hm ⟨A, n, c, c', rfl, hl, h⟩
    exact ⟨A, n, c, c', rfl, hl, Kd.R_move h hm⟩
  M_lower := by
    rintro w base base' ok x cs hb ⟨A, n, c, c', rfl, hl, h⟩
    exact ⟨A, n, c, c', rfl, hl, Kd.R_lower h hb⟩
/-- A slice of m whole numbers, of the call's own. -/
def lenRow (e : Nat) (k : IntKind) : Kd Nat where
  sz := 1
  E := [e]
  K := fun w m cs => ∃ A c, cs = [.slice A m c]
  M := fun w base ok m cs => ∃ A c, cs = [.slice A m c] ∧ m ≤ c ∧ m ≤ 9223372036854775807 ∧ Ints base w k e A m ∧ (0 < m → ∀ g, A = some ⟨g, 0, none⟩ → ok g)
  K_len := by
    rintro w x cs ⟨A, c, rfl⟩
    rfl
  K_one := by
    rintro w x cs ⟨A, c, rfl⟩ u hu
    rw [List.mem_singleton.1 hu]
    rfl
  K_below := fun _ h => h
  K_of_M := by
    rintro w base ok x cs ⟨A, c, rfl, _⟩
    exact ⟨A, c, rfl⟩
  M_mono := by
    rintro w base ok ok' x cs hok ⟨A, c, rfl, hl, hm, hi, ho⟩
    exact ⟨A, c, rfl, hl, hm, hi, fun h0 g hg => hok g (ho h0 g hg)⟩
  M_bound := by
    rintro w base ok x cs ⟨A, c, rfl, hl, hm, hi, ho⟩
    refine ⟨A, c, rfl, hl, hm, hi, fun h0 g hg => ?_⟩
    obtain ⟨g', cells, hA, hB, hcell, _⟩ := hi h0
    rw [hg] at hA
    injection hA with hA
    injection hA with hA
    subst hA
    exact ⟨ho h0 g hg, hB, blk_lt hcell, e, List.mem_singleton.2 rfl, cells, hcell⟩
  M_move := by
    rintro w w1 base ok x cs hmv ⟨A, c, rfl, hl, hm, hi, ho⟩
    refine ⟨A, c, rfl, hl, hm, fun h0 => ?_, ho⟩
    obtain ⟨g, cells, hA, hB, hcell, hc⟩ := hi h0
    exact ⟨g, cells, hA, hB, (hmv g (ho h0 g hA)).trans hcell, hc⟩
  M_lower := by
    rintro w base base' ok x cs hb ⟨A, c, rfl, hl, hm, hi, ho⟩
    exact ⟨A, c, rfl, hl, hm, hi.lower hb, ho⟩
section
variable {w : World} {base : Nat} {ok : Nat → Prop} {e : Nat} {k : IntKind}
theorem ints_shape {A : Option Addr} {n c c' : Nat} {xs : List Int} (hl : n ≤ c) (h : (Kd.int k).R e w base ok (.slice A n c') xs) : (lenRow e k).M w base ok xs.length [.slice A n c] := by
  obtain ⟨rfl, _, hr⟩ := Kd.R_reads' h
  refine ⟨A, c, rfl, hl, Kd.C_max hr, Ints.of_R h, fun h0 g hg => h.1 g ?_⟩
  subst hg
  obtain ⟨g', cap, he, _⟩ := Kd.R_form h h0
  injection he with h1
  injection h1 with h1
  injection h1 with h1
  subst h1
  rfl
theorem cut_shape {xs : List Int} {cs : List Value} (h : (cut e k).M w base ok xs cs) : (lenRow e k).M w base ok xs.length cs := by
  obtain ⟨A, n, c, c', rfl, hl, h⟩ := h
  exact ints_shape hl h
theorem slice_shape {xs : List Int} {cs : List Value} (h : (Kd.slice e (Kd.int k)).M w base ok xs cs) : (lenRow e k).M w base ok xs.length cs := by
  obtain ⟨v, rfl, h⟩ := h
  obtain ⟨A, c, rfl⟩ := Kd.R_slice h
  exact ints_shape (Kd.R_reads' h).2.1 h
/-- A store of a number of the block's kind leaves the shapes. -/
theorem shape_put {m : Nat} {cs : List Value} (h : (lenRow e k).M w base ok m cs) {g j : Nat} {kd2 : IntKind} {x : Int} {cells : Array Value} {e2 : TypeId} (hg : w.heap[g]? = some (.cells cells e2 (0, 0))) (hk : e2 = e → kd2 = k) : (lenRow e k).M (w.setCell ⟨g, j, none⟩ (.int kd2 x)) base ok m cs := by
  obtain ⟨A, c, rfl, hl, hm, hi, ho⟩ := h
  exact ⟨A, c, rfl, hl, hm, Ints.put hi hg hk, ho⟩
end
section
variable {α β : Type} {d : Kd α} {d' : Kd β} {w w1 : World} {base e : Nat} {ok : Nat → Prop} {v : Value} {xs : List α}
theorem R_map (f : α → β) (hsz : d'.sz = d.sz) (hM : ∀ ok x cs, d.M w base ok x cs → d'.M w base ok (f x) cs) (h : d.R e w base ok v xs) : d'.R e w base ok v (xs.map f) := by
  obtain ⟨h0, inner, ho, hr⟩ := h
  refine ⟨h0, inner, by rw [List.length_map, hsz]; exact ho, by rw [List.length_map, hsz]; exact hr.1, fun j p hj => ?_⟩
  rw [List.getElem?_map] at hj
  obtain ⟨x, hx, rfl⟩ := Option.map_eq_some_iff.1 hj
  rw [hsz]
  exact hM _ _ _ (hr.2 j x hx)
/-- A store outside of the row, which leaves what its elements have. -/
theorem R_putM (h : d.R e w base ok v xs) (hne : ∀ k, v.ownBlock = some k → w1.heap[k]? = w.heap[k]?) (hM : ∀ ok x cs, d.M w base ok x cs → d.M w1 base ok x cs) : d.R e w1 base ok v xs := by
  obtain ⟨h0, inner, ho, hr⟩ := h
  exact ⟨h0, inner, own_move ho hne, hr.imp_ (fun _ _ hp => hM _ _ _ hp)⟩
/-- An element of a row of the call's own, with what is known of what it leads to. -/
theorem R_get {A : Option Addr} {n c : Nat} (h : d.R e w base ok (.slice A n c) xs) (z : α) (i : Int) (h0 : 0 ≤ i) (h1 : i < n) : ∃ g cs, A = some ⟨g, 0, none⟩ ∧ ok g ∧ (∃ cells, w.heap[g]? = some (.cells cells e (0, 0))) ∧ cs.length = d.sz ∧ d.M w base (fun k => ok k ∧ some k ≠ (Value.slice A n c).ownBlock) (xs.getD i.toNat z) cs ∧ ∀ j u, cs[j]? = some u → w.cell? ((⟨g, 0, none⟩ : Addr).add (i.toNat * d.sz + j)) = some u := by
  have hn : n = xs.length := (Kd.R_reads' h).1
  obtain ⟨g, cap, he, _, _, cells, hcells⟩ := Kd.R_form h (by omega)
  injection he with hA _ _
  obtain ⟨A', c', he', _, hrow⟩ := OwnRow.reads h.2
  injection he' with hA' _ _
  obtain ⟨ad, cs, hAd, hlen, hM, hcell⟩ := ReadsRow.get_ hrow z i h0 (by omega)
  rw [← hA', hA] at hAd
  injection hAd with hAd
  subst hAd
  exact ⟨g, cs, hA, h.1 g (by subst hA; rfl), ⟨cells, hcells⟩, hlen, hM, hcell⟩
end
section
open Go.Proofs.Ytjdebhkdbdbepaa.Mid
variable {P : Program} {ops : Array Oper} {o : Oper} {a : Act} {w : World} {Q : Exit → Act → World → Prop} {K : Act → World → Prop}
/-- A load of many cells, as a region that draws its order asks it. -/
theorem load_run (ty : TypeId) (x : Operand) (ho : o.op = .load ty x) {g off : Nat} {cur : Array Value} {t : TypeId} {fr : Nat × Nat} (cs : List Value) (d : TypeDesc)
    (hx : a.eval x = .pointer (some ⟨g, off, none⟩)) (hb : w.heap[g]? = some (.cells cur t fr)) (hc : ∀ j v, cs[j]? = some v → cur.toList[off + j]? = some v)
    (hu : P.underlying ty = some d) (hd : d.isRow = true) (hi : (P.info? ty).map (·.size) = some cs.length) : (execOp a.eval o).run P w = .ok (.value (.agg cs.toArray)) w := by
  unfold execOp
  simp only [ho, hx, Instr.loadAt, Instr.sureAddr, Sem.run_bind, Sem.run_pure, Result.andThen_ok, run_loadVar_mid w g off ty cs d (range_of_block hb hc) hu hd hi]
/-- A store of many cells into a new variable, in a region that draws its order. -/
theorem store_new_step (hw : Region.wanted o (yielded ops a.tmps) = true) (hN : o.dst = none) (ty : TypeId) (x y : Operand) (ho : o.op = .store ty x y) {g : Nat} {cur : Array Value} {t : TypeId} (cs : List Value)
    (hx : a.eval x = .pointer (some ⟨g, 0, none⟩)) (hy : a.eval y = .agg cs.toArray) (hb : w.heap[g]? = some (.cells cur t (0, 0))) (hf : cs.length = cur.size)
    (hi : (P.info? ty).map (·.size) = some cs.length) (h1 : ∀ v ∈ cs, v.oneCell' = true)
    (h : ∀ w1, w1.heap[g]? = some (.cells cs.toArray t (0, 0)) → w.grownBy w1 (some g) → w1.heap.size = w.heap.size → K a w1) :
    if Region.wanted o (yielded ops a.tmps) = true then Oper.wp P o a w K Q else K (a.put none undef) w := by
  rw [if_pos hw]
  refine wp_store_mid ty x y ho g 0 cs.toArray hx hy (there_of_block hb (by simp; omega)) (by simpa using hi) (all_oneCell_toArray h1) ?_
  obtain ⟨cur', hb', _, he⟩ := setCells_row cs 0 w cur hb (by omega)
  have hs := setCells_same g cs 0 w
  have : cur' = cs.toArray := by
    apply Array.toList_inj.1
    rw [he]
    rw [List.drop_of_length_le (by simp; omega)]
    simp
  subst this
  rw [hN]
  exact h _ hb' (grown_setCells g 0 cs w) hs.2.2.2
end
end Go.Proofs.Ytjdebhkdbdbepaa.Own
