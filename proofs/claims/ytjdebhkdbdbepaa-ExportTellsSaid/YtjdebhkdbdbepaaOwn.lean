/- Rows of the call's own of which the capacity was cut, and rows of which only the length is known. -/
import Derived.Test.YtjdebhkdbdbepaaInts
import Derived.Test.YtjdebhkdbdbepaaMid
namespace Go.Proofs.Ytjdebhkdbdbepaa.Own
open Go Go.RowKit Go.Proofs.YtjdebhkdbdbepaaW.PrintWords Go.Proofs.YtjdebhkdbdbepaaW.PrintLast Go.Proofs.YtjdebhkdbdbepaaW.PrintMore Go.Proofs.Ytjdebhkdbdbepaa.Ints
set_option linter.unusedVariables false
/-- A slice of whole numbers, a row of the call's own of which the capacity may have been cut. Read, it is any slice. -/
def cut (e : Nat) (k : IntKind) : Kd (List Int) where
  sz := 1
  E := [e]
  K := fun w xs cs => ∃ A c, cs = [.slice A xs.length c] ∧ xs.length ≤ c ∧ (Kd.int k).C w A xs.length xs
  M := fun w base ok xs cs => ∃ A n c c', cs = [.slice A n c] ∧ n ≤ c ∧ (Kd.int k).R e w base ok (.slice A n c') xs
  K_len := by
    rintro w x cs ⟨A, c, rfl, _⟩
    rfl
  K_one := by
    rintro w x cs ⟨A, c, rfl, _⟩ u hu
    rw [List.mem_singleton.1 hu]
    rfl
  K_below := by
    rintro w w1 x cs hb ⟨A, c, rfl, hl, hr⟩
    exact ⟨A, c, rfl, hl, Kd.C_below hr hb⟩
  K_of_M := by
    rintro w base ok x cs ⟨A, n, c, c', rfl, hl, h⟩
    obtain ⟨rfl, _, hr⟩ := Kd.R_reads' h
    exact ⟨A, c, rfl, hl, hr⟩
  M_mono := by
    rintro w base ok ok' x cs hok ⟨A, n, c, c', rfl, hl, h⟩
    exact ⟨A, n, c, c', rfl, hl, Kd.R_mono h hok⟩
  M_bound := by
    rintro w base ok x cs ⟨A, n, c, c', rfl, hl, h⟩
    exact ⟨A, n, c, c', rfl, hl, Kd.R_bound h⟩
  M_move := by
    rintro w w1 base ok x cs hm ⟨A, n, c, c', rfl, hl, h⟩
    exact ⟨A, n, c, c', rfl, hl, Kd.R_move h hm⟩
  M_lower := by
    rintro w base base' ok x cs hb ⟨A, n, c, c', rfl, hl, h⟩
    exact ⟨A, n, c, c', rfl, hl, Kd.R_lower h hb⟩
section
variable {w : World} {base : Nat} {ok : Nat → Prop} {e : Nat} {k : IntKind}
end
section
variable {α β : Type} {d : Kd α} {d' : Kd β} {w w1 : World} {base e : Nat} {ok : Nat → Prop} {v : Value} {xs : List α}
/-- An element of a row of the call's own, with what is known of what it leads to. -/
theorem R_get {A : Option Addr} {n c : Nat} (h : d.R e w base ok (.slice A n c) xs) (z : α) (i : Int) (h0 : 0 ≤ i) (h1 : i < n) : ∃ g cs, A = some ⟨g, 0, none⟩ ∧ ok g ∧ (∃ cells, w.heap[g]? = some (.cells cells e (0, 0))) ∧ cs.length = d.sz ∧ d.M w base (fun k => ok k ∧ some k ≠ (Value.slice A n c).ownBlock) (xs.getD i.toNat z) cs ∧ ∀ j u, cs[j]? = some u → w.cell? ((⟨g, 0, none⟩ : Addr).add (i.toNat * d.sz + j)) = some u := by
  have hn : n = xs.length := (Kd.R_reads' h).1
  obtain ⟨g, cap, he, _, _, cells, hcells⟩ := Kd.R_form h (by omega)
  injection he with hA _ _
  obtain ⟨A', c', he', _, hrow⟩ := OwnRow.reads h.2
  injection he' with hA' _ _
  obtain ⟨ad, cs, hAd, hlen, hM, hcell⟩ := ReadsRow.get_ hrow z i h0 (by omega)
  rw [← hA', hA] at hAd
  injection hAd with hAd
  subst hAd
  exact ⟨g, cs, hA, h.1 g (by subst hA; rfl), ⟨cells, hcells⟩, hlen, hM, hcell⟩
end
section
open Go.Proofs.Ytjdebhkdbdbepaa.Mid
variable {P : Program} {ops : Array Oper} {o : Oper} {a : Act} {w : World} {Q : Exit → Act → World → Prop} {K : Act → World → Prop}
/-- A load of many cells, as a region that draws its order asks it. -/
theorem load_run (ty : TypeId) (x : Operand) (ho : o.op = .load ty x) {g off : Nat} {cur : Array Value} {t : TypeId} {fr : Nat × Nat} (cs : List Value) (d : TypeDesc)
    (hx : a.eval x = .pointer (some ⟨g, off, none⟩)) (hb : w.heap[g]? = some (.cells cur t fr)) (hc : ∀ j v, cs[j]? = some v → cur.toList[off + j]? = some v)
    (hu : P.underlying ty = some d) (hd : d.isRow = true) (hi : (P.info? ty).map (·.size) = some cs.length) : (execOp a.eval o).run P w = .ok (.value (.agg cs.toArray)) w := by
  unfold execOp
  simp only [ho, hx, Instr.loadAt, Instr.sureAddr, Sem.run_bind, Sem.run_pure, Result.andThen_ok, run_loadVar_mid w g off ty cs d (range_of_block hb hc) hu hd hi]
end
end Go.Proofs.Ytjdebhkdbdbepaa.Own
