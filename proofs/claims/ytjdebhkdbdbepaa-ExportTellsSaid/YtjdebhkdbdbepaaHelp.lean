/- Small lemmas that the supplied contracts share. No program in sight. -/
import Derived.Test.YtjdebhkdbdbepaaWWords
import Derived.Test.YtjdebhkdbdbepaaWMore
import Derived.Test.YtjdebhkdbdbepaaWLast
namespace Go.Proofs.Ytjdebhkdbdbepaa.Help
open Go.RowKit Go.Proofs.YtjdebhkdbdbepaaW.PrintWords Go.Proofs.YtjdebhkdbdbepaaW.PrintLast Go.Proofs.YtjdebhkdbdbepaaW.PrintMore
theorem alloc_at (w : World) (o : Obj) : (w.alloc o).heap[w.heap.size]? = some o := by
  show (w.heap.push o)[w.heap.size]? = some o
  simp
theorem alloc_size (w : World) (o : Obj) : (w.alloc o).heap.size = w.heap.size + 1 := by
  show (w.heap.push o).size = _
  simp
def idxOf {α : Type} (q : α → Bool) : List α → Int
  | [] => -1
  | x :: l => if q x then 0 else (if idxOf q l < 0 then -1 else idxOf q l + 1)
theorem idxOf_at {α : Type} (q : α → Bool) (z : α) (l : List α) (x : Int) (h0 : 0 ≤ x) (h : x < l.length) (hf : ∀ y ∈ l.take x.toNat, q y = false) (hq : q (l.getD x.toNat z) = true) : idxOf q l = x := by
  obtain ⟨n, rfl⟩ := Int.eq_ofNat_of_zero_le h0
  rw [Int.toNat_natCast] at hf hq
  induction l generalizing n with
  | nil => simp at h; omega
  | cons y l ih =>
    cases n with
    | zero => simp at hq; simp [idxOf, hq]
    | succ n =>
      have hy := hf y (by simp)
      have := ih n (by omega) (by simp at h; omega) (fun z hz => hf z (by simp [hz])) (by simpa using hq)
      simp only [idxOf, hy, this]
      simp
      omega
theorem idxOf_none {α : Type} (q : α → Bool) (l : List α) (hf : ∀ y ∈ l, q y = false) : idxOf q l = -1 := by
  induction l with
  | nil => rfl
  | cons y l ih =>
    have hy := hf y (by simp)
    simp [idxOf, hy, ih (fun z hz => hf z (by simp [hz]))]
theorem idxOf_any {α : Type} (q : α → Bool) (l : List α) : decide (idxOf q l ≥ 0) = l.any q := by
  induction l with
  | nil => rfl
  | cons x l ih =>
    have hc : idxOf q (x :: l) = if q x then 0 else (if idxOf q l < 0 then -1 else idxOf q l + 1) := rfl
    rw [List.any_cons, ← ih, hc]
    cases hq : q x with
    | true => simp
    | false =>
      simp only [Bool.false_eq_true, if_false, Bool.false_or]
      split
      · rename_i h
        rw [decide_eq_false (show ¬ ((-1 : Int) ≥ 0) by omega), decide_eq_false (show ¬ (idxOf q l ≥ 0) by omega)]
      · rename_i h
        rw [decide_eq_true (show idxOf q l + 1 ≥ 0 by omega), decide_eq_true (show idxOf q l ≥ 0 by omega)]
theorem take_next {α : Type} (q : α → Bool) (z : α) (l : List α) (x : Int) (h0 : 0 ≤ x) (h : x < l.length) (hf : ∀ y ∈ l.take x.toNat, q y = false) (hq : q (l.getD x.toNat z) = false) : ∀ y ∈ l.take (x + 1).toNat, q y = false := by
  intro y hy
  have hl : x.toNat < l.length := by omega
  rw [show (x + 1).toNat = x.toNat + 1 by omega, List.take_succ_eq_append_getElem hl] at hy
  rcases List.mem_append.1 hy with hy | hy
  · exact hf y hy
  · rw [List.getD_eq_getElem?_getD, List.getElem?_eq_getElem hl] at hq
    rw [List.mem_singleton.1 hy]
    exact hq
theorem below_of_keep {w W W' : World} {g : Nat} {o : Obj} (h1 : W.heap[g]? = some o) (h2 : W'.heap[g]? = some o) (hk : KeepBut W W' g none) (hb : Below w.heap.size w W) (hb' : Below w.heap.size w W') : Below W.heap.size W W' :=
  ⟨hb'.os.trans hb.os.symm, hb'.tape.trans hb.tape.symm, hb'.output.trans hb.output.symm, hk.1, fun k hk' => by
    by_cases e : k = g
    · subst e; rw [h1, h2]
    · exact hk.2 k hk' e (by simp)⟩
end Go.Proofs.Ytjdebhkdbdbepaa.Help
