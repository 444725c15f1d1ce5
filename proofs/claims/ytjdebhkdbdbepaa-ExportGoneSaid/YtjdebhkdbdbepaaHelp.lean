/- Small lemmas that the supplied contracts share. No program in sight. -/
import Derived.Test.YtjdebhkdbdbepaaWWords
import Derived.Test.YtjdebhkdbdbepaaWMore
import Derived.Test.YtjdebhkdbdbepaaWLast
namespace Go.Proofs.Ytjdebhkdbdbepaa.Help
open Go.RowKit Go.Proofs.YtjdebhkdbdbepaaW.PrintWords Go.Proofs.YtjdebhkdbdbepaaW.PrintLast Go.Proofs.YtjdebhkdbdbepaaW.PrintMore
theorem alloc_at (w : World) (o : Obj) : (w.alloc o).heap[w.heap.size]? = some o := by
  show (w.heap.push o)[w.heap.size]? = some o
  simp
theorem alloc_size (w : World) (o : Obj) : (w.alloc o).heap.size = w.heap.size + 1 := by
  show (w.heap.push o).size = _
  simp
def idxOf {α : Type} (q : α → Bool) : List α → Int
  | [] => -1
  | x :: l => if q x then 0 else (if idxOf q l < 0 then -1 else idxOf q l + 1)
theorem idxOf_at {α : Type} (q : α → Bool) (z : α) (l : List α) (x : Int) (h0 : 0 ≤ x) (h : x < l.length) (hf : ∀ y ∈ l.take x.toNat, q y = false) (hq : q (l.getD x.toNat z) = true) : idxOf q l = x := by
  obtain ⟨n, rfl⟩ := Int.eq_ofNat_of_zero_le h0
  rw [Int.toNat_natCast] at hf hq
  induction l generalizing n with
  | nil => simp at h; omega
  | cons y l ih =>
    cases n with
    | zero => simp at hq; simp [idxOf, hq]
    | succ n =>
      have hy := hf y (by simp)
      have := ih n (by omega) (by simp at h; omega) (fun z hz => hf z (by simp [hz])) (by simpa using hq)
      simp only [idxOf, hy, this]
      simp
      omega
theorem idxOf_none {α : Type} (q : α → Bool) (l : List α) (hf : ∀ y ∈ l, q y = false) : idxOf q l = -1 := by
  induction l with
  | nil => rfl
  | cons y l ih =>
    have hy := hf y (by simp)
    simp [idxOf, hy, ih (fun z hz => hf z (by simp [hz]))]
theorem idxOf_any {α : Type} (q : α → Bool) (l : List α) : decide (idxOf q l ≥ 0) = l.any q := by
  induction l with
  | nil => rfl
  | cons x l ih =>
    have hc : idxOf q (x :: l) = if q x then 0 else (if idxOf q l < 0 then -1 else idxOf q l + 1) := rfl
    rw [List.any_cons, ← ih, hc]
    cases hq : q x with
    | true => simp
    | false =>
      simp only [Bool.false_eq_true, if_false, Bool.false_or]
      split
      · rename_i h
        rw [decide_eq_false (show ¬ ((-1 : Int) ≥ 0) by omega), decide_eq_false (show ¬ (idxOf q l ≥ 0) by omega)]
      · rename_i h
        rw [decide_eq_true (show idxOf q l + 1 ≥ 0 by omega), decide_eq_true (show idxOf q l ≥ 0 by omega)]
theorem getD_mem {α : Type} (z : α) (l : List α) (x : Int) (h0 : 0 ≤ x) (h : x < l.length) : l.getD x.toNat z ∈ l := by
  have hl : x.toNat < l.length := by omega
  rw [List.getD_eq_getElem?_getD, List.getElem?_eq_getElem hl]
  exact List.getElem_mem hl
theorem take_next {α : Type} (q : α → Bool) (z : α) (l : List α) (x : Int) (h0 : 0 ≤ x) (h : x < l.length) (hf : ∀ y ∈ l.take x.toNat, q y = false) (hq : q (l.getD x.toNat z) = false) : ∀ y ∈ l.take (x + 1).toNat, q y = false := by
  intro y hy
  have hl : x.toNat < l.length := by omega
  rw [show (x + 1).toNat = x.toNat + 1 by omega, List.take_succ_eq_append_getElem hl] at hy
  rcases List.mem_append.1 hy with hy | hy
  · exact hf y hy
  · rw [List.getD_eq_getElem?_getD, List.getElem?_eq_getElem hl] at hq
    rw [List.mem_singleton.1 hy]
    exact hq
theorem below_of_keep {w W W' : World} {g : Nat} {o : Obj} (h1 : W.heap[g]? = some o) (h2 : W'.heap[g]? = some o) (hk : KeepBut W W' g none) (hb : Below w.heap.size w W) (hb' : Below w.heap.size w W') : Below W.heap.size W W' :=
  ⟨hb'.os.trans hb.os.symm, hb'.tape.trans hb.tape.symm, hb'.output.trans hb.output.symm, hk.1, fun k hk' => by
    by_cases e : k = g
    · subst e; rw [h1, h2]
    · exact hk.2 k hk' e (by simp)⟩
theorem drop_rd (l : List Int) (x : Int) (h0 : 0 ≤ x) (h : x < l.length) : l.drop x.toNat = rd l x :: l.drop (x + 1).toNat := by
  have hl : x.toNat < l.length := by omega
  unfold rd
  rw [show (x + 1).toNat = x.toNat + 1 by omega, List.drop_eq_getElem_cons hl, List.getD_eq_getElem?_getD, List.getElem?_eq_getElem hl]
  rfl
theorem rd_take (l : List Int) (n : Nat) (x : Int) (h0 : 0 ≤ x) (h : x < n) : rd (l.take n) x = rd l x := by
  unfold rd
  rw [List.getD_eq_getElem?_getD, List.getD_eq_getElem?_getD, List.getElem?_take, if_pos (by omega)]
/-- A row that is told as shared, and is not empty, lies in a block that is told. -/
theorem V_blk {α : Type} {d : Kd α} {e base n c g : Nat} {ok : Nat → Prop} {W : World} {ad : Addr} {xs : List α} (h : Kd.V d e W base ok (.slice (some ad) n c) xs) (hn : 0 < n) (hs : 0 < d.sz) (hok : ∀ k, ok k → k ≠ g) : ad.block ≠ g := by
  intro he
  obtain ⟨hl, _, hF⟩ := Kd.V_at h
  have hx : 0 < xs.length := by omega
  have hC := Kd.F_now (Kd.F_step (W1 := { W with heap := W.heap.setIfInBounds g (.map #[] 0) }) hF (fun k hk _ => by
    have := hok k hk
    show (W.heap.setIfInBounds g (.map #[] 0))[k]? = W.heap[k]?
    rw [Array.getElem?_setIfInBounds_ne (Ne.symm this)]))
  obtain ⟨_, _, hc⟩ := hC
  obtain ⟨ad', e', hcell⟩ := hc hx
  injection e' with e'
  subst e'
  obtain ⟨cs, hlen, _, hcc⟩ := hcell 0 xs[0] (List.getElem?_eq_getElem hx)
  match cs, hlen with
  | [], h0 => simp at h0; omega
  | v :: _, _ =>
    have h2 := hcc 0 v rfl
    simp [World.cell?, Addr.add, he, Array.getElem?_setIfInBounds] at h2
theorem pos_of_dec {n : Nat} (h : decide ((0 : Int) < (n : Int)) = true) : 0 < n := by
  have := of_decide_eq_true h
  omega
end Go.Proofs.Ytjdebhkdbdbepaa.Help
