/- States that are told whole: the blocks of their private types may turn in a call, all others stay. No program in sight. -/
import Derived.Test.YtjdebhkdbdbepaaWWords
import Derived.Test.YtjdebhkdbdbepaaWMore
import Derived.Test.YtjdebhkdbdbepaaWLast
import Derived.Test.YtjdebhkdbdbepaaWApart
import Derived.Test.YtjdebhkdbdbepaaWN
import Derived.Test.YtjdebhkdbdbepaaWFoot
namespace Go.Proofs.Ytjdebhkdbdbepaa.Opq
open Go.RowKit Go.Proofs.YtjdebhkdbdbepaaW.PrintWords Go.Proofs.YtjdebhkdbdbepaaW.PrintLast Go.Proofs.YtjdebhkdbdbepaaW.PrintMore
set_option linter.unusedVariables false
/-- A block of a private type, or one that is no row of cells. -/
def Priv (ts : List Nat) : Option Obj → Prop
  | some (.cells _ t _) => t ∈ ts
  | some _ => True
  | none => False
/-- What is elder than B, or not private, stays. -/
structure KeepO (ts : List Nat) (B : Nat) (w w' : World) : Prop where
  size : w.heap.size ≤ w'.heap.size
  keep : ∀ k, k < w.heap.size → (k < B ∨ ¬ Priv ts w.heap[k]?) → w'.heap[k]? = w.heap[k]?
def NP (ts : List Nat) (W : World) (b : Nat) : Prop := ∃ cells q, W.heap[b]? = some (.cells cells q (0, 0)) ∧ q ∉ ts
def NPr (ts : List Nat) (W : World) (row : Option Nat) : Prop := ∀ k, row = some k → NP ts W k
section
variable {ts : List Nat} {B b : Nat} {w w' W W1 W2 w0 : World} {row : Option Nat}
theorem NP.not (h : NP ts W b) : ¬ Priv ts W.heap[b]? := by
  obtain ⟨cells, q, hb, hq⟩ := h
  rw [hb]
  exact hq
theorem NP.lt (h : NP ts W b) : b < W.heap.size := by
  obtain ⟨cells, q, hb, _⟩ := h
  exact blk_lt hb
theorem NP.of_same (h : NP ts W b) (hs : W1.heap[b]? = W.heap[b]?) : NP ts W1 b := by
  obtain ⟨cells, q, hb, hq⟩ := h
  exact ⟨cells, q, hs.trans hb, hq⟩
theorem NP.blk {cells : Array Value} {q : Nat} (hb : W.heap[b]? = some (.cells cells q (0, 0))) (hq : q ∉ ts) : NP ts W b := ⟨cells, q, hb, hq⟩
theorem NP.alloc (h : NP ts W b) {o : Obj} : NP ts (W.alloc o) b := h.of_same ((below_alloc (Below.refl _ _) o).block b h.lt)
theorem NP.drewN (h : NP ts W b) {m : Nat} : NP ts (W.drewN m) b := h
theorem NP.drew (h : NP ts W b) : NP ts W.drew b := h
theorem NP.setCell (h : NP ts W b) {p : Addr} {u : Value} : NP ts (W.setCell p u) b := by
  by_cases e : b = p.block
  · obtain ⟨cells, q, hb, hq⟩ := h
    subst e
    refine ⟨if p.spot.isSome then cells else cells.setIfInBounds p.off u, q, ?_, hq⟩
    simp [World.setCell, Array.getElem?_modify, hb]
  · exact h.of_same (Below.heap_setCell W p u b e)
theorem NPr.none (ts : List Nat) (W : World) : NPr ts W (Value.slice none 0 0).ownBlock := fun k h => by simp [Value.ownBlock] at h
theorem NPr.alloc (h : NPr ts W row) {o : Obj} : NPr ts (W.alloc o) row := fun k hk => (h k hk).alloc
theorem NPr.drewN (h : NPr ts W row) {m : Nat} : NPr ts (W.drewN m) row := h
theorem NPr.drew (h : NPr ts W row) : NPr ts W.drew row := h
theorem NPr.setCell (h : NPr ts W row) {p : Addr} {u : Value} : NPr ts (W.setCell p u) row := fun k hk => (h k hk).setCell
theorem KeepO.refl (ts : List Nat) (B : Nat) (w : World) : KeepO ts B w w := ⟨Nat.le_refl _, fun _ _ _ => rfl⟩
theorem KeepO.trans (h : KeepO ts B w W) (k : KeepO ts B W W1) : KeepO ts B w W1 :=
  ⟨Nat.le_trans h.size k.size, fun i hi hp => by
    have h1 := h.keep i hi hp
    exact (k.keep i (Nat.lt_of_lt_of_le hi h.size) (by rw [h1]; exact hp)).trans h1⟩
theorem KeepO.of_below (h : Below w.heap.size w W) : KeepO ts B w W := ⟨h.size, fun i hi _ => h.block i hi⟩
theorem KeepO.below_trans (h : KeepO ts B w W) (k : Below W.heap.size W W1) : KeepO ts B w W1 := h.trans (.of_below k)
theorem KeepO.drewN (h : KeepO ts B w W) {m : Nat} : KeepO ts B w (W.drewN m) := ⟨h.1, h.2⟩
theorem KeepO.drew (h : KeepO ts B w W) : KeepO ts B w W.drew := ⟨h.1, h.2⟩
theorem KeepO.alloc (h : KeepO ts B w W) {o : Obj} : KeepO ts B w (W.alloc o) := h.below_trans (below_alloc (Below.refl _ _) o)
theorem KeepO.at_ {m : Nat} (hq : W.drewN m = W1) (h : KeepO ts B w W) : KeepO ts B w W1 := by subst hq; exact ⟨h.1, h.2⟩
theorem KeepO.far (h : KeepO ts B w W) {p : Addr} (hp : w.heap.size ≤ p.block) (u : Value) : KeepO ts B w (W.setCell p u) :=
  ⟨by have := h.size; simpa [World.setCell] using this, fun i hi hq => (Below.heap_setCell W p u i (by omega)).trans (h.keep i hi hq)⟩
/-- A store into a private block from B on. -/
theorem KeepO.set (h : KeepO ts B w W) {p : Addr} (hp : w.heap.size ≤ p.block ∨ B ≤ p.block ∧ Priv ts w.heap[p.block]?) (u : Value) : KeepO ts B w (W.setCell p u) :=
  ⟨by have := h.size; simpa [World.setCell] using this, fun i hi hq => (Below.heap_setCell W p u i (by
    rintro rfl
    rcases hp with hp | ⟨h1, h2⟩
    · omega
    · rcases hq with hq | hq
      · omega
      · exact hq h2)).trans (h.keep i hi hq)⟩
theorem KeepO.blk {g : Nat} {cells : Array Value} {q : Nat} (h : KeepO ts B W W1) (hb : W.heap[g]? = some (.cells cells q (0, 0))) (hq : q ∉ ts) : W1.heap[g]? = some (.cells cells q (0, 0)) :=
  (h.keep g (blk_lt hb) (.inr (NP.blk hb hq).not)).trans hb
theorem KeepO.elder (h : KeepO ts B w W) (hb : Below B w0 w) (hB : B ≤ w.heap.size) : ∀ k, k < B → W.heap[k]? = w0.heap[k]? :=
  fun k hk => (h.keep k (by omega) (.inl hk)).trans (hb.block k hk)
end
section
variable {ts : List Nat} {B : Nat} {α : Type} {d : Kd α} {e base n c : Nat} {ok : Nat → Prop} {w w1 w0 W : World} {A : Option Addr} {v : Value} {xs : List α}
theorem C_nil : ∀ W', KeepO ts B W W' → d.C W' none ([] : List α).length [] := fun W' _ => Kd.C_nil d W'
end
end Go.Proofs.Ytjdebhkdbdbepaa.Opq
