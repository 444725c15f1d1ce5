/- States that are told whole: the blocks of their private types may turn in a call, all others stay. No program in sight. -/
import Derived.Test.YtjdebhkdbdbepaaWWords
import Derived.Test.YtjdebhkdbdbepaaWMore
import Derived.Test.YtjdebhkdbdbepaaWLast
import Derived.Test.YtjdebhkdbdbepaaWApart
import Derived.Test.YtjdebhkdbdbepaaWN
import Derived.Test.YtjdebhkdbdbepaaWFoot
namespace Go.Proofs.Ytjdebhkdbdbepaa.Opq
open Go.RowKit Go.Proofs.YtjdebhkdbdbepaaW.PrintWords Go.Proofs.YtjdebhkdbdbepaaW.PrintLast Go.Proofs.YtjdebhkdbdbepaaW.PrintMore
set_option linter.unusedVariables false
/-- A block of a private type, or one that is no row of cells. -/
def Priv (ts : List Nat) : Option Obj → Prop
  | some (.cells _ t _) => t ∈ ts
  | some _ => True
  | none => False
/-- What is elder than B, or not private, stays. -/
structure KeepO (ts : List Nat) (B : Nat) (w w' : World) : Prop where
  size : w.heap.size ≤ w'.heap.size
  keep : ∀ k, k < w.heap.size → (k < B ∨ ¬ Priv ts w.heap[k]?) → w'.heap[k]? = w.heap[k]?
def NP (ts : List Nat) (W : World) (b : Nat) : Prop := ∃ cells q, W.heap[b]? = some (.cells cells q (0, 0)) ∧ q ∉ ts
def NPr (ts : List Nat) (W : World) (row : Option Nat) : Prop := ∀ k, row = some k → NP ts W k
section
variable {ts : List Nat} {B b : Nat} {w w' W W1 W2 w0 : World} {row : Option Nat}
theorem NP.not (h : NP ts W b) : ¬ Priv ts W.heap[b]? := by
  obtain ⟨cells, q, hb, hq⟩ := h
  rw [hb]
  exact hq
theorem NP.lt (h : NP ts W b) : b < W.heap.size := by
  obtain ⟨cells, q, hb, _⟩ := h
  exact blk_lt hb
theorem NP.of_same (h : NP ts W b) (hs : W1.heap[b]? = W.heap[b]?) : NP ts W1 b := by
  obtain ⟨cells, q, hb, hq⟩ := h
  exact ⟨cells, q, hs.trans hb, hq⟩
theorem NP.blk {cells : Array Value} {q : Nat} (hb : W.heap[b]? = some (.cells cells q (0, 0))) (hq : q ∉ ts) : NP ts W b := ⟨cells, q, hb, hq⟩
theorem NP.alloc (h : NP ts W b) {o : Obj} : NP ts (W.alloc o) b := h.of_same ((below_alloc (Below.refl _ _) o).block b h.lt)
theorem NP.drewN (h : NP ts W b) {m : Nat} : NP ts (W.drewN m) b := h
theorem NP.drew (h : NP ts W b) : NP ts W.drew b := h
theorem NP.setCell (h : NP ts W b) {p : Addr} {u : Value} : NP ts (W.setCell p u) b := by
  by_cases e : b = p.block
  · obtain ⟨cells, q, hb, hq⟩ := h
    subst e
    refine ⟨if p.spot.isSome then cells else cells.setIfInBounds p.off u, q, ?_, hq⟩
    simp [World.setCell, Array.getElem?_modify, hb]
  · exact h.of_same (Below.heap_setCell W p u b e)
theorem NPr.none (ts : List Nat) (W : World) : NPr ts W (Value.slice none 0 0).ownBlock := fun k h => by simp [Value.ownBlock] at h
theorem NPr.typed {v : Value} {e : Nat} (h : ∀ k, v.ownBlock = some k → ∃ cells, W.heap[k]? = some (.cells cells e (0, 0))) (he : e ∉ ts) : NPr ts W v.ownBlock := fun k hk => by
  obtain ⟨cells, hb⟩ := h k hk
  exact ⟨cells, e, hb, he⟩
theorem NPr.alloc (h : NPr ts W row) {o : Obj} : NPr ts (W.alloc o) row := fun k hk => (h k hk).alloc
theorem NPr.drewN (h : NPr ts W row) {m : Nat} : NPr ts (W.drewN m) row := h
theorem NPr.drew (h : NPr ts W row) : NPr ts W.drew row := h
theorem NPr.setCell (h : NPr ts W row) {p : Addr} {u : Value} : NPr ts (W.setCell p u) row := fun k hk => (h k hk).setCell
theorem frame_grown (hw : W.grownBy W1 row) (hn : NPr ts W row) : ∀ k, w0.heap.size ≤ k → k < W.heap.size → Priv ts W.heap[k]? → W1.heap[k]? = W.heap[k]? :=
  fun k _ hk hp => hw.block k hk (fun e => (hn k e.symm).not hp)
theorem frame_far {p : Addr} (hn : NP ts W p.block) (u : Value) : ∀ k, w0.heap.size ≤ k → k < W.heap.size → Priv ts W.heap[k]? → (W.setCell p u).heap[k]? = W.heap[k]? :=
  fun k _ hk hp => Below.heap_setCell W p u k (fun e => hn.not (e ▸ hp))
theorem KeepO.refl (ts : List Nat) (B : Nat) (w : World) : KeepO ts B w w := ⟨Nat.le_refl _, fun _ _ _ => rfl⟩
theorem KeepO.trans (h : KeepO ts B w W) (k : KeepO ts B W W1) : KeepO ts B w W1 :=
  ⟨Nat.le_trans h.size k.size, fun i hi hp => by
    have h1 := h.keep i hi hp
    exact (k.keep i (Nat.lt_of_lt_of_le hi h.size) (by rw [h1]; exact hp)).trans h1⟩
theorem KeepO.of_below (h : Below w.heap.size w W) : KeepO ts B w W := ⟨h.size, fun i hi _ => h.block i hi⟩
theorem KeepO.below_trans (h : KeepO ts B w W) (k : Below W.heap.size W W1) : KeepO ts B w W1 := h.trans (.of_below k)
theorem KeepO.trans3 (h : KeepO ts B w W) (k : W.grownBy W1 row) (hr : row = none ∨ ∃ b, row = some b ∧ w.heap.size ≤ b) : KeepO ts B w W1 :=
  ⟨Nat.le_trans h.size k.size, fun i hi hp => (k.block i (Nat.lt_of_lt_of_le hi h.size) (fun e => by
    rcases hr with hr | ⟨b, hr, hb⟩
    · rw [hr] at e; cases e
    · rw [hr] at e; injection e with e; omega)).trans (h.keep i hi hp)⟩
theorem KeepO.drewN (h : KeepO ts B w W) {m : Nat} : KeepO ts B w (W.drewN m) := ⟨h.1, h.2⟩
theorem KeepO.drew (h : KeepO ts B w W) : KeepO ts B w W.drew := ⟨h.1, h.2⟩
theorem KeepO.alloc (h : KeepO ts B w W) {o : Obj} : KeepO ts B w (W.alloc o) := h.below_trans (below_alloc (Below.refl _ _) o)
theorem KeepO.at_ {m : Nat} (hq : W.drewN m = W1) (h : KeepO ts B w W) : KeepO ts B w W1 := by subst hq; exact ⟨h.1, h.2⟩
theorem KeepO.far (h : KeepO ts B w W) {p : Addr} (hp : w.heap.size ≤ p.block) (u : Value) : KeepO ts B w (W.setCell p u) :=
  ⟨by have := h.size; simpa [World.setCell] using this, fun i hi hq => (Below.heap_setCell W p u i (by omega)).trans (h.keep i hi hq)⟩
/-- A store into a private block from B on. -/
theorem KeepO.set (h : KeepO ts B w W) {p : Addr} (hp : w.heap.size ≤ p.block ∨ B ≤ p.block ∧ Priv ts w.heap[p.block]?) (u : Value) : KeepO ts B w (W.setCell p u) :=
  ⟨by have := h.size; simpa [World.setCell] using this, fun i hi hq => (Below.heap_setCell W p u i (by
    rintro rfl
    rcases hp with hp | ⟨h1, h2⟩
    · omega
    · rcases hq with hq | hq
      · omega
      · exact hq h2)).trans (h.keep i hi hq)⟩
theorem KeepO.blk {g : Nat} {cells : Array Value} {q : Nat} (h : KeepO ts B W W1) (hb : W.heap[g]? = some (.cells cells q (0, 0))) (hq : q ∉ ts) : W1.heap[g]? = some (.cells cells q (0, 0)) :=
  (h.keep g (blk_lt hb) (.inr (NP.blk hb hq).not)).trans hb
/-- Is a block of no private type? -/
def notPriv (ts : List Nat) : Obj → Bool
  | .cells _ q _ => decide (q ∉ ts)
  | _ => false
theorem KeepO.blk2 {g : Nat} {o : Obj} (h : KeepO ts B W W1) (hb : W.heap[g]? = some o) (hq : notPriv ts o = true) : W1.heap[g]? = some o :=
  (h.keep g (blk_lt hb) (.inr (by
    rw [hb]
    cases o <;> simp only [notPriv, decide_eq_true_eq, Bool.false_eq_true] at hq
    exact hq))).trans hb
theorem keep_cellO {a : Addr} {v : Value} (h : KeepO ts B W W1) (hc : W.cell? a = some v) (hn : NP ts W a.block) : W1.cell? a = some v := by
  have := h.keep a.block (World.block_lt_of_cell? W a hc) (.inr hn.not)
  simpa [World.cell?, this] using hc
theorem KeepO.elder (h : KeepO ts B w W) (hb : Below B w0 w) (hB : B ≤ w.heap.size) : ∀ k, k < B → W.heap[k]? = w0.heap[k]? :=
  fun k hk => (h.keep k (by omega) (.inl hk)).trans (hb.block k hk)
end
section
variable {ts : List Nat} {B : Nat} {α : Type} {d : Kd α} {e base n c : Nat} {ok : Nat → Prop} {w w1 w0 W : World} {A : Option Addr} {v : Value} {xs : List α}
theorem not_priv {k : Nat} (ht : ∀ q, q ∈ e :: d.E → q ∉ ts) (h : ∃ q, q ∈ e :: d.E ∧ ∃ cells, w.heap[k]? = some (.cells cells q (0, 0))) : ¬ Priv ts w.heap[k]? := by
  obtain ⟨q, hq, cells, hb⟩ := h
  rw [hb]
  exact ht q hq
theorem R_keep (h : d.R e w base ok v xs) (hk : KeepO ts B w w1) (ht : ∀ q, q ∈ e :: d.E → q ∉ ts) : d.R e w1 base ok v xs :=
  Kd.R_mono (Kd.R_step (Kd.R_bound h) (fun k hk' hlt => hk.keep k hlt (.inr (not_priv ht hk'.2.2.2)))) (fun _ h => h.1)
theorem Q_keep (h : d.Q e w base ok v xs) (hk : KeepO ts B w w1) (ht : ∀ q, q ∈ e :: d.E → q ∉ ts) : d.Q e w1 base ok v xs :=
  Kd.Q_mono (Kd.Q_step (Kd.Q_bound h) (fun k hk' hlt => hk.keep k hlt (.inr (not_priv ht hk'.2.2.2)))) (fun _ h => h.1)
theorem S_keep (h : d.S e w base ok v xs) (hk : KeepO ts B w w1) (ht : ∀ q, q ∈ e :: d.E → q ∉ ts) : d.S e w1 base ok v xs :=
  Kd.S_mono (Kd.S_step (Kd.S_bound h) (fun k hk' hlt => hk.keep k hlt (.inr (not_priv ht hk'.2.2.2)))) (fun _ h => h.1)
theorem R_old (h : d.R e w base ok v xs) (hk : KeepO ts B w w1) (ht : ∀ q, q ∈ e :: d.E → q ∉ ts) : d.R e w1 base (fun k => ok k ∧ k < w.heap.size) v xs :=
  Kd.R_mono (R_keep (Kd.R_bound h) hk ht) (fun _ h => ⟨h.1, h.2.2.1⟩)
theorem Q_old (h : d.Q e w base ok v xs) (hk : KeepO ts B w w1) (ht : ∀ q, q ∈ e :: d.E → q ∉ ts) : d.Q e w1 base (fun k => ok k ∧ k < w.heap.size) v xs :=
  Kd.Q_mono (Q_keep (Kd.Q_bound h) hk ht) (fun _ h => ⟨h.1, h.2.2.1⟩)
theorem S_old (h : d.S e w base ok v xs) (hk : KeepO ts B w w1) (ht : ∀ q, q ∈ e :: d.E → q ∉ ts) : d.S e w1 base (fun k => ok k ∧ k < w.heap.size) v xs :=
  Kd.S_mono (S_keep (Kd.S_bound h) hk ht) (fun _ h => ⟨h.1, h.2.2.1⟩)
theorem C_nil : ∀ W', KeepO ts B W W' → d.C W' none ([] : List α).length [] := fun W' _ => Kd.C_nil d W'
theorem C_ownR (h : d.R e W base ok (.slice A n c) xs) (ht : ∀ q, q ∈ e :: d.E → q ∉ ts) : ∀ W', KeepO ts B W W' → d.C W' A n xs := fun W' hk => by
  have h2 := Kd.R_reads' (R_keep h hk ht)
  rw [h2.1]
  exact h2.2.2
theorem C_ownQ (h : d.Q e W base ok (.slice A n c) xs) (ht : ∀ q, q ∈ e :: d.E → q ∉ ts) : ∀ W', KeepO ts B W W' → d.C W' A n xs := fun W' hk => by
  have h2 := Kd.Q_reads' (Q_keep h hk ht)
  rw [h2.1]
  exact h2.2.2
theorem C_ownS (h : d.S e W base ok (.slice A n c) xs) (ht : ∀ q, q ∈ e :: d.E → q ∉ ts) : ∀ W', KeepO ts B W W' → d.C W' A n xs := C_ownR (Kd.S_R h) ht
theorem C_came (hd : Kd.Heap d) (h : d.C w0 A n xs) (hb : Below w0.heap.size w0 W) : ∀ W', KeepO ts w0.heap.size W W' → d.C W' A n xs := fun W' hk =>
  hd.C (fun k hlt => (hk.keep k (Nat.lt_of_lt_of_le hlt hb.size) (.inl hlt)).trans (hb.block k hlt)) h
theorem C_step (h : ∀ W', KeepO ts B w W' → d.C W' A n xs) (hk : KeepO ts B w W) : ∀ W', KeepO ts B W W' → d.C W' A n xs := fun W' hk' => h W' (hk.trans hk')
theorem C_now (h : ∀ W', KeepO ts B w W' → d.C W' A n xs) (hk : KeepO ts B w W) : d.C W A n xs := h W hk
end
end Go.Proofs.Ytjdebhkdbdbepaa.Opq
