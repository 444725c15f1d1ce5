/- Rows of whole numbers that lie in memory made since a call began, and may be written. -/
import Derived.Test.YtjdebhkdbdbepaaWLast
import Derived.Test.YtjdebhkdbdbepaaHelp
namespace Go.Proofs.Ytjdebhkdbdbepaa.Ints
open Go Go.RowKit Go.Proofs.YtjdebhkdbdbepaaW.PrintWords Go.Proofs.YtjdebhkdbdbepaaW.PrintLast Go.Proofs.YtjdebhkdbdbepaaW.PrintMore
/-- n whole numbers of kind kd in a block of elements e, made at B or later, which nothing shares by bytes. -/
def Ints (B : Nat) (w : World) (kd : IntKind) (e : TypeId) (A : Option Addr) (n : Nat) : Prop :=
  0 < n → ∃ g cells, A = some ⟨g, 0, none⟩ ∧ B ≤ g ∧ w.heap[g]? = some (.cells cells e (0, 0)) ∧ ∀ k, k < n → ∃ x, cells[k]? = some (.int kd x)
section
variable {B : Nat} {w w' : World} {kd : IntKind} {e : TypeId} {A : Option Addr} {n : Nat}
theorem Ints.below (h : Ints B w kd e A n) (hb : Below w.heap.size w w') : Ints B w' kd e A n := fun hn => by
  obtain ⟨g, cells, hA, hB, hg, hc⟩ := h hn
  exact ⟨g, cells, hA, hB, by rw [hb.block _ (blk_lt hg)]; exact hg, hc⟩
theorem Ints.lower (h : Ints B w kd e A n) {B' : Nat} (hb : B' ≤ B) : Ints B' w kd e A n := fun hn => by
  obtain ⟨g, cells, hA, hB, hg, hc⟩ := h hn
  exact ⟨g, cells, hA, Nat.le_trans hb hB, hg, hc⟩
theorem Ints.less (h : Ints B w kd e A n) {m : Nat} (hm : m ≤ n) : Ints B w kd e A m := fun hn => by
  obtain ⟨g, cells, hA, hB, hg, hc⟩ := h (by omega)
  exact ⟨g, cells, hA, hB, hg, fun k hk => hc k (by omega)⟩
theorem Ints.zero (B : Nat) (w : World) (kd : IntKind) (e : TypeId) (A : Option Addr) : Ints B w kd e A 0 := fun h => absurd h (by omega)
/-- A store of a number of the block's kind leaves them whole numbers. -/
theorem Ints.put (h : Ints B w kd e A n) {g j : Nat} {kd2 : IntKind} {x : Int} {cs : Array Value} {e2 : TypeId} (hg : w.heap[g]? = some (.cells cs e2 (0, 0))) (hk : e2 = e → kd2 = kd) : Ints B (w.setCell ⟨g, j, none⟩ (.int kd2 x)) kd e A n := fun hn => by
  obtain ⟨g1, cells, hA, hB, hg1, hc⟩ := h hn
  by_cases hgg : g1 = g
  · subst hgg
    have hsame : cs = cells ∧ e2 = e := by
      rw [hg] at hg1
      injection hg1 with hg1
      injection hg1 with h1 h2 h3
      exact ⟨h1, h2⟩
    obtain ⟨rfl, rfl⟩ := hsame
    refine ⟨g1, cs.setIfInBounds j (.int kd2 x), hA, hB, blk_put hg j _ rfl, fun k hk2 => ?_⟩
    by_cases hkj : k = j
    · subst hkj
      obtain ⟨y, hy⟩ := hc k hk2
      have hlt : k < cs.size := by
        rcases Nat.lt_or_ge k cs.size with h | h
        · exact h
        · rw [Array.getElem?_eq_none h] at hy
          cases hy
      refine ⟨x, ?_⟩
      rw [Array.getElem?_setIfInBounds_self_of_lt hlt, hk rfl]
    · obtain ⟨y, hy⟩ := hc k hk2
      exact ⟨y, by rw [Array.getElem?_setIfInBounds_ne (by omega)]; exact hy⟩
  · exact ⟨g1, cells, hA, hB, (Below.heap_setCell w ⟨g, j, none⟩ _ g1 hgg).trans hg1, hc⟩
/-- A store into another block. -/
theorem Ints.far (h : Ints B w kd e A n) {p : Addr} (u : Value) (hp : p.block < B) : Ints B (w.setCell p u) kd e A n := fun hn => by
  obtain ⟨g, cells, hA, hB, hg, hc⟩ := h hn
  exact ⟨g, cells, hA, hB, (Below.heap_setCell w p _ g (by omega)).trans hg, hc⟩
theorem Ints.at_ (h : Ints B w kd e A n) {k : Nat} (hk : k < n) : ∃ g cells, A = some ⟨g, 0, none⟩ ∧ B ≤ g ∧ w.heap[g]? = some (.cells cells e (0, 0)) ∧ (∃ x, w.cell? ⟨g, k, none⟩ = some (.int kd x)) ∧ w.frozen? ⟨g, k, none⟩ = false := by
  obtain ⟨g, cells, hA, hB, hg, hc⟩ := h (by omega)
  obtain ⟨x, hx⟩ := hc k hk
  exact ⟨g, cells, hA, hB, hg, ⟨x, (blk_cell hg k).trans hx⟩, blk_frozen hg k⟩
/-- A row of the call's own is such a row, also with less room. -/
theorem Ints.of_R {base : Nat} {ok : Nat → Prop} {c : Nat} {xs : List Int} (h : Kd.R (Kd.int kd) e w base ok (.slice A n c) xs) : Ints base w kd e A n := fun hn => by
  obtain ⟨hl, hcap, hC⟩ := Kd.R_reads' h
  obtain ⟨g, cap, hv, hb, hlt, cells, hg⟩ := Kd.R_form h (by omega)
  injection hv with h1 h2 h3
  refine ⟨g, cells, h1, hb, hg, fun k hk => ?_⟩
  obtain ⟨ad, hA, hx⟩ := Kd.at_int hC (k : Int) (by omega) (by omega)
  rw [h1] at hA
  injection hA with hA
  subst hA
  rw [Int.toNat_natCast] at hx
  have e0 : (⟨g, 0, none⟩ : Addr).add k = ⟨g, k, none⟩ := by
    simp [Addr.add]
    intro h0
    omega
  rw [e0] at hx
  exact ⟨_, (blk_cell hg k).symm.trans hx⟩
end
end Go.Proofs.Ytjdebhkdbdbepaa.Ints
