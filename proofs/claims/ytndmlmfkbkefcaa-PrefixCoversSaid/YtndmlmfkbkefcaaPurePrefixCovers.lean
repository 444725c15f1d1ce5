/- Whether one prefix is in another one, and which comes first; the plain part of the proof. Conditions: none. -/
import Derived.Test.YtndmlmfkbkefcaaBndPrefixCovers
import Derived.Test.YtndmlmfkbkefcaaPreRPrefixCovers
namespace Go.Proofs.Ytndmlmfkbkefcaa.Pure
open Go.RowKit Go.Proofs.Ytndmlmfkbkefcaa.PPrefixCovers Go.Proofs.YtndmlmfkbkefcaaW.PrintWords Go.Proofs.YtndmlmfkbkefcaaW.PrintLast Go.Proofs.YtndmlmfkbkefcaaW.PrintMore Go.Proofs.Ytndmlmfkbkefcaa.Pre Go.Proofs.Ytndmlmfkbkefcaa Go.Proofs.Ytndmlmfkbkefcaa.PrePrefixCovers

theorem PrefixCovers_answers : interregnumlaw05_answers.f 40 = some true := by decide +kernel
theorem top_bit_eq (a b n i : Int) (h0 : 0 ≤ i) (hi : i < n) (hn : n ≤ 32) (h : top a n = top b n) : bit a i = bit b i := by
  have e1 := top_top a n (i + 1) (by omega) (by omega) hn
  have e2 := top_top b n (i + 1) (by omega) (by omega) hn
  have f1 := top_top a n i h0 (by omega) hn
  have f2 := top_top b n i h0 (by omega) hn
  rw [h] at e1 f1
  have s1 := top_succ a i h0 (by omega)
  have s2 := top_succ b i h0 (by omega)
  have hp := D_pos (i + 1)
  have e : top a (i + 1) = top b (i + 1) := e1.symm.trans e2
  have f : top a i = top b i := f1.symm.trans f2
  rw [e, s2, f] at s1
  rcases bit_01 a i with h1 | h1 <;> rcases bit_01 b i with h2 | h2 <;> rw [h1, h2] at s1 ⊢ <;> omega
theorem refCovers_loop (a n b m : Int) (ha : U32 a) (hb : U32 b) (hn : n ≤ 32) (d : Nat) : ∀ (k : Nat) (i : Int), 0 ≤ i → i + d = n → top a i = top b i →
    interregnumref05_Covers.l0 (k + d + 1) i a n b m = some (decide (top a n = top b n)) := by
  induction d with
  | zero =>
    intro k i h0 hi he
    have : i = n := by omega
    subst this
    conv => lhs; unfold interregnumref05_Covers.l0
    rw [if_neg (by omega), decide_eq_true he]
  | succ d ih =>
    intro k i h0 hi he
    rw [show k + (d + 1) + 1 = (k + d + 1) + 1 by omega]
    conv => lhs; unfold interregnumref05_Covers.l0
    rw [if_pos (by omega), Bit a i ha h0 (by omega), Bit b i hb h0 (by omega), Option.bind_some, Option.bind_some]
    by_cases hbit : bit a i = bit b i
    · rw [if_pos hbit, w64 _ (by omega) (by omega)]
      exact ih k (i + 1) (by omega) (by omega) (by rw [top_succ a i h0 (by omega), top_succ b i h0 (by omega), he, hbit])
    · rw [if_neg hbit, decide_eq_false (fun h => hbit (top_bit_eq a b n i h0 (by omega) hn h))]
theorem refCovers (a n b m : Int) (ha : U32 a) (hb : U32 b) : interregnumref05_Covers.f 41 a n b m = some (decide (Ok a n ∧ Ok b m ∧ n ≤ m ∧ top b n = a)) := by
  unfold interregnumref05_Covers.f
  rw [refRight a n ha 41 (by omega), refRight b m hb 41 (by omega), Option.bind_some, Option.bind_some]
  simp only [interregnumref05_Covers.j0]
  by_cases h1 : Ok a n
  · by_cases h2 : Ok b m
    · rw [if_pos (by simpa using h1), if_pos (by simpa using h2)]
      by_cases h3 : n ≤ m
      · rw [if_neg (by simp; omega)]
        have := refCovers_loop a n b m ha hb h1.2.1 n.toNat (40 - (n.toNat + 1)) 0 (by omega) (by have := h1.1; omega) (by rw [top_0 a ha, top_0 b hb])
        have h32 := h1.2.1
        rw [show 40 - (n.toNat + 1) + n.toNat + 1 = 40 by omega, Ok_eq h1] at this
        rw [this]
        congr 1
        rw [Bool.eq_iff_iff, decide_eq_true_eq, decide_eq_true_eq]
        exact ⟨fun h => ⟨h1, h2, h3, h.symm⟩, fun h => h.2.2.2.symm⟩
      · rw [if_pos (by simp; omega), decide_eq_false (fun h => h3 h.2.2.1)]
    · rw [if_pos (by simpa using h1), if_neg (by simpa using h2), if_pos trivial, decide_eq_false (fun h => h2 h.2.1)]
  · rw [if_neg (by simpa using h1), if_pos trivial, decide_eq_false (fun h => h1 h.1)]
def cmp (a n b m : Int) : Int := if a < b then -1 else if a > b then 1 else if n < m then -1 else if n > m then 1 else 0
theorem Or2 (x y : Int) : cmp_Or_int.f 5 [x, y] = some (if x = 0 then y else x) := by
  unfold cmp_Or_int.f
  simp only [cmp_Or_int.l0]
  have e0 : rd [x, y] 0 = x := rfl
  have e1 : rd [x, y] 1 = y := rfl
  have w0 : wrap64 (0 + 1) = 1 := w64 1 (by omega) (by omega)
  have w1 : wrap64 (1 + 1) = 2 := w64 2 (by omega) (by omega)
  have hl : (([x, y] : List Int).length : Int) = 2 := rfl
  rw [hl, e0, w0, e1, w1]
  by_cases hx : x = 0
  · by_cases hy : y = 0
    · simp [hx, hy]
    · simp [hx, hy]
  · simp [hx]
theorem Compare (a n b m : Int) (k : Nat) (hk : 5 ≤ k) : prefix_Compare.f k a n b m = some (cmp a n b m) := by
  unfold prefix_Compare.f cmp_Compare_uint32.f cmp_Compare_int.f cmp_isNaN_uint32.f cmp_isNaN_int.f
  have hor (x y : Int) : cmp_Or_int.f k [x, y] = some (if x = 0 then y else x) := at_rounds (cmp_Or_int.mono _) hk (Or2 x y)
  simp only [Option.bind_some, bne_self_eq_false, Bool.false_eq_true, if_false]
  unfold cmp
  by_cases h1 : a < b
  · rw [if_pos h1]
    by_cases h2 : n < m
    · rw [if_pos h2, Option.bind_some, Option.bind_some, hor]; simp [h1]
    · rw [if_neg h2]
      by_cases h3 : n > m
      · rw [if_pos h3, Option.bind_some, Option.bind_some, hor]; simp [h1]
      · rw [if_neg h3, Option.bind_some, Option.bind_some, hor]; simp [h1]
  · rw [if_neg h1]
    by_cases h1' : a > b
    · rw [if_pos h1']
      by_cases h2 : n < m
      · rw [if_pos h2, Option.bind_some, Option.bind_some, hor]; simp [h1, h1']
      · rw [if_neg h2]
        by_cases h3 : n > m
        · rw [if_pos h3, Option.bind_some, Option.bind_some, hor]; simp [h1, h1']
        · rw [if_neg h3, Option.bind_some, Option.bind_some, hor]; simp [h1, h1']
    · rw [if_neg h1']
      by_cases h2 : n < m
      · rw [if_pos h2, Option.bind_some, Option.bind_some, hor]; simp [h1, h1', h2]
      · rw [if_neg h2]
        by_cases h3 : n > m
        · rw [if_pos h3, Option.bind_some, Option.bind_some, hor]; simp [h1, h1', h2, h3]
        · rw [if_neg h3, Option.bind_some, Option.bind_some, hor]; simp [h1, h1', h2, h3]
theorem PrefixCovers_j1 (w a n b m c l : Int) (ha : U32 a) (hb : U32 b) (hc : U32 c) (hw : cmp a n b m = w) (hw2 : cmp b m a n = -w) (hw3 : -1 ≤ w ∧ w ≤ 1) : interregnumlaw05_PrefixCovers.j1 42 w a n b m c l = some true := by
  simp only [interregnumlaw05_PrefixCovers.j1]
  have hans := at_rounds interregnumlaw05_answers.mono (k' := 41) (by omega) PrefixCovers_answers
  rw [Covers a n b m ha hb, Covers b m c l hb hc, Covers a n c l ha hc, hans, refCovers a n b m ha hb, Compare a n b m 41 (by omega), Compare b m a n 41 (by omega), hw, hw2, w64 (-w) (by omega) (by omega)]
  simp only [Option.bind_some, if_true, beq_self_eq_true, decide_eq_true_eq]
  split
  · rename_i h1
    split
    · rename_i h2
      obtain ⟨o1, o2, l1, t1⟩ := h1
      obtain ⟨_, o3, l2, t2⟩ := h2
      rw [if_pos]
      refine ⟨o1, o3, by omega, ?_⟩
      rw [← t1, ← t2]
      exact (top_top c m n o1.1 l1 o2.2.1).symm
    · rfl
  · rfl
theorem PrefixCovers : BndPrefixCovers.Pure := by
  intro x y z hx hy hz
  have ha := wf_u32 hx.1
  have hb := wf_u32 hy.1
  have hc := wf_u32 hz.1
  refine ⟨43, ?_⟩
  obtain ⟨a, n⟩ := x
  obtain ⟨b, m⟩ := y
  obtain ⟨c, l⟩ := z
  simp only at ha hb hc ⊢
  unfold interregnumlaw05_PrefixCovers.f
  have less (p q p' q' : Int) : interregnumref05_Less.f p q p' q' = some (decide (p < p' ∨ (p = p' ∧ q < q'))) := by
    unfold interregnumref05_Less.f
    by_cases h1 : p < p'
    · rw [if_pos h1, decide_eq_true (.inl h1)]
    · rw [if_neg h1]
      by_cases h2 : p = p'
      · rw [if_pos h2]; congr 1; rw [Bool.eq_iff_iff, decide_eq_true_eq, decide_eq_true_eq]
        exact ⟨fun h => .inr ⟨h2, h⟩, fun h => h.elim (fun h => absurd h h1) (·.2)⟩
      · rw [if_neg h2, decide_eq_false (fun h => h.elim h1 (fun h => h2 h.1))]
  simp only [interregnumlaw05_PrefixCovers.j0, less, Option.bind_some, decide_eq_true_eq]
  split <;> split
  · exfalso; omega
  · refine PrefixCovers_j1 _ _ _ _ _ _ _ ha hb hc ?_ ?_ (by omega) <;> unfold cmp <;> (repeat' split) <;> omega
  · refine PrefixCovers_j1 _ _ _ _ _ _ _ ha hb hc ?_ ?_ (by omega) <;> unfold cmp <;> (repeat' split) <;> omega
  · refine PrefixCovers_j1 _ _ _ _ _ _ _ ha hb hc ?_ ?_ (by omega) <;> unfold cmp <;> (repeat' split) <;> omega
end Go.Proofs.Ytndmlmfkbkefcaa.Pure
