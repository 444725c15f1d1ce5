/- What the reference's Covers computes; for the statement ExportTells. -/
import Derived.Test.YtjdebhkdbdbepaaPreRExportTells
namespace Go.Proofs.Ytjdebhkdbdbepaa.PreExportTells
open Go.RowKit Go.Proofs.Ytjdebhkdbdbepaa.PExportTells Go.Proofs.YtjdebhkdbdbepaaW.PrintWords Go.Proofs.YtjdebhkdbdbepaaW.PrintLast Go.Proofs.YtjdebhkdbdbepaaW.PrintMore Go.Proofs.Ytjdebhkdbdbepaa.Pre
theorem top_bit_eq (a b n i : Int) (h0 : 0 ≤ i) (hi : i < n) (hn : n ≤ 32) (h : top a n = top b n) : bit a i = bit b i := by
  have e1 := top_top a n (i + 1) (by omega) (by omega) hn
  have e2 := top_top b n (i + 1) (by omega) (by omega) hn
  have f1 := top_top a n i h0 (by omega) hn
  have f2 := top_top b n i h0 (by omega) hn
  rw [h] at e1 f1
  have s1 := top_succ a i h0 (by omega)
  have s2 := top_succ b i h0 (by omega)
  have hp := D_pos (i + 1)
  have e : top a (i + 1) = top b (i + 1) := e1.symm.trans e2
  have f : top a i = top b i := f1.symm.trans f2
  rw [e, s2, f] at s1
  rcases bit_01 a i with h1 | h1 <;> rcases bit_01 b i with h2 | h2 <;> rw [h1, h2] at s1 ⊢ <;> omega
theorem refCovers_loop (a n b m : Int) (ha : U32 a) (hb : U32 b) (hn : n ≤ 32) (d : Nat) : ∀ (k : Nat) (i : Int), 0 ≤ i → i + d = n → top a i = top b i →
    interregnumref05_Covers.l0 (k + d + 1) i a n b m = some (decide (top a n = top b n)) := by
  induction d with
  | zero =>
    intro k i h0 hi he
    have : i = n := by omega
    subst this
    conv => lhs; unfold interregnumref05_Covers.l0
    rw [if_neg (by omega), decide_eq_true he]
  | succ d ih =>
    intro k i h0 hi he
    rw [show k + (d + 1) + 1 = (k + d + 1) + 1 by omega]
    conv => lhs; unfold interregnumref05_Covers.l0
    rw [if_pos (by omega), Bit a i ha h0 (by omega), Bit b i hb h0 (by omega), Option.bind_some, Option.bind_some]
    by_cases hbit : bit a i = bit b i
    · rw [if_pos hbit, w64 _ (by omega) (by omega)]
      exact ih k (i + 1) (by omega) (by omega) (by rw [top_succ a i h0 (by omega), top_succ b i h0 (by omega), he, hbit])
    · rw [if_neg hbit, decide_eq_false (fun h => hbit (top_bit_eq a b n i h0 (by omega) hn h))]
theorem refCovers41 (a n b m : Int) (ha : U32 a) (hb : U32 b) : interregnumref05_Covers.f 41 a n b m = some (decide (Ok a n ∧ Ok b m ∧ n ≤ m ∧ top b n = a)) := by
  unfold interregnumref05_Covers.f
  rw [refRight a n ha 41 (by omega), refRight b m hb 41 (by omega), Option.bind_some, Option.bind_some]
  simp only [interregnumref05_Covers.j0]
  by_cases h1 : Ok a n
  · by_cases h2 : Ok b m
    · rw [if_pos (by simpa using h1), if_pos (by simpa using h2)]
      by_cases h3 : n ≤ m
      · rw [if_neg (by simp; omega)]
        have := refCovers_loop a n b m ha hb h1.2.1 n.toNat (40 - (n.toNat + 1)) 0 (by omega) (by have := h1.1; omega) (by rw [top_0 a ha, top_0 b hb])
        have h32 := h1.2.1
        rw [show 40 - (n.toNat + 1) + n.toNat + 1 = 40 by omega, Ok_eq h1] at this
        rw [this]
        congr 1
        rw [Bool.eq_iff_iff, decide_eq_true_eq, decide_eq_true_eq]
        exact ⟨fun h => ⟨h1, h2, h3, h.symm⟩, fun h => h.2.2.2.symm⟩
      · rw [if_pos (by simp; omega), decide_eq_false (fun h => h3 h.2.2.1)]
    · rw [if_pos (by simpa using h1), if_neg (by simpa using h2), if_pos trivial, decide_eq_false (fun h => h2 h.2.1)]
  · rw [if_neg (by simpa using h1), if_pos trivial, decide_eq_false (fun h => h1 h.1)]
theorem refCovers (a n b m : Int) (ha : U32 a) (hb : U32 b) (k : Nat) (hk : 41 ≤ k) : interregnumref05_Covers.f k a n b m = some (decide (Ok a n ∧ Ok b m ∧ n ≤ m ∧ top b n = a)) :=
  at_rounds (interregnumref05_Covers.mono _ _ _ _) hk (refCovers41 a n b m ha hb)
end Go.Proofs.Ytjdebhkdbdbepaa.PreExportTells
