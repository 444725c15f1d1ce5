/- What the reference's Right computes; for the statement ExportTells. -/
import Derived.Test.YtjdebhkdbdbepaaPreCExportTells
namespace Go.Proofs.Ytjdebhkdbdbepaa.PreExportTells
open Go.RowKit Go.Proofs.Ytjdebhkdbdbepaa.PExportTells Go.Proofs.YtjdebhkdbdbepaaW.PrintWords Go.Proofs.YtjdebhkdbdbepaaW.PrintLast Go.Proofs.YtjdebhkdbdbepaaW.PrintMore Go.Proofs.Ytjdebhkdbdbepaa.Pre
theorem refRight_loop (a n : Int) (ha : U32 a) (d : Nat) : ∀ (k : Nat) (i : Int), 0 ≤ i → i + d = 32 → interregnumref05_Right.l0 (k + d + 1) i a n = some (decide (a % D i = 0)) := by
  induction d with
  | zero =>
    intro k i h0 hi
    have : i = 32 := by omega
    subst this
    conv => lhs; unfold interregnumref05_Right.l0
    rw [if_neg (by omega), D_32]
    simp
  | succ d ih =>
    intro k i h0 hi
    rw [show k + (d + 1) + 1 = (k + d + 1) + 1 by omega]
    conv => lhs; unfold interregnumref05_Right.l0
    rw [if_pos (by omega), Bit a i ha h0 (by omega)]
    simp only [Option.bind_some]
    have hl := low_succ a i h0 (by omega)
    have hp := D_pos (i + 1)
    have hm := Int.emod_nonneg a (show D (i + 1) ≠ 0 by omega)
    rcases bit_01 a i with hb | hb
    · rw [if_neg (by omega), w64 _ (by omega) (by omega), ih k (i + 1) (by omega) (by omega), hl, hb]
      simp
    · rw [if_pos hb, hl, hb]
      have : ¬ (1 * D (i + 1) + a % D (i + 1) = 0) := by omega
      rw [decide_eq_false this]
theorem refRight (a n : Int) (ha : U32 a) (k : Nat) (hk : 40 ≤ k) : interregnumref05_Right.f k a n = some (decide (Ok a n)) := by
  obtain ⟨k, rfl⟩ : ∃ m, k = m + 1 := ⟨k - 1, by omega⟩
  unfold interregnumref05_Right.f Ok
  simp only [interregnumref05_Right.j0]
  split
  · have h : ¬ 0 ≤ n := by omega
    simp [h]
  · by_cases h32 : n > 32
    · have h : ¬ n ≤ 32 := by omega
      simp [h, h32]
    · have h1 : 0 ≤ n := by omega
      have h2 : n ≤ 32 := by omega
      have := refRight_loop a n ha (32 - n).toNat (k - ((32 - n).toNat + 1)) n h1 (by omega)
      rw [show k - ((32 - n).toNat + 1) + (32 - n).toNat + 1 = k by omega] at this
      rw [if_neg (by simpa using h2), this]
      simp [h1, h2]
end Go.Proofs.Ytjdebhkdbdbepaa.PreExportTells
