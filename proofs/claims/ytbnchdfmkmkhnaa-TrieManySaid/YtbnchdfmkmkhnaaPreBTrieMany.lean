/- What the reference's Make computes; for the statement TrieMany. -/
import Derived.Test.YtbnchdfmkmkhnaaPreCTrieMany
namespace Go.Proofs.Ytbnchdfmkmkhnaa.PreTrieMany
open Go.RowKit Go.Proofs.Ytbnchdfmkmkhnaa.PTrieMany Go.Proofs.YtbnchdfmkmkhnaaW.PrintWords Go.Proofs.YtbnchdfmkmkhnaaW.PrintLast Go.Proofs.YtbnchdfmkmkhnaaW.PrintMore Go.Proofs.Ytbnchdfmkmkhnaa.Pre
theorem refMake_loop (a n : Int) (ha : U32 a) (hn0 : 0 ≤ n) (hn : n ≤ 32) (d : Nat) : ∀ (k : Nat) (i : Int), 0 ≤ i → i + d = n → interregnumref05_Make.l0 (k + d + 1) a n i (top a i) n = some (top a n, n, true) := by
  induction d with
  | zero =>
    intro k i h0 hi
    have : i = n := by omega
    subst this
    conv => lhs; unfold interregnumref05_Make.l0
    rw [if_neg (by omega)]
  | succ d ih =>
    intro k i h0 hi
    rw [show k + (d + 1) + 1 = (k + d + 1) + 1 by omega]
    conv => lhs; unfold interregnumref05_Make.l0
    rw [if_pos (by omega), Bit a i ha h0 (by omega)]
    simp only [Option.bind_some]
    rw [shl_prog _ i (bit_01 a i) h0 (by omega), ← top_succ a i h0 (by omega)]
    have hu := top_U32 a (i + 1) ha
    rw [show top a (i + 1) % 4294967296 = top a (i + 1) from Int.emod_eq_of_lt hu.1 hu.2]
    rw [w64 (31 - i) (by omega) (by omega), u64 _ (by omega) (by omega), if_pos (by omega), w64 _ (by omega) (by omega)]
    exact ih k (i + 1) (by omega) (by omega)
theorem refMake (a n : Int) (ha : U32 a) (k : Nat) (hk : 40 ≤ k) : interregnumref05_Make.f k a n = some (if 0 ≤ n ∧ n ≤ 32 then (top a n, n, true) else (0, 0, false)) := by
  obtain ⟨k, rfl⟩ : ∃ m, k = m + 1 := ⟨k - 1, by omega⟩
  unfold interregnumref05_Make.f
  simp only [interregnumref05_Make.j0]
  split
  · rw [if_pos trivial, if_neg (by omega)]
  · by_cases h32 : n > 32
    · rw [if_pos (by simpa using h32), if_neg (by omega)]
    · have h1 : 0 ≤ n := by omega
      have h2 : n ≤ 32 := by omega
      have := refMake_loop a n ha h1 h2 n.toNat (k - (n.toNat + 1)) 0 (by omega) (by omega)
      rw [show k - (n.toNat + 1) + n.toNat + 1 = k by omega, top_0 a ha] at this
      rw [if_neg (by simpa using h2), this, if_pos ⟨h1, h2⟩]
end Go.Proofs.Ytbnchdfmkmkhnaa.PreTrieMany
