/- A path with a number ahead, what is the same as itself, and how long it is; for the statement PathPrepends. -/
import Derived.Test.YtpkckkmgnlhhcaaPathAPathPrepends
namespace Go.Proofs.Ytpkckkmgnlhhcaa.PathPathPrepends
open Go.RowKit Go.Proofs.Ytpkckkmgnlhhcaa.PPathPrepends Go.Proofs.YtpkckkmgnlhhcaaW.PrintWords Go.Proofs.YtpkckkmgnlhhcaaW.PrintLast Go.Proofs.YtpkckkmgnlhhcaaW.PrintMore Go.Proofs.Ytpkckkmgnlhhcaa.Pre
set_option linter.unusedVariables false
theorem SameP_l0 (l : List Seg) (hl : l.length < 4611686018427387904) (hy : ∀ y ∈ l, y.f1.length < 4611686018427387904) (d : Nat) : ∀ (i k : Nat), i + d = l.length → 3 * d + tot (l.drop i) < k → interregnumref05_SamePath.l0 k l l i = some true := by
  induction d with
  | zero =>
    intro i k hi hk
    obtain ⟨k, rfl⟩ : ∃ m, k = m + 1 := ⟨k - 1, by omega⟩
    conv => lhs; unfold interregnumref05_SamePath.l0
    rw [if_neg (by omega)]
  | succ d ih =>
    intro i k hi hk
    obtain ⟨k, rfl⟩ : ∃ m, k = m + 1 := ⟨k - 1, by omega⟩
    have hlt : i < l.length := by omega
    have hm := hy l[i] (List.getElem_mem hlt)
    rw [tot_drop l i hlt] at hk
    obtain ⟨k, rfl⟩ : ∃ m, k = m + 1 := ⟨k - 1, by omega⟩
    conv => lhs; unfold interregnumref05_SamePath.l0
    have inner : ∀ (e j k : Nat), j + e = l[i].f1.length → 3 * d + tot (l.drop (i + 1)) + e + 1 < k → interregnumref05_SamePath.l1 k l l i j = some true := by
      intro e
      induction e with
      | zero =>
        intro j k hj hk
        obtain ⟨k, rfl⟩ : ∃ m, k = m + 1 := ⟨k - 1, by omega⟩
        conv => lhs; unfold interregnumref05_SamePath.l1
        rw [if_pos (by omega), if_pos (by omega), seg_at l i hlt, if_neg (by omega), wn i (by omega)]
        exact ih (i + 1) k (by omega) (by omega)
      | succ e ihe =>
        intro j k hj hk
        obtain ⟨k, rfl⟩ : ∃ m, k = m + 1 := ⟨k - 1, by omega⟩
        conv => lhs; unfold interregnumref05_SamePath.l1
        rw [if_pos (by omega), if_pos (by omega), seg_at l i hlt, if_pos (by omega), if_pos (by omega), if_pos (by omega), if_pos (by omega), if_pos rfl, wn j (by omega)]
        exact ihe (j + 1) k (by omega) (by omega)
    have hin := inner l[i].f1.length 0 k (by omega) (by omega)
    rw [show ((0 : Nat) : Int) = 0 from rfl] at hin
    rw [if_pos (by omega), if_pos (by omega), if_pos (by omega), if_neg (by simp)]
    unfold interregnumref05_SamePath.j1
    rw [if_neg (by simp)]
    exact hin
theorem SameP (l : List Seg) (hl : l.length < 4611686018427387904) (ht : tot l < 4611686018427387904) (k : Nat) (hk : 3 * l.length + tot l < k) : interregnumref05_SamePath.f k l l = some true := by
  unfold interregnumref05_SamePath.f
  rw [if_pos rfl]
  exact SameP_l0 l hl (fun y h => by have := tot_mem l y h; omega) l.length 0 k (by omega) (by rw [List.drop_zero]; exact hk)
theorem clone_int (l : List Int) (h : l.length < 17592186044416) : slices_Clone_int_int.f l = some l := by
  unfold slices_Clone_int_int.f
  rw [if_pos h]
def lenV : List Seg → Nat
  | [] => 0
  | s :: l => (if s.f0 = true then 1 else s.f1.length) + lenV l
theorem lenV_le : ∀ l : List Seg, lenV l ≤ l.length + tot l
  | [] => Nat.le_refl _
  | s :: l => by
    have := lenV_le l
    unfold lenV tot
    rw [List.length_cons]
    split <;> omega
theorem Len_l0 (l : List Seg) (hl : l.length < 4611686018427387903) (d : Nat) : ∀ (i k n : Nat), i + d = l.length → d < k → n + lenV (l.drop i) < 4611686018427387903 → path_Length.l0 k (n : Int) l (l.length : Int) (i : Int) = some ((n + lenV (l.drop i) : Nat) : Int) := by
  induction d with
  | zero =>
    intro i k n hi hk hn
    obtain ⟨k, rfl⟩ : ∃ m, k = m + 1 := ⟨k - 1, by omega⟩
    conv => lhs; unfold path_Length.l0
    rw [if_neg (by omega), List.drop_of_length_le (by omega)]
    rfl
  | succ d ih =>
    intro i k n hi hk hn
    obtain ⟨k, rfl⟩ : ∃ m, k = m + 1 := ⟨k - 1, by omega⟩
    have hlt : i < l.length := by omega
    conv => lhs; unfold path_Length.l0
    rw [drop_seg l i hlt] at hn ⊢
    unfold lenV at hn ⊢
    rw [if_pos (by omega), if_pos (by omega), if_pos (by omega), seg_at l i hlt, wn i (by omega)]
    by_cases hf : l[i].f0 = true
    · rw [if_pos hf] at hn
      rw [if_pos hf, if_pos hf, w64 ((n : Int) + 1) (by omega) (by omega), show (n : Int) + 1 = ((n + 1 : Nat) : Int) by omega, ih (i + 1) k (n + 1) (by omega) (by omega) (by omega)]
      congr 2
      omega
    · rw [if_neg hf] at hn
      rw [if_neg hf, if_neg hf, w64 ((n : Int) + (l[i].f1.length : Int)) (by omega) (by omega), show (n : Int) + (l[i].f1.length : Int) = ((n + l[i].f1.length : Nat) : Int) by omega, ih (i + 1) k (n + l[i].f1.length) (by omega) (by omega) (by omega)]
      congr 2
      omega
theorem LenV (l : List Seg) (hl : l.length + tot l < 4611686018427387903) (k : Nat) (hk : l.length < k) : path_Length.f k l = some (lenV l : Int) := by
  unfold path_Length.f
  have := lenV_le l
  have h := Len_l0 l (by omega) l.length 0 k 0 (by omega) hk (by rw [List.drop_zero]; omega)
  rw [List.drop_zero, Nat.zero_add] at h
  exact h
theorem lenV_pre (l : List Seg) (a : Int) : lenV (prependV l a) = lenV l + 1 := by
  cases l with
  | nil => rfl
  | cons s r =>
    show lenV (if s.f0 = true ∨ 255 ≤ s.f1.length then _ else _ : List Seg) = _
    split
    · show 1 + lenV (s :: r) = _
      omega
    · rename_i h
      have hf : ¬ s.f0 = true := fun e => h (Or.inl e)
      unfold lenV
      rw [if_neg hf, if_neg hf, List.length_cons]
      omega
theorem tot_pre (l : List Seg) (a : Int) : tot (prependV l a) = tot l + 1 := by
  cases l with
  | nil => rfl
  | cons s r =>
    show tot (if s.f0 = true ∨ 255 ≤ s.f1.length then _ else _ : List Seg) = _
    split
    · show 1 + tot (s :: r) = _
      omega
    · unfold tot
      rw [List.length_cons]
      omega
theorem Prepend_new (k : Nat) (l : List Seg) (a : Int) (hl : l.length < 4000) : interregnumref05_Prepend.j0 (k + 1) l a false = some (⟨false, [a]⟩ :: l) := by
  unfold interregnumref05_Prepend.j0
  dsimp only
  rw [if_neg (by simp), Option.bind_some, if_pos (by rw [List.length_singleton]; omega)]
  rfl
theorem Prepend_f (k : Nat) (l : List Seg) (a : Int) (hl : l.length < 4000) (hy : ∀ y ∈ l, y.f1.length < 4000) : interregnumref05_Prepend.f (k + 1) l a = some (prependV l a) := by
  unfold interregnumref05_Prepend.f
  cases l with
  | nil =>
    rw [if_neg (by simp), Prepend_new k [] a hl]
    rfl
  | cons s r =>
    have hs := hy s List.mem_cons_self
    have hrd : rd_T38 (s :: r) 0 = s := rfl
    rw [if_pos (by rw [List.length_cons]; omega), if_pos (by rw [List.length_cons]; omega), hrd]
    show _ = some (if s.f0 = true ∨ 255 ≤ s.f1.length then _ else _ : List Seg)
    by_cases hf : s.f0 = true
    · rw [if_pos hf, if_pos (Or.inl hf), Prepend_new k _ a hl]
    · rw [if_neg hf]
      by_cases h5 : 255 ≤ s.f1.length
      · rw [decide_eq_false (by omega), if_pos (Or.inr h5), Prepend_new k _ a hl]
      · rw [decide_eq_true (by omega), if_neg (fun h => h.elim hf h5)]
        have hff : s.f0 = false := by cases h : s.f0 with | true => exact absurd h hf | false => rfl
        unfold interregnumref05_Prepend.j0
        dsimp only
        rw [if_pos rfl, Option.bind_some, if_pos (by rw [List.length_cons]; omega), hrd, if_pos (by rw [List.length_singleton]; omega), Option.bind_some, if_pos (by rw [List.length_cons]; omega), Option.bind_some, if_pos (by simp only [List.length_singleton, List.drop_succ_cons, List.drop_zero]; rw [List.length_cons] at hl; omega), hff]
        rfl
end Go.Proofs.Ytpkckkmgnlhhcaa.PathPathPrepends
