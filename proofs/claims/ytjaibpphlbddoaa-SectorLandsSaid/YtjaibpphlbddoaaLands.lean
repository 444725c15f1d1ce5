/- What of many writes of one byte a crash leaves. No program in sight. -/
import Derived.Test.YtjaibpphlbddoaaDiskLaws
import Derived.Laws.BitsLemmas
import Derived.Test.YtjaibpphlbddoaaWMore
namespace Go.Proofs.Ytjaibpphlbddoaa.Disk
open Go.RowKit Go.Proofs.YtjaibpphlbddoaaW.PrintWords Go.Proofs.YtjaibpphlbddoaaW.PrintMore
set_option linter.unusedVariables false
/-- The writes of the first i. -/
def looseK (l : List Int) : Nat → List (Int × List Int)
  | 0 => []
  | i + 1 => looseK l i ++ [(l.getD i 0 % 8, fill [((i : Int) + 1) % 256])]
def keepB (keep : Int) (i : Nat) : Bool := keep / 2 ^ (i % 64) % 2 == 1
/-- What is wanted behind the first i. -/
def wantK (l : List Int) (keep : Int) : Nat → List Int
  | 0 => List.replicate 8 0
  | i + 1 => if keepB keep i = true then (wantK l keep i).set (l.getD i 0 % 8).toNat ((i : Int) + 1) else wantK l keep i
theorem looseK_length (l : List Int) (i : Nat) : (looseK l i).length = i := by
  induction i with
  | zero => rfl
  | succ i ih => unfold looseK; rw [List.length_append, ih]; rfl
theorem wantK_length (l : List Int) (keep : Int) (i : Nat) : (wantK l keep i).length = 8 := by
  induction i with
  | zero => rfl
  | succ i ih =>
    unfold wantK
    split
    · rw [List.length_set, ih]
    · exact ih
theorem looseK_fit (l : List Int) (i : Nat) : Fit 8 (new 8).lasts (looseK l i) := by
  induction i with
  | zero => exact fit_new (by omega)
  | succ i ih => exact ih.push (by omega) (by omega) (fill_length (by simp))
theorem keep_bit (keep : Int) (hk : 0 ≤ keep ∧ keep < 18446744073709551616) (i : Nat) : (bits BinOp.and IntKind.u64 (keep / 2 ^ (i % 64)) 1 == 1) = keepB keep i := by
  have hq : 0 ≤ keep / 2 ^ (i % 64) := Int.ediv_nonneg hk.1 (Int.le_of_lt (Int.pow_pos (by omega)))
  have hle : keep / 2 ^ (i % 64) ≤ keep := Int.ediv_le_self _ hk.1
  have hw : ∀ n : Int, 0 ≤ n → n < 2 ^ 64 → IntKind.u64.wrap n = n := fun n h0 h1 => by
    simp [IntKind.wrap, IntKind.bits, IntKind.signed]
    omega
  have := bits_mask .u64 64 (by decide) hw 1 (by omega) (keep / 2 ^ (i % 64)) hq (by have := hk.2; omega)
  rw [show ((2 : Int) ^ 1 - 1) = 1 from rfl] at this
  unfold keepB
  rw [this]
  rfl
theorem crashedK_length (l : List Int) (keep part : Int) (i : Nat) : (crashed keep (-1) part 0 (looseK l i) (new 8).lasts).length = 512 := by
  rw [crashed_length (looseK_fit l i).at_]
  exact (looseK_fit l i).lasts
theorem lands (l : List Int) (keep part : Int) (hk : 0 ≤ keep ∧ keep < 18446744073709551616) (k : Int) (h0 : 0 ≤ k) (h8 : k < 8) (i : Nat) : sector (crashed keep (-1) part 0 (looseK l i) (new 8).lasts) k = fill [(wantK l keep i).getD k.toNat 0 % 256] := by
  induction i with
  | zero =>
    show sector (new 8).lasts k = _
    rw [show sector (new 8).lasts k = _ from sector_new 8 (by omega) k (by omega)]
    have : (wantK l keep 0).getD k.toNat 0 = 0 := by
      unfold wantK
      rw [List.getD_eq_getElem?_getD, List.getElem?_replicate]
      split <;> rfl
    rw [this]
    rfl
  | succ i ih =>
    have hlen := crashedK_length l keep part i
    have hm : 0 ≤ l.getD i 0 % 8 ∧ l.getD i 0 % 8 < 8 := by omega
    have hf : (fill [((i : Int) + 1) % 256]).length = 64 := fill_length (by simp)
    show sector (crashed keep (-1) part 0 (looseK l i ++ [_]) (new 8).lasts) k = _
    rw [crashed_snoc, looseK_length, Nat.zero_add]
    unfold crashOne wantK
    rw [if_neg (by omega), keep_bit keep hk i]
    by_cases hb : keepB keep i = true
    · rw [if_pos hb, if_pos hb]
      dsimp only
      generalize l.getD i 0 % 8 = m at hm
      by_cases hkm : k = m
      · subst hkm
        rw [sector_put (by omega) hf, List.getD_eq_getElem?_getD, List.getElem?_set_self (by rw [wantK_length]; omega)]
        rfl
      · rw [sector_far (c := m.toNat) rfl (by rw [hf]; omega) (by omega) (by omega), ih, List.getD_eq_getElem?_getD, List.getD_eq_getElem?_getD, List.getElem?_set_ne (by omega)]
    · rw [if_neg hb, if_neg hb]
      exact ih
theorem wantK_range (l : List Int) (keep : Int) (i : Nat) : ∀ x ∈ wantK l keep i, 0 ≤ x ∧ x ≤ i := by
  induction i with
  | zero =>
    intro x hx
    have := List.eq_of_mem_replicate hx
    omega
  | succ i ih =>
    intro x hx
    unfold wantK at hx
    split at hx
    · rcases List.mem_or_eq_of_mem_set hx with h | h
      · have := ih x h; omega
      · omega
    · have := ih x hx; omega
end Go.Proofs.Ytjaibpphlbddoaa.Disk
