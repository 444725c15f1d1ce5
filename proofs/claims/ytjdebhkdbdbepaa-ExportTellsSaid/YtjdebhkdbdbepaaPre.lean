/- Plain facts of prefixes: the first n bits of a number of 32 bits. No program in sight. -/
import Derived.RowKit
import Derived.Laws.BitsLemmas
import Derived.Test.YtjdebhkdbdbepaaWMore
import Derived.Test.YtjdebhkdbdbepaaWWords
namespace Go.Proofs.Ytjdebhkdbdbepaa.Pre
open Go.RowKit Go.Proofs.YtjdebhkdbdbepaaW.PrintWords Go.Proofs.YtjdebhkdbdbepaaW.PrintMore

/-- what the bits behind the first n count -/
def D (n : Int) : Int := 2 ^ (32 - n).toNat
/-- the first n bits -/
def top (a n : Int) : Int := a / D n * D n
def Ok (a n : Int) : Prop := 0 ≤ n ∧ n ≤ 32 ∧ a % D n = 0
instance (a n : Int) : Decidable (Ok a n) := inferInstanceAs (Decidable (_ ∧ _))
def U32 (a : Int) : Prop := 0 ≤ a ∧ a < 4294967296

theorem wf_u32 {x : Int} (h : (Lit.int .u32 x).wf = true) : U32 x := by
  simp [Lit.wf, IntKind.min, IntKind.max, IntKind.signed, IntKind.bits] at h
  unfold U32; omega
theorem w64 (i : Int) (h0 : -4611686018427387904 ≤ i) (h : i < 4611686018427387904) : wrap64 i = i := by unfold wrap64; omega
theorem u64 (i : Int) (h0 : 0 ≤ i) (h : i < 4611686018427387904) : IntKind.u64.wrap i = i := by
  simp [IntKind.wrap, IntKind.bits, IntKind.signed]
  omega
theorem D_pos (n : Int) : 0 < D n := by
  unfold D
  exact Int.pow_pos (by omega)
theorem D_32 : D 32 = 1 := rfl
theorem D_0 : D 0 = 4294967296 := by decide
theorem D_succ (n : Int) (h0 : 0 ≤ n) (h : n < 32) : D n = 2 * D (n + 1) := by
  unfold D
  rw [show (32 - n).toNat = (32 - (n + 1)).toNat + 1 by omega, Int.pow_succ, Int.mul_comm]
theorem top_0 (a : Int) (h : U32 a) : top a 0 = 0 := by
  unfold top U32 at *
  rw [D_0, Int.ediv_eq_zero_of_lt h.1 h.2]; rfl
theorem top_low (a n : Int) : top a n + a % D n = a := by
  unfold top
  have := Int.mul_ediv_add_emod a (D n)
  rw [Int.mul_comm] at this
  exact this
def bit (a i : Int) : Int := a / D (i + 1) % 2
theorem bit_01 (a i : Int) : bit a i = 0 ∨ bit a i = 1 := by unfold bit; omega
theorem top_succ (a i : Int) (h0 : 0 ≤ i) (h : i < 32) : top a (i + 1) = top a i + bit a i * D (i + 1) := by
  unfold top bit
  rw [D_succ i h0 h]
  have hd : a / (2 * D (i + 1)) = a / D (i + 1) / 2 := by rw [Int.mul_comm, Int.ediv_ediv_of_nonneg (Int.le_of_lt (D_pos _))]
  rw [hd]
  generalize a / D (i + 1) = q
  generalize D (i + 1) = d
  have e : q = q / 2 * 2 + q % 2 := by omega
  calc q * d = (q / 2 * 2 + q % 2) * d := by rw [← e]
    _ = q / 2 * (2 * d) + q % 2 * d := by rw [Int.add_mul, Int.mul_assoc]
theorem low_succ (a i : Int) (h0 : 0 ≤ i) (h : i < 32) : a % D i = bit a i * D (i + 1) + a % D (i + 1) := by
  have h1 := top_succ a i h0 h
  have h2 := top_low a i
  have h3 := top_low a (i + 1)
  omega
/-- what the first n bits tell of the first i -/
theorem top_top (a n i : Int) (h0 : 0 ≤ i) (hi : i ≤ n) (hn : n ≤ 32) : top (top a n) i = top a i := by
  have hdvd : ∃ c, 0 < c ∧ D i = D n * c := by
    refine ⟨2 ^ (n - i).toNat, Int.pow_pos (by omega), ?_⟩
    unfold D
    rw [← Int.pow_add]
    congr 1
    omega
  obtain ⟨c, hc, e⟩ := hdvd
  unfold top
  have hp := D_pos n
  congr 1
  rw [e, ← Int.ediv_ediv_of_nonneg (Int.le_of_lt hp), ← Int.ediv_ediv_of_nonneg (Int.le_of_lt hp), Int.mul_ediv_cancel _ (by omega)]
theorem Ok_eq {a n : Int} (h : Ok a n) : top a n = a := by
  have := top_low a n
  have := h.2.2
  omega

/-! ### masks -/
theorem mask_eq (n : Int) (h0 : 0 ≤ n) (h : n ≤ 32) : Go.bits .xor .u32 4294967295 (shr .u32 4294967295 n) = 4294967296 - D n := by
  obtain ⟨m, rfl⟩ := Int.eq_ofNat_of_zero_le h0
  have : ∀ m : Fin 33, Go.bits .xor .u32 4294967295 (shr .u32 4294967295 (m.val : Int)) = 4294967296 - D (m.val : Int) := by decide +kernel
  exact this ⟨m, by omega⟩
theorem mask_bv (n : Int) (h0 : 0 ≤ n) (h : n ≤ 32) : BitVec.ofInt 32 (4294967296 - D n) = (BitVec.allOnes 32) <<< (32 - n).toNat := by
  obtain ⟨m, rfl⟩ := Int.eq_ofNat_of_zero_le h0
  have : ∀ m : Fin 33, BitVec.ofInt 32 (4294967296 - D (m.val : Int)) = (BitVec.allOnes 32) <<< (32 - (m.val : Int)).toNat := by decide +kernel
  exact this ⟨m, by omega⟩
theorem and_mask (a n : Int) (ha : U32 a) (h0 : 0 ≤ n) (h : n ≤ 32) : Go.bits .and .u32 a (4294967296 - D n) = top a n := by
  obtain ⟨m, rfl⟩ := Int.eq_ofNat_of_zero_le ha.1
  have hm : m < 2 ^ 32 := by have := ha.2; omega
  unfold Go.bits
  show IntKind.u32.wrap (((BitVec.ofInt 32 (m : Int)) &&& (BitVec.ofInt 32 (4294967296 - D n))).toNat : Int) = _
  rw [mask_bv n h0 h, BitVec.ofInt_natCast]
  generalize hk : (32 - n).toNat = k
  have e : (BitVec.ofNat 32 m &&& BitVec.allOnes 32 <<< k) = (BitVec.ofNat 32 m >>> k) <<< k := by
    apply BitVec.eq_of_getLsbD_eq
    intro i hi
    simp only [BitVec.getLsbD_and, BitVec.getLsbD_shiftLeft, BitVec.getLsbD_ushiftRight, BitVec.getLsbD_allOnes, hi, decide_true, Bool.true_and]
    by_cases hik : i < k
    · simp [hik]
    · simp [hik, show k + (i - k) = i by omega, show i - k < 32 by omega]
  rw [e, BitVec.toNat_shiftLeft, BitVec.toNat_ushiftRight, BitVec.toNat_ofNat, Nat.mod_eq_of_lt hm, Nat.shiftLeft_eq, Nat.shiftRight_eq_div_pow]
  have hle : m / 2 ^ k * 2 ^ k ≤ m := Nat.div_mul_le_self _ _
  rw [Nat.mod_eq_of_lt (by omega), IntKind.wrap_u32]
  unfold top D
  rw [hk]
  have : ((m / 2 ^ k * 2 ^ k : Nat) : Int) = (m : Int) / 2 ^ k * 2 ^ k := by
    rw [Int.natCast_mul, Int.natCast_ediv]; simp
  rw [← this]
  omega
theorem andNot_mask (a n : Int) (ha : U32 a) (h0 : 0 ≤ n) (h : n ≤ 32) : Go.bits .andNot .u32 a (4294967296 - D n) = a % D n := by
  have hnot : ~~~ BitVec.ofInt 32 (4294967296 - D n) = BitVec.ofInt 32 (2 ^ (32 - n).toNat - 1) := by
    obtain ⟨m, rfl⟩ := Int.eq_ofNat_of_zero_le h0
    have : ∀ m : Fin 33, ~~~ BitVec.ofInt 32 (4294967296 - D (m.val : Int)) = BitVec.ofInt 32 (2 ^ (32 - (m.val : Int)).toNat - 1) := by decide +kernel
    exact this ⟨m, by omega⟩
  have := bits_mask .u32 32 (by decide) (fun n h0 h1 => by rw [IntKind.wrap_u32]; omega) (32 - n).toNat (by omega) a ha.1 (by have := ha.2; omega)
  unfold Go.bits at this ⊢
  show IntKind.u32.wrap (((BitVec.ofInt 32 a) &&& (~~~ BitVec.ofInt 32 (4294967296 - D n))).toNat : Int) = _
  rw [hnot]
  exact this
theorem bit_prog (a i : Int) (ha : U32 a) (h0 : 0 ≤ i) (h : i < 32) : Int.tmod (shr .u32 a (IntKind.u64.wrap (wrap64 (31 - i)))) 2 = bit a i := by
  rw [w64 _ (by omega) (by omega), u64 _ (by omega) (by omega)]
  unfold shr bit D
  rw [Nat.min_eq_left (by simp [IntKind.bits]; omega), show (32 - (i + 1)).toNat = (31 - i).toNat by omega]
  have hq : 0 ≤ a / 2 ^ (31 - i).toNat := Int.ediv_nonneg ha.1 (Int.le_of_lt (Int.pow_pos (by omega)))
  rw [Int.tmod_eq_emod_of_nonneg hq]
end Go.Proofs.Ytjdebhkdbdbepaa.Pre
