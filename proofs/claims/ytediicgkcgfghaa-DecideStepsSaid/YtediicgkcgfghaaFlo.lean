/- Whole numbers as float64 words: the order of the words is that of the numbers. No program in sight. -/
import GoSem.Core.Float
import GoSem.Extern.MathDim
namespace Go.Proofs.Ytediicgkcgfghaa.Flo
open Ieee
set_option linter.unusedVariables false
set_option exponentiation.threshold 2000
/-- A word that stands for a whole number. -/
def FV (x : Nat) (v : Int) : Prop := ∃ (s : Bool) (m : Nat) (e : Int), FloatKind.f64.format.read x = .number s m e ∧ -1074 ≤ e ∧ signed s m (e + 1074).toNat = v * 2 ^ 1074
theorem signed_shift (s : Bool) (m a b : Nat) : signed s m (a + b) = signed s m a * 2 ^ b := by
  unfold signed
  rw [Nat.shiftLeft_add, Nat.shiftLeft_eq (m <<< a) b]
  cases s
  · simp
  · simp [Int.neg_mul]
theorem cmp_eq {a b c d : Int} (h1 : a < b ↔ c < d) (h2 : a = b ↔ c = d) : compare a b = compare c d := by
  show compareOfLessAndEq a b = compareOfLessAndEq c d
  unfold compareOfLessAndEq
  by_cases q : a < b
  · rw [if_pos q, if_pos (h1.1 q)]
  · rw [if_neg q, if_neg (fun z => q (h1.2 z))]
    by_cases r : a = b
    · rw [if_pos r, if_pos (h2.1 r)]
    · rw [if_neg r, if_neg (fun z => r (h2.2 z))]
theorem FV.order {x y : Nat} {v u : Int} (hx : FV x v) (hy : FV y u) : FloatKind.f64.format.order x y = some (compare v u) := by
  obtain ⟨s, m, i, h1, h2, h3⟩ := hx
  obtain ⟨t, n, j, g1, g2, g3⟩ := hy
  unfold Format.order
  rw [h1, g1]
  show some (compare (signed s m (i - min i j).toNat) (signed t n (j - min i j).toNat)) = _
  congr 1
  obtain ⟨c, hc⟩ : ∃ c : Nat, (c : Int) = min i j + 1074 := ⟨(min i j + 1074).toNat, by omega⟩
  rw [show (i + 1074).toNat = (i - min i j).toNat + c by omega, signed_shift] at h3
  rw [show (j + 1074).toNat = (j - min i j).toNat + c by omega, signed_shift] at g3
  generalize signed s m (i - min i j).toNat = A at *
  generalize signed t n (j - min i j).toNat = B at *
  have p : (0 : Int) < 2 ^ c := Int.pow_pos (by decide)
  have q : (0 : Int) < 2 ^ 1074 := Int.pow_pos (by decide)
  refine cmp_eq ?_ ?_
  · constructor
    · intro h
      have := Int.mul_lt_mul_of_pos_right h p
      rw [h3, g3] at this
      exact Int.lt_of_mul_lt_mul_right this (Int.le_of_lt q)
    · intro h
      have := Int.mul_lt_mul_of_pos_right h q
      rw [← h3, ← g3] at this
      exact Int.lt_of_mul_lt_mul_right this (Int.le_of_lt p)
  · constructor
    · intro h
      rw [h, g3] at h3
      exact (Int.eq_of_mul_eq_mul_right (Int.ne_of_gt q) h3).symm
    · intro h
      rw [h, ← g3] at h3
      exact Int.eq_of_mul_eq_mul_right (Int.ne_of_gt p) h3
theorem cut_zero (neg : Bool) (n : Nat) : Toward.even.cut neg n 0 = n := by
  unfold Toward.cut
  simp
  rw [Nat.mod_one]
  omega
theorem read_word (neg : Bool) (rung : Nat) (h : rung < double.signWeight) : double.word neg rung / double.signWeight % 2 = neg.toNat ∧ double.word neg rung % double.signWeight = rung := by
  have e : double.signWeight = 9223372036854775808 := by decide
  unfold Format.word
  rw [e] at h ⊢
  cases neg
  · simp
    omega
  · simp
    omega
theorem read_normal (neg : Bool) (a kept : Nat) (ha : a < 2000) (h1 : 4503599627370496 ≤ kept) (h2 : kept < 9007199254740992) :
    double.read (double.word neg (a * 4503599627370496 + kept)) = .number neg kept (-1074 + a) := by
  have e1 : double.binade = 4503599627370496 := by decide
  have e2 : double.infRung = 9218868437227405312 := by decide
  have e3 : double.leastPlace = -1074 := by decide
  have e4 : double.signWeight = 9223372036854775808 := by decide
  obtain ⟨r1, r2⟩ := read_word neg (a * 4503599627370496 + kept) (by rw [e4]; omega)
  unfold Format.read
  dsimp only
  rw [r1, r2, e1, e2, e3, if_neg (by omega), if_pos (by omega)]
  congr 1
  · cases neg <;> rfl
  · omega
  · omega
theorem nearest_read (neg : Bool) (mag : Nat) (h0 : mag ≠ 0) (h : mag < 9007199254740992) :
    ∃ (m : Nat) (e : Int), double.read (double.nearest neg mag 0) = .number neg m e ∧ -1074 ≤ e ∧ m <<< (e + 1074).toNat = mag * 2 ^ 1074 := by
  have l1 : 2 ^ mag.log2 ≤ mag := Nat.log2_self_le h0
  have l2 : mag < 2 ^ (mag.log2 + 1) := Nat.lt_log2_self
  have l3 : mag.log2 ≤ 52 := by
    have : mag.log2 < 53 := (Nat.log2_lt h0).2 (by omega)
    omega
  generalize hL : mag.log2 = L at l1 l2 l3
  have p : 2 ^ L * 2 ^ (52 - L) = 4503599627370496 := by
    rw [← Nat.pow_add, show L + (52 - L) = 52 by omega]
  have q : 2 ^ (L + 1) * 2 ^ (52 - L) = 9007199254740992 := by
    rw [← Nat.pow_add, show L + 1 + (52 - L) = 53 by omega]
  have k1 : 4503599627370496 ≤ mag * 2 ^ (52 - L) := by
    rw [← p]; exact Nat.mul_le_mul_right _ l1
  have k2 : mag * 2 ^ (52 - L) < 9007199254740992 := by
    rw [← q]; exact Nat.mul_lt_mul_of_pos_right l2 (Nat.two_pow_pos _)
  refine ⟨mag * 2 ^ (52 - L), -1074 + ((L + 1022 : Nat) : Int), ?_, by omega, ?_⟩
  · have e1 : double.binade = 4503599627370496 := by decide
    have e2 : double.infRung = 9218868437227405312 := by decide
    have e3 : double.leastPlace = -1074 := by decide
    have e5 : (double.fractionBits : Int) = 52 := by decide
    rw [← read_normal neg (L + 1022) _ (by omega) k1 k2]
    congr 1
    unfold Format.nearest
    rw [if_neg h0]
    dsimp only
    rw [hL, e1, e2, e3, e5, show max ((0 : Int) + (L : Int) - 52) (-1074) = (L : Int) - 52 by omega, show ((0 : Int) - ((L : Int) - 52)).toNat = 52 - L by omega, show ((L : Int) - 52 - 0).toNat = 0 by omega, cut_zero, Nat.shiftLeft_eq,
      show ((L : Int) - 52 - -1074).toNat = L + 1022 by omega, Nat.min_eq_left (by omega)]
  · rw [Nat.shiftLeft_eq, show (-1074 + ((L + 1022 : Nat) : Int) + 1074).toNat = L + 1022 by omega, Nat.mul_assoc, ← Nat.pow_add, show 52 - L + (L + 1022) = 1074 by omega]
theorem cast_mul_pow (a k : Nat) : ((a * 2 ^ k : Nat) : Int) = (a : Int) * 2 ^ k := by
  rw [Int.natCast_mul, Int.natCast_pow]; rfl
theorem FV.nearest (n : Int) (h : n.natAbs ≤ 9007199254740992) : FV (FloatKind.f64.nearest n) n := by
  show FV (double.nearest (decide (n < 0)) n.natAbs 0) n
  by_cases h0 : n.natAbs = 0
  · obtain rfl : n = 0 := by omega
    refine ⟨false, 0, -1074, by decide, by omega, ?_⟩
    rw [Int.zero_mul]
    rfl
  · by_cases hb : n.natAbs = 9007199254740992
    · rcases Int.natAbs_eq n with e | e
      · rw [hb] at e
        subst e
        refine ⟨false, 4503599627370496, 1, by decide +kernel, by omega, ?_⟩
        decide +kernel
      · rw [hb] at e
        subst e
        refine ⟨true, 4503599627370496, 1, by decide +kernel, by omega, ?_⟩
        decide +kernel
    · obtain ⟨m, e, h1, h2, h3⟩ := nearest_read (decide (n < 0)) n.natAbs h0 (by omega)
      refine ⟨_, m, e, h1, h2, ?_⟩
      unfold signed
      rw [h3, cast_mul_pow]
      by_cases hn : n < 0
      · rw [decide_eq_true hn, if_pos rfl, ← Int.neg_mul]
        congr 1
        omega
      · rw [decide_eq_false hn, if_neg (by decide)]
        congr 1
        omega
/-- Its sign turned. -/
theorem FV.neg {x : Nat} {v : Int} (h : FV x v) (hx : x < 2 ^ 64) : FV (x ^^^ 2 ^ 63) (-v) := by
  obtain ⟨s, m, e, h1, h2, h3⟩ := h
  refine ⟨!s, m, e, ?_, h2, ?_⟩
  · have e4 : double.signWeight = 9223372036854775808 := by decide
    have hb : (x ^^^ 2 ^ 63) / 9223372036854775808 % 2 = 1 - x / 9223372036854775808 % 2 ∧ (x ^^^ 2 ^ 63) % 9223372036854775808 = x % 9223372036854775808 := by
      have a : x / 2 ^ 63 < 2 := by omega
      have e1 : (x ^^^ 2 ^ 63) / 2 ^ 63 = (x / 2 ^ 63) ^^^ 1 := by
        rw [← Nat.shiftRight_eq_div_pow, Nat.shiftRight_xor_distrib, Nat.shiftRight_eq_div_pow, Nat.shiftRight_eq_div_pow]
      have e2 : (x ^^^ 2 ^ 63) % 2 ^ 63 = x % 2 ^ 63 := by
        rw [Nat.xor_mod_two_pow]
        show x % 2 ^ 63 ^^^ 0 = _
        exact Nat.xor_zero _
      refine ⟨?_, e2⟩
      show (x ^^^ 2 ^ 63) / 2 ^ 63 % 2 = 1 - x / 2 ^ 63 % 2
      rw [e1]
      generalize x / 2 ^ 63 = y at a
      match y, a with
      | 0, _ => rfl
      | 1, _ => rfl
    have h1' : double.read x = .number s m e := h1
    show double.read (x ^^^ 2 ^ 63) = _
    unfold Format.read at h1' ⊢
    dsimp only at h1' ⊢
    rw [e4] at h1' ⊢
    rw [hb.1, hb.2]
    have hs : (1 - x / 9223372036854775808 % 2 == 1) = !(x / 9223372036854775808 % 2 == 1) := by
      have : x / 9223372036854775808 % 2 < 2 := Nat.mod_lt _ (by decide)
      generalize x / 9223372036854775808 % 2 = y at this
      match y, this with
      | 0, _ => rfl
      | 1, _ => rfl
    rw [hs]
    generalize (x / 9223372036854775808 % 2 == 1) = z at h1' ⊢
    split at h1'
    · rename_i c
      rw [if_pos c]
      cases h1'
      rfl
    · rename_i c
      rw [if_neg c]
      split at h1'
      · rename_i d
        rw [if_pos d]
        cases h1'
        rfl
      · split at h1' <;> cases h1'
  · rw [Int.neg_mul, ← h3]
    unfold signed
    cases s
    · rfl
    · exact (Int.neg_neg _).symm
/-- The word of what is greater than all. -/
def infW : Nat := 9218868437227405312
theorem read_inf : double.read infW = .infinity false := by decide +kernel
/-- The lesser of two words, as the library's Min takes it. -/
def minW (x y : Nat) : Nat :=
  if double.read x == .infinity true || double.read y == .infinity true then double.write (.infinity true)
  else if (double.read x).isNaN || (double.read y).isNaN then 0x7FF8000000000001
  else if (double.read x).isZero && (double.read y).isZero then (if (double.read x).neg == true then x else y)
  else if (double.read x).order (double.read y) == some .lt then x else y
theorem min_pick (x y : Nat) : Go.Extern.MathDim.pick "math.archMin" true .lt #[.float .f64 x, .float .f64 y] = pure (.float .f64 (minW x y)) := rfl
theorem FV.min {x y : Nat} {v u : Int} (hx : FV x v) (hy : FV y u) : FV (minW x y) (min v u) := by
  have ho := hx.order hy
  have kx := hx
  have ky := hy
  obtain ⟨s, m, i, h1, h2, h3⟩ := hx
  obtain ⟨t, n, j, g1, g2, g3⟩ := hy
  have h1 : double.read x = .number s m i := h1
  have g1 : double.read y = .number t n j := g1
  have ho : (double.read x).order (double.read y) = some (compare v u) := ho
  unfold minW
  rw [ho, h1, g1, if_neg (by simp), if_neg (by simp [Datum.isNaN])]
  have q : (0 : Int) < 2 ^ 1074 := Int.pow_pos (by decide)
  split
  · rename_i hz
    rw [Bool.and_eq_true] at hz
    have zm : m = 0 := by
      have := hz.1
      unfold Datum.isZero at this
      cases m with
      | zero => rfl
      | succ m => cases this
    have zn : n = 0 := by
      have := hz.2
      unfold Datum.isZero at this
      cases n with
      | zero => rfl
      | succ n => cases this
    have zv : v = 0 := by
      have e : signed s m (i + 1074).toNat = 0 := by
        rw [zm]; unfold signed; cases s <;> simp
      rw [e] at h3
      rcases Int.mul_eq_zero.1 h3.symm with r | r
      · exact r
      · exact absurd r (Int.ne_of_gt q)
    have zu : u = 0 := by
      have e : signed t n (j + 1074).toNat = 0 := by
        rw [zn]; unfold signed; cases t <;> simp
      rw [e] at g3
      rcases Int.mul_eq_zero.1 g3.symm with r | r
      · exact r
      · exact absurd r (Int.ne_of_gt q)
    subst zv zu
    split
    · exact kx
    · exact ky
  · by_cases hl : v < u
    · have e : compare v u = .lt := by
        show compareOfLessAndEq v u = _
        unfold compareOfLessAndEq
        rw [if_pos hl]
      rw [e, if_pos (by rfl), Int.min_eq_left (by omega)]
      exact kx
    · have e : (some (compare v u) == some Ordering.lt) = false := by
        have : compare v u ≠ .lt := by
          show compareOfLessAndEq v u ≠ _
          unfold compareOfLessAndEq
          rw [if_neg hl]
          split <;> intro h <;> cases h
        generalize compare v u = o at this
        cases o <;> first | rfl | exact absurd rfl this
      rw [e, if_neg (by decide), Int.min_eq_right (by omega)]
      exact ky
theorem FV.minInf {y : Nat} {u : Int} (hy : FV y u) : minW infW y = y := by
  obtain ⟨t, n, j, g1, g2, g3⟩ := hy
  have g1 : double.read y = .number t n j := g1
  unfold minW
  rw [read_inf, g1, if_neg (by simp), if_neg (by simp [Datum.isNaN]), if_neg (by simp [Datum.isZero]), if_neg (by simp [Datum.order])]
theorem FV.eql {x y : Nat} {v u : Int} (hx : FV x v) (hy : FV y u) : (FloatKind.f64.format.order x y == some Ordering.eq) = decide (v = u) := by
  rw [hx.order hy]
  show (some (compareOfLessAndEq v u) == some Ordering.eq) = _
  unfold compareOfLessAndEq
  by_cases h : v < u
  · rw [if_pos h, decide_eq_false (by omega)]; rfl
  · rw [if_neg h]
    by_cases e : v = u
    · rw [if_pos e, decide_eq_true e]; rfl
    · rw [if_neg e, decide_eq_false e]; rfl
end Go.Proofs.Ytediicgkcgfghaa.Flo
