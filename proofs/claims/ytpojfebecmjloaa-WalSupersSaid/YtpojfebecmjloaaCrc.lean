/- Plain facts of the sum of bytes (a cyclic redundancy check, 32 bits): no program in sight. -/
import Derived.RowKit
import Derived.Laws.BitsLemmas
import Derived.Test.YtpojfebecmjloaaWWords
namespace Go.Proofs.Ytpojfebecmjloaa.Crc
open Go.RowKit Go.Proofs.YtpojfebecmjloaaW.PrintWords

abbrev B32 := BitVec 32
def poly : B32 := 0x82f63b78#32
def step (v : B32) : B32 := (v >>> 1) ^^^ (if v.getLsbD 0 then poly else 0)
def steps : Nat → B32 → B32
  | 0, v => v
  | n + 1, v => steps n (step v)
def T (v : B32) : B32 := steps 8 v
def byteOf (c : Int) : B32 := BitVec.ofInt 32 c
def one (v : B32) (c : Int) : B32 := T (v ^^^ byteOf c)
def run (v : B32) (l : List Int) : B32 := l.foldl one v
def crcB (l : List Int) : B32 := ~~~ run (~~~ 0#32) l
def crc (l : List Int) : Int := ((crcB l).toNat : Int)

theorem crc_nonneg (l : List Int) : 0 ≤ crc l := by unfold crc; omega
theorem crc_lt (l : List Int) : crc l < 4294967296 := by
  have := (crcB l).isLt
  unfold crc; omega

theorem steps_succ (n : Nat) (v : B32) : steps (n + 1) v = step (steps n v) := by
  induction n generalizing v with
  | zero => rfl
  | succ n ih => rw [steps, ih (step v)]; rfl

/-! linear -/
theorem xor_swap (a b p : B32) : a ^^^ b = a ^^^ p ^^^ (b ^^^ p) := by
  rw [BitVec.xor_assoc, ← BitVec.xor_assoc p b p, BitVec.xor_comm p b, BitVec.xor_assoc b p p, BitVec.xor_self, BitVec.xor_zero]
theorem step_xor (v w : B32) : step (v ^^^ w) = step v ^^^ step w := by
  unfold step
  rw [BitVec.getLsbD_xor, BitVec.ushiftRight_xor_distrib]
  have z : (0 : B32) = 0#32 := rfl
  cases v.getLsbD 0 <;> cases w.getLsbD 0 <;> simp only [Bool.xor_false, Bool.xor_true, Bool.not_true, Bool.not_false, if_true, if_false, Bool.false_eq_true, z, BitVec.xor_zero]
  · rw [BitVec.xor_assoc]
  · rw [BitVec.xor_assoc, BitVec.xor_comm (w >>> 1) poly, ← BitVec.xor_assoc]
  · exact xor_swap _ _ _
theorem steps_xor (n : Nat) (v w : B32) : steps n (v ^^^ w) = steps n v ^^^ steps n w := by
  induction n generalizing v w with
  | zero => rfl
  | succ n ih => simp only [steps]; rw [step_xor, ih]
theorem step_zero : step 0#32 = 0#32 := by decide
theorem steps_zero (n : Nat) : steps n 0#32 = 0#32 := by
  induction n with
  | zero => rfl
  | succ n ih => rw [steps, step_zero, ih]
/-- Nothing but 0 comes to 0. -/
theorem step_eq_zero (v : B32) (h : step v = 0#32) : v = 0#32 := by
  unfold step at h
  by_cases hb : v.getLsbD 0 = true
  · exfalso
    rw [if_pos hb] at h
    have h31 := congrArg (fun x : B32 => x.getLsbD 31) h
    simp [poly] at h31
  · rw [if_neg hb, show (0 : B32) = 0#32 from rfl, BitVec.xor_zero] at h
    apply BitVec.eq_of_getLsbD_eq
    intro i hi
    rcases Nat.eq_zero_or_pos i with rfl | hp
    · simpa using hb
    · have := congrArg (fun x : B32 => x.getLsbD (i - 1)) h
      simp only [BitVec.getLsbD_ushiftRight] at this
      rw [show 1 + (i - 1) = i by omega] at this
      simpa using this
theorem steps_eq_zero (n : Nat) (v : B32) (h : steps n v = 0#32) : v = 0#32 := by
  induction n generalizing v with
  | zero => exact h
  | succ n ih => exact step_eq_zero v (ih _ h)
theorem xor_eq_zero {v w : B32} (h : v ^^^ w = 0#32) : v = w := by
  have := congrArg (· ^^^ w) h
  simpa [BitVec.xor_assoc] using this
theorem T_inj {v w : B32} (h : T v = T w) : v = w := by
  apply xor_eq_zero
  apply steps_eq_zero 8
  rw [steps_xor]
  unfold T at h
  rw [h, BitVec.xor_self]
theorem T_xor (v w : B32) : T (v ^^^ w) = T v ^^^ T w := steps_xor 8 v w
theorem T_zero : T 0#32 = 0#32 := steps_zero 8
theorem one_inj {v w : B32} {c : Int} (h : one v c = one w c) : v = w := by
  have := T_inj h
  have := congrArg (· ^^^ byteOf c) this
  simpa [BitVec.xor_assoc] using this
theorem run_inj {v w : B32} (l : List Int) (h : run v l = run w l) : v = w := by
  induction l generalizing v w with
  | nil => exact h
  | cons c l ih => exact one_inj (ih h)
theorem run_append (v : B32) (l m : List Int) : run v (l ++ m) = run (run v l) m := by unfold run; rw [List.foldl_append]
theorem crcB_inj_start {l m : List Int} (h : crc l = crc m) : run (~~~ 0#32) l = run (~~~ 0#32) m := by
  unfold crc crcB at h
  have h2 : (~~~ run (~~~ 0#32) l) = ~~~ run (~~~ 0#32) m := BitVec.eq_of_toNat_eq (by omega)
  have := congrArg (fun x : B32 => ~~~ x) h2
  simpa using this

/-- A number whose lower bits are 0 only moves. -/
theorem step_even (v : B32) (h : v.getLsbD 0 = false) : step v = v >>> 1 := by
  unfold step; rw [h]; simp
theorem steps_low (n : Nat) (v : B32) (h : ∀ i, i < n → v.getLsbD i = false) : steps n v = v >>> n := by
  induction n generalizing v with
  | zero => simp [steps]
  | succ n ih =>
    rw [steps, step_even v (h 0 (by omega)), ih]
    · rw [← BitVec.shiftRight_add, Nat.add_comm]
    · intro i hi
      rw [BitVec.getLsbD_ushiftRight, Nat.add_comm]
      exact h (i + 1) (by omega)
/-- T of a byte moved up by j bytes. -/
theorem T_up (t : B32) (ht : t.toNat < 256) (j : Nat) (hj : j < 3) : T (t <<< (8 * (j + 1))) = t <<< (8 * j) := by
  unfold T
  rw [steps_low]
  · apply BitVec.eq_of_toNat_eq
    simp only [BitVec.toNat_ushiftRight, BitVec.toNat_shiftLeft, Nat.shiftLeft_eq, Nat.shiftRight_eq_div_pow]
    have : j = 0 ∨ j = 1 ∨ j = 2 := by omega
    rcases this with rfl | rfl | rfl <;> simp <;> omega
  · intro i hi
    rw [BitVec.getLsbD_shiftLeft]
    simp
    omega
theorem adv (a d b t : B32) : T ((a ^^^ d) ^^^ (b ^^^ t)) = T (a ^^^ b) ^^^ T (d ^^^ t) := by
  rw [← T_xor]
  congr 1
  rw [BitVec.xor_assoc, BitVec.xor_assoc]
  congr 1
  rw [← BitVec.xor_assoc, BitVec.xor_comm d b, BitVec.xor_assoc]
theorem bit_high (t : B32) (ht : t.toNat < 256) (i : Nat) (hi : 8 ≤ i) : t.getLsbD i = false := by
  rw [BitVec.getLsbD]
  apply Nat.testBit_lt_two_pow
  exact Nat.lt_of_lt_of_le ht (Nat.pow_le_pow_right (n := 2) (by decide) hi)
theorem zero_of_low (t : B32) (ht : t.toNat < 256) (h : ∀ i, i < 8 → t.getLsbD i = false) : t = 0#32 := by
  apply BitVec.eq_of_getLsbD_eq
  intro i hi
  rw [BitVec.getLsbD_zero]
  rcases Nat.lt_or_ge i 8 with h8 | h8
  · exact h i h8
  · exact bit_high t ht i h8
/-- Four bytes that are xored with the parts of a number other than 0 lead elsewhere. -/
theorem four (s : B32) (b0 b1 b2 b3 t0 t1 t2 t3 : B32) (h0 : t0.toNat < 256) (h1 : t1.toNat < 256) (h2 : t2.toNat < 256) (h3 : t3.toNat < 256)
    (h : T (T (T (T (s ^^^ b0) ^^^ b1) ^^^ b2) ^^^ b3) = T (T (T (T (s ^^^ (b0 ^^^ t0)) ^^^ (b1 ^^^ t1)) ^^^ (b2 ^^^ t2)) ^^^ (b3 ^^^ t3))) :
    t0 = 0#32 ∧ t1 = 0#32 ∧ t2 = 0#32 ∧ t3 = 0#32 := by
  have cancel {a d : B32} (h : a = a ^^^ d) : d = 0#32 := by
    have := congrArg (a ^^^ ·) h
    simp only [BitVec.xor_self] at this
    rw [← BitVec.xor_assoc, BitVec.xor_self, BitVec.zero_xor] at this
    exact this.symm
  have e0 : T (s ^^^ (b0 ^^^ t0)) = T (s ^^^ b0) ^^^ T t0 := by rw [← T_xor, BitVec.xor_assoc]
  rw [e0, adv, adv, adv] at h
  have hD := T_inj ((cancel h).trans T_zero.symm)
  -- back, byte by byte
  have y3 : T (T (T t0 ^^^ t1) ^^^ t2) = T (t3 <<< 8) := by rw [show t3 <<< 8 = t3 <<< (8 * (0 + 1)) from rfl, T_up t3 h3 0 (by omega)]; simpa using xor_eq_zero hD
  have y2 := T_inj y3
  have back (x y t : B32) (h : x ^^^ t = y) : x = y ^^^ t := by rw [← h, BitVec.xor_assoc, BitVec.xor_self, BitVec.xor_zero]
  have y2' : T (T t0 ^^^ t1) = T ((t3 <<< 16) ^^^ (t2 <<< 8)) := by
    conv => rhs; rw [T_xor]
    rw [show t3 <<< 16 = t3 <<< (8 * (1 + 1)) from rfl, T_up t3 h3 1 (by omega), show t2 <<< 8 = t2 <<< (8 * (0 + 1)) from rfl, T_up t2 h2 0 (by omega)]
    simpa using back _ _ _ y2
  have y1 := back _ _ _ (T_inj y2')
  have y1' : T t0 = T ((t3 <<< 24) ^^^ (t2 <<< 16) ^^^ (t1 <<< 8)) := by
    conv => rhs; rw [T_xor, T_xor]
    rw [show t3 <<< 24 = t3 <<< (8 * (2 + 1)) from rfl, T_up t3 h3 2 (by omega), show t2 <<< 16 = t2 <<< (8 * (1 + 1)) from rfl, T_up t2 h2 1 (by omega), show t1 <<< 8 = t1 <<< (8 * (0 + 1)) from rfl, T_up t1 h1 0 (by omega)]
    simpa using y1
  have e := T_inj y1'
  have bit : ∀ i, i < 32 → t0.getLsbD i = ((!decide (i < 24) && t3.getLsbD (i - 24)) ^^ (!decide (i < 16) && t2.getLsbD (i - 16)) ^^ (!decide (i < 8) && t1.getLsbD (i - 8))) := by
    intro i hi
    have := congrArg (fun x : B32 => x.getLsbD i) e
    simp only [BitVec.getLsbD_xor, BitVec.getLsbD_shiftLeft, decide_eq_true hi, Bool.true_and] at this
    rw [this, Bool.xor_assoc]
  have z0 : t0 = 0#32 := zero_of_low t0 h0 fun i hi => by
    rw [bit i (by omega)]; simp [show i < 24 by omega, show i < 16 by omega, hi]
  have z1 : t1 = 0#32 := zero_of_low t1 h1 fun i hi => by
    have := bit (i + 8) (by omega)
    rw [z0] at this
    simpa [show i + 8 < 24 by omega, show i + 8 < 16 by omega] using this.symm
  have z2 : t2 = 0#32 := zero_of_low t2 h2 fun i hi => by
    have := bit (i + 16) (by omega)
    rw [z0, z1] at this
    simpa [show i + 16 < 24 by omega] using this.symm
  have z3 : t3 = 0#32 := zero_of_low t3 h3 fun i hi => by
    have := bit (i + 24) (by omega)
    rw [z0, z1, z2] at this
    simpa using this.symm
  exact ⟨z0, z1, z2, z3⟩

/-! ### what the printed functions compute -/
theorem toInt (x : Int) (h0 : 0 ≤ x) (h1 : x < 4294967296) : ((BitVec.ofInt 32 x).toNat : Int) = x := by
  rw [BitVec.toNat_ofInt]
  have : x % ((2 ^ 32 : Nat) : Int) = x := Int.emod_eq_of_lt h0 (by simpa using h1)
  rw [this]
  omega
theorem bits_xor32 (a b : B32) : Go.bits .xor .u32 (a.toNat : Int) (b.toNat : Int) = ((a ^^^ b).toNat : Int) := by
  have ha : BitVec.ofInt 32 (a.toNat : Int) = a := by rw [BitVec.ofInt_natCast]; simp
  have hb : BitVec.ofInt 32 (b.toNat : Int) = b := by rw [BitVec.ofInt_natCast]; simp
  unfold Go.bits
  show IntKind.u32.wrap (((BitVec.ofInt 32 (a.toNat : Int)) ^^^ (BitVec.ofInt 32 (b.toNat : Int))).toNat : Int) = _
  rw [ha, hb, IntKind.wrap_u32]
  have := (a ^^^ b).isLt
  omega
theorem wf_u8 {x : Int} (h : (Lit.int .u8 x).wf = true) : 0 ≤ x ∧ x < 256 := by
  simp [Lit.wf, IntKind.min, IntKind.max, IntKind.signed, IntKind.bits] at h
  omega
theorem lsb (v : B32) : v.getLsbD 0 = decide (v.toNat % 2 = 1) := by
  rw [BitVec.getLsbD, Nat.testBit_zero]
theorem half (v : B32) : (v >>> 1).toNat = v.toNat / 2 := by
  rw [BitVec.toNat_ushiftRight, Nat.shiftRight_eq_div_pow]
theorem step_odd (v : B32) (h : v.toNat % 2 = 1) : step v = (v >>> 1) ^^^ poly := by
  unfold step; rw [lsb, h]; rfl
theorem step_ev (v : B32) (h : v.toNat % 2 = 0) : step v = v >>> 1 := by
  apply step_even; rw [lsb, h]; rfl
theorem byteOf_toNat (c : Int) (h : 0 ≤ c ∧ c < 256) : ((byteOf c).toNat : Int) = c := toInt c h.1 (by omega)
theorem poly_toNat : poly.toNat = 2197175160 := rfl
theorem step_prog (v : B32) : Go.bits .xor .u32 ((v.toNat : Int) / 2) ((2197175160 * (Go.bits .and .u32 (v.toNat : Int) 1)) % 4294967296) = ((step v).toNat : Int) := by
  have h1 : Go.bits .and .u32 (v.toNat : Int) 1 = ((v.toNat % 2 : Nat) : Int) := by
    have := bits_mask .u32 32 (by decide) (fun n h0 h1 => by rw [IntKind.wrap_u32]; omega) 1 (by omega) (v.toNat : Int) (by omega) (by have := v.isLt; omega)
    simpa using this
  rw [h1]
  have e : (v.toNat : Int) / (2 : Int) = (((v >>> 1).toNat : Nat) : Int) := by rw [half]; omega
  rw [e]
  rcases (show v.toNat % 2 = 0 ∨ v.toNat % 2 = 1 by omega) with h | h
  · rw [h, step_ev v h]
    have := bits_xor32 (v >>> 1) 0#32
    simpa using this
  · rw [h, step_odd v h]
    have := bits_xor32 (v >>> 1) poly
    simpa [poly_toNat] using this
theorem step_ref_odd (v : B32) (h : v.toNat % 2 = 1) : Go.bits .xor .u32 ((Int.tdiv (v.toNat : Int) 2) % 4294967296) 2197175160 = ((step v).toNat : Int) := by
  have e : (Int.tdiv (v.toNat : Int) 2) % (4294967296 : Int) = (((v >>> 1).toNat : Nat) : Int) := by
    have := v.isLt
    rw [half, Int.tdiv_eq_ediv_of_nonneg (by omega)]; omega
  rw [e, step_odd v h]
  have := bits_xor32 (v >>> 1) poly
  simpa [poly_toNat] using this
theorem step_ref_even (v : B32) (h : v.toNat % 2 = 0) : (Int.tdiv (v.toNat : Int) 2) % 4294967296 = ((step v).toNat : Int) := by
  have := v.isLt
  rw [step_ev v h, half, Int.tdiv_eq_ediv_of_nonneg (by omega)]; omega
def Bytes (l : List Int) : Prop := ∀ x ∈ l, 0 ≤ x ∧ x < 256
theorem Bytes.wf {l : List Int} (h : ∀ x ∈ l, (Lit.int .u8 x).wf = true) : Bytes l := fun x hx => wf_u8 (h x hx)
theorem Bytes.rd {l : List Int} (h : Bytes l) (i : Nat) (hi : i < l.length) : 0 ≤ rd l (i : Int) ∧ rd l (i : Int) < 256 := by
  unfold Go.Proofs.YtpojfebecmjloaaW.PrintWords.rd
  rw [List.getD_eq_getElem?_getD, Int.toNat_natCast, List.getElem?_eq_getElem hi]
  exact h _ (List.getElem_mem hi)
theorem drop_rd (l : List Int) (i : Nat) (hi : i < l.length) : l.drop i = rd l (i : Int) :: l.drop (i + 1) := by
  rw [List.drop_eq_getElem_cons hi]
  unfold Go.Proofs.YtpojfebecmjloaaW.PrintWords.rd
  rw [List.getD_eq_getElem?_getD, Int.toNat_natCast, List.getElem?_eq_getElem hi]
  rfl
theorem one_prog (v : B32) (c : Int) (h : 0 ≤ c ∧ c < 256) : Go.bits .xor .u32 (v.toNat : Int) (c % 4294967296) = (((v ^^^ byteOf c)).toNat : Int) := by
  rw [← bits_xor32, byteOf_toNat c h]
  congr 1
  omega
theorem not_prog (v : B32) : Go.bits .xor .u32 4294967295 (v.toNat : Int) = ((~~~ v).toNat : Int) := by
  have := bits_xor32 (~~~ 0#32) v
  have e : ((~~~ 0#32 : B32).toNat : Int) = 4294967295 := rfl
  rw [e] at this
  rw [this]
  congr 1
theorem w64 (i : Int) (h0 : 0 ≤ i) (h : i < 4611686018427387904) : wrap64 i = i := by unfold wrap64; omega

section prog
variable (f0 : Nat → Int → List Int → Int → Int → Option Int) (f1 : Nat → Int → List Int → Int → Int → Int → Option Int)
theorem sumOf_inner
    (e1 : ∀ k x3 x7 x8 x9 x17, f1 (k + 1) x3 x7 x8 x9 x17 = if x17 < 8 then (f1 k (Go.bits .xor .u32 (x3 / 2) ((2197175160 * (Go.bits .and .u32 x3 1)) % 4294967296)) x7 x8 x9 (wrap64 (x17 + 1))) else (f0 k x3 x7 x8 (wrap64 (x9 + 1))))
    (l : List Int) (n i : Int) (m : Nat) : ∀ (k : Nat) (v : B32), m ≤ 8 → f1 (k + m + 1) (v.toNat : Int) l n i (8 - m) = f0 k ((steps m v).toNat : Int) l n (wrap64 (i + 1)) := by
  induction m with
  | zero =>
    intro k v _
    rw [e1, if_neg (by omega)]
    rfl
  | succ m ih =>
    intro k v hm
    rw [show k + (m + 1) + 1 = (k + m + 1) + 1 by omega, e1, if_pos (by omega), step_prog, w64 _ (by omega) (by omega),
      show (8 : Int) - ((m + 1 : Nat) : Int) + 1 = 8 - (m : Int) by omega, ih k _ (by omega)]
    rfl
theorem sumOf_outer
    (e0 : ∀ k x3 x7 x8 x9, f0 (k + 1) x3 x7 x8 x9 = if x9 < x8 then (if 0 ≤ x9 then (if x9 < (x7.length : Int) then (f1 k (Go.bits .xor .u32 x3 ((rd x7 x9) % 4294967296)) x7 x8 x9 0) else (none)) else (none)) else (some (Go.bits .xor .u32 4294967295 x3)))
    (e1 : ∀ k x3 x7 x8 x9 x17, f1 (k + 1) x3 x7 x8 x9 x17 = if x17 < 8 then (f1 k (Go.bits .xor .u32 (x3 / 2) ((2197175160 * (Go.bits .and .u32 x3 1)) % 4294967296)) x7 x8 x9 (wrap64 (x17 + 1))) else (f0 k x3 x7 x8 (wrap64 (x9 + 1))))
    (l : List Int) (hb : Bytes l) (hl : l.length < 4611686018427387904) (d : Nat) :
    ∀ (k i : Nat) (v : B32), i + d = l.length → f0 (k + 10 * d + 1) (v.toNat : Int) l (l.length : Int) (i : Int) = some ((~~~ run v (l.drop i)).toNat : Int) := by
  induction d with
  | zero =>
    intro k i v hi
    rw [e0, if_neg (by omega), not_prog, List.drop_of_length_le (by omega)]
    rfl
  | succ d ih =>
    intro k i v hi
    have hlt : i < l.length := by omega
    rw [show k + 10 * (d + 1) + 1 = (k + 10 * d + 1 + 8 + 1) + 1 by omega, e0, if_pos (by omega), if_pos (by omega), if_pos (by omega), one_prog v _ (hb.rd i hlt)]
    have := sumOf_inner f0 f1 e1 l (l.length : Int) i 8 (k + 10 * d + 1) (v ^^^ byteOf (rd l (i : Int))) (by omega)
    rw [show (8 : Int) - ((8 : Nat) : Int) = 0 by omega] at this
    rw [this, w64 _ (by omega) (by omega), show (i : Int) + 1 = ((i + 1 : Nat) : Int) by omega, ih k (i + 1) _ (by omega), drop_rd l i hlt]
    rfl
/-- The program's sum. -/
theorem sumOf_tells
    (e0 : ∀ k x3 x7 x8 x9, f0 (k + 1) x3 x7 x8 x9 = if x9 < x8 then (if 0 ≤ x9 then (if x9 < (x7.length : Int) then (f1 k (Go.bits .xor .u32 x3 ((rd x7 x9) % 4294967296)) x7 x8 x9 0) else (none)) else (none)) else (some (Go.bits .xor .u32 4294967295 x3)))
    (e1 : ∀ k x3 x7 x8 x9 x17, f1 (k + 1) x3 x7 x8 x9 x17 = if x17 < 8 then (f1 k (Go.bits .xor .u32 (x3 / 2) ((2197175160 * (Go.bits .and .u32 x3 1)) % 4294967296)) x7 x8 x9 (wrap64 (x17 + 1))) else (f0 k x3 x7 x8 (wrap64 (x9 + 1))))
    (l : List Int) (hb : Bytes l) (hl : l.length < 4611686018427387904) (k : Nat) (hk : 10 * l.length < k) : f0 k 4294967295 l (l.length : Int) 0 = some (crc l) := by
  have := sumOf_outer f0 f1 e0 e1 l hb hl l.length (k - (10 * l.length + 1)) 0 (~~~ 0#32) (by omega)
  rw [show k - (10 * l.length + 1) + 10 * l.length + 1 = k by omega] at this
  exact this
end prog
section refc
variable (f0 : Nat → List Int → Int → Int → Option Int) (f1 : Nat → List Int → Int → Int → Int → Option Int)
theorem crc_inner
    (e1 : ∀ k x0 x3 x4 x5, f1 (k + 1) x0 x3 x4 x5 = if x5 < 8 then (if (Int.tmod x3 2) = 1 then (f1 k x0 (Go.bits .xor .u32 ((Int.tdiv x3 2) % 4294967296) 2197175160) x4 (wrap64 (x5 + 1))) else (f1 k x0 ((Int.tdiv x3 2) % 4294967296) x4 (wrap64 (x5 + 1)))) else (f0 k x0 x3 (wrap64 (x4 + 1))))
    (l : List Int) (i : Int) (m : Nat) : ∀ (k : Nat) (v : B32), m ≤ 8 → f1 (k + m + 1) l (v.toNat : Int) i (8 - m) = f0 k l ((steps m v).toNat : Int) (wrap64 (i + 1)) := by
  induction m with
  | zero =>
    intro k v _
    rw [e1, if_neg (by omega)]
    rfl
  | succ m ih =>
    intro k v hm
    have ht : Int.tmod (v.toNat : Int) 2 = ((v.toNat % 2 : Nat) : Int) := by rw [Int.tmod_eq_emod_of_nonneg (by omega)]; omega
    rw [show k + (m + 1) + 1 = (k + m + 1) + 1 by omega, e1, if_pos (by omega), ht]
    rcases (show v.toNat % 2 = 0 ∨ v.toNat % 2 = 1 by omega) with h | h
    · rw [h, if_neg (by omega), step_ref_even v h, w64 _ (by omega) (by omega), show (8 : Int) - ((m + 1 : Nat) : Int) + 1 = 8 - (m : Int) by omega, ih k _ (by omega)]
      rfl
    · rw [h, if_pos (by omega), step_ref_odd v h, w64 _ (by omega) (by omega), show (8 : Int) - ((m + 1 : Nat) : Int) + 1 = 8 - (m : Int) by omega, ih k _ (by omega)]
      rfl
/-- The reference's sum. -/
theorem crc_outer
    (e0 : ∀ k x0 x3 x4, f0 (k + 1) x0 x3 x4 = if x4 < (x0.length : Int) then (if 0 ≤ x4 then (f1 k x0 (Go.bits .xor .u32 x3 ((rd x0 x4) % 4294967296)) x4 0) else (none)) else (some (Go.bits .xor .u32 4294967295 x3)))
    (e1 : ∀ k x0 x3 x4 x5, f1 (k + 1) x0 x3 x4 x5 = if x5 < 8 then (if (Int.tmod x3 2) = 1 then (f1 k x0 (Go.bits .xor .u32 ((Int.tdiv x3 2) % 4294967296) 2197175160) x4 (wrap64 (x5 + 1))) else (f1 k x0 ((Int.tdiv x3 2) % 4294967296) x4 (wrap64 (x5 + 1)))) else (f0 k x0 x3 (wrap64 (x4 + 1))))
    (l : List Int) (hb : Bytes l) (hl : l.length < 4611686018427387904) (d : Nat) :
    ∀ (k i : Nat) (v : B32), i + d = l.length → f0 (k + 10 * d + 1) l (v.toNat : Int) (i : Int) = some ((~~~ run v (l.drop i)).toNat : Int) := by
  induction d with
  | zero =>
    intro k i v hi
    rw [e0, if_neg (by omega), not_prog, List.drop_of_length_le (by omega)]
    rfl
  | succ d ih =>
    intro k i v hi
    have hlt : i < l.length := by omega
    rw [show k + 10 * (d + 1) + 1 = (k + 10 * d + 1 + 8 + 1) + 1 by omega, e0, if_pos (by omega), if_pos (by omega), one_prog v _ (hb.rd i hlt)]
    have := crc_inner f0 f1 e1 l i 8 (k + 10 * d + 1) (v ^^^ byteOf (rd l (i : Int))) (by omega)
    rw [show (8 : Int) - ((8 : Nat) : Int) = 0 by omega] at this
    rw [this, w64 _ (by omega) (by omega), show (i : Int) + 1 = ((i + 1 : Nat) : Int) by omega, ih k (i + 1) _ (by omega), drop_rd l i hlt]
    rfl
theorem crc_tells
    (e0 : ∀ k x0 x3 x4, f0 (k + 1) x0 x3 x4 = if x4 < (x0.length : Int) then (if 0 ≤ x4 then (f1 k x0 (Go.bits .xor .u32 x3 ((rd x0 x4) % 4294967296)) x4 0) else (none)) else (some (Go.bits .xor .u32 4294967295 x3)))
    (e1 : ∀ k x0 x3 x4 x5, f1 (k + 1) x0 x3 x4 x5 = if x5 < 8 then (if (Int.tmod x3 2) = 1 then (f1 k x0 (Go.bits .xor .u32 ((Int.tdiv x3 2) % 4294967296) 2197175160) x4 (wrap64 (x5 + 1))) else (f1 k x0 ((Int.tdiv x3 2) % 4294967296) x4 (wrap64 (x5 + 1)))) else (f0 k x0 x3 (wrap64 (x4 + 1))))
    (l : List Int) (hb : Bytes l) (hl : l.length < 4611686018427387904) (k : Nat) (hk : 10 * l.length < k) : f0 k l 4294967295 0 = some (crc l) := by
  have := crc_outer f0 f1 e0 e1 l hb hl l.length (k - (10 * l.length + 1)) 0 (~~~ 0#32) (by omega)
  rw [show k - (10 * l.length + 1) + 10 * l.length + 1 = k by omega] at this
  exact this
end refc

/-! ### other bytes -/
theorem wf_u16 {x : Int} (h : (Lit.int .u16 x).wf = true) : 0 ≤ x ∧ x < 65536 := by
  simp [Lit.wf, IntKind.min, IntKind.max, IntKind.signed, IntKind.bits] at h
  omega
theorem wf_u32 {x : Int} (h : (Lit.int .u32 x).wf = true) : 0 ≤ x ∧ x < 4294967296 := by
  simp [Lit.wf, IntKind.min, IntKind.max, IntKind.signed, IntKind.bits] at h
  omega
theorem xor8 (c t : Int) (hc : 0 ≤ c ∧ c < 256) (ht : 0 ≤ t ∧ t < 256) : Go.bits .xor .u8 c t = ((c.toNat ^^^ t.toNat : Nat) : Int) := by
  have hx : c.toNat ^^^ t.toNat < 2 ^ 8 := Nat.xor_lt_two_pow (by omega) (by omega)
  have e (x : Int) (h : 0 ≤ x ∧ x < 256) : (BitVec.ofInt 8 x).toNat = x.toNat := by
    rw [BitVec.toNat_ofInt]
    have : x % ((2 ^ 8 : Nat) : Int) = x := Int.emod_eq_of_lt h.1 (by simpa using h.2)
    rw [this]
  unfold Go.bits
  show IntKind.u8.wrap (((BitVec.ofInt 8 c) ^^^ (BitVec.ofInt 8 t)).toNat : Int) = _
  rw [BitVec.toNat_xor, e c hc, e t ht, IntKind.wrap_u8]
  omega
theorem xor8_byte (c t : Int) (hc : 0 ≤ c ∧ c < 256) (ht : 0 ≤ t ∧ t < 256) : 0 ≤ Go.bits .xor .u8 c t ∧ Go.bits .xor .u8 c t < 256 := by
  rw [xor8 c t hc ht]
  have hx : c.toNat ^^^ t.toNat < 2 ^ 8 := Nat.xor_lt_two_pow (by omega) (by omega)
  omega
theorem byteOf_nat (c : Int) (hc : 0 ≤ c ∧ c < 256) : (byteOf c).toNat = c.toNat := by
  have := byteOf_toNat c hc
  omega
theorem byteOf_xor8 (c t : Int) (hc : 0 ≤ c ∧ c < 256) (ht : 0 ≤ t ∧ t < 256) : byteOf (Go.bits .xor .u8 c t) = byteOf c ^^^ byteOf t := by
  apply BitVec.eq_of_toNat_eq
  rw [byteOf_nat _ (xor8_byte c t hc ht), BitVec.toNat_xor, byteOf_nat c hc, byteOf_nat t ht, xor8 c t hc ht]
  simp
theorem byteOf_zero (t : Int) (ht : 0 ≤ t ∧ t < 256) (h : byteOf t = 0#32) : t = 0 := by
  have := byteOf_nat t ht
  rw [h] at this
  simp at this
  omega
theorem crc_parts {p q l m : List Int} (h : crc (p ++ l ++ q) = crc (p ++ m ++ q)) : run (run (~~~ 0#32) p) l = run (run (~~~ 0#32) p) m := by
  have := crcB_inj_start h
  rw [run_append, run_append, run_append, run_append] at this
  exact run_inj q this
theorem crc_one (p q : List Int) (c t : Int) (hc : 0 ≤ c ∧ c < 256) (ht : 0 ≤ t ∧ t < 256) (h0 : t ≠ 0) : crc (p ++ [c] ++ q) ≠ crc (p ++ [Go.bits .xor .u8 c t] ++ q) := by
  intro h
  have h1 := crc_parts h
  have h2 : one (run (~~~ 0#32) p) c = one (run (~~~ 0#32) p) (Go.bits .xor .u8 c t) := h1
  have h3 := T_inj h2
  rw [byteOf_xor8 c t hc ht] at h3
  have h4 := congrArg ((byteOf c ^^^ run (~~~ 0#32) p) ^^^ ·) h3
  have e (s b : B32) : (b ^^^ s) ^^^ (s ^^^ b) = 0#32 := by rw [BitVec.xor_comm s b, BitVec.xor_self]
  have e2 (s b x : B32) : (b ^^^ s) ^^^ (s ^^^ (b ^^^ x)) = x := by
    rw [← BitVec.xor_assoc s b x, ← BitVec.xor_assoc, e, BitVec.zero_xor]
  simp only [e, e2] at h4
  exact h0 (byteOf_zero t ht h4.symm)
theorem crc_four (p q : List Int) (c0 c1 c2 c3 t0 t1 t2 t3 : Int) (hc0 : 0 ≤ c0 ∧ c0 < 256) (hc1 : 0 ≤ c1 ∧ c1 < 256) (hc2 : 0 ≤ c2 ∧ c2 < 256) (hc3 : 0 ≤ c3 ∧ c3 < 256)
    (ht0 : 0 ≤ t0 ∧ t0 < 256) (ht1 : 0 ≤ t1 ∧ t1 < 256) (ht2 : 0 ≤ t2 ∧ t2 < 256) (ht3 : 0 ≤ t3 ∧ t3 < 256)
    (h : crc (p ++ [c0, c1, c2, c3] ++ q) = crc (p ++ [Go.bits .xor .u8 c0 t0, Go.bits .xor .u8 c1 t1, Go.bits .xor .u8 c2 t2, Go.bits .xor .u8 c3 t3] ++ q)) : t0 = 0 ∧ t1 = 0 ∧ t2 = 0 ∧ t3 = 0 := by
  have h1 := crc_parts h
  simp only [run, List.foldl_cons, List.foldl_nil, one, byteOf_xor8 _ _ hc0 ht0, byteOf_xor8 _ _ hc1 ht1, byteOf_xor8 _ _ hc2 ht2, byteOf_xor8 _ _ hc3 ht3] at h1
  have := four _ _ _ _ _ _ _ _ _ (by rw [byteOf_nat t0 ht0]; omega) (by rw [byteOf_nat t1 ht1]; omega) (by rw [byteOf_nat t2 ht2]; omega) (by rw [byteOf_nat t3 ht3]; omega) h1
  exact ⟨byteOf_zero _ ht0 this.1, byteOf_zero _ ht1 this.2.1, byteOf_zero _ ht2 this.2.2.1, byteOf_zero _ ht3 this.2.2.2⟩
theorem Bytes.append {l m : List Int} (h : Bytes l) (h2 : Bytes m) : Bytes (l ++ m) := fun x hx => by
  rcases List.mem_append.1 hx with hx | hx
  · exact h x hx
  · exact h2 x hx
end Go.Proofs.Ytpojfebecmjloaa.Crc
