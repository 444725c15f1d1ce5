/- What the printed Decode of prefixes computes; for the statement PrefixBack. -/
import Derived.Test.YtndmlmfkbkefcaaPreAPrefixBack
namespace Go.Proofs.Ytndmlmfkbkefcaa.PrePrefixBack
open Go.RowKit Go.Proofs.Ytndmlmfkbkefcaa.PPrefixBack Go.Proofs.YtndmlmfkbkefcaaW.PrintWords Go.Proofs.YtndmlmfkbkefcaaW.PrintLast Go.Proofs.YtndmlmfkbkefcaaW.PrintMore Go.Proofs.Ytndmlmfkbkefcaa.Pre
set_option linter.unusedVariables false

def Bytes (l : List Int) : Prop := ∀ x ∈ l, 0 ≤ x ∧ x < 256
theorem Bytes.wf {l : List Int} (h : ∀ x ∈ l, (Lit.int .u8 x).wf = true) : Bytes l := fun x hx => wf_u8 (h x hx)
theorem Bytes.tail {n : Int} {r : List Int} (h : Bytes (n :: r)) : Bytes r := fun x hx => h x (List.mem_cons_of_mem _ hx)
theorem Bytes.head {n : Int} {r : List Int} (h : Bytes (n :: r)) : 0 ≤ n ∧ n < 256 := h n (List.mem_cons_self ..)
theorem Bytes.drop {r : List Int} (h : Bytes r) (m : Nat) : Bytes (r.drop m) := fun x hx => h x (List.mem_of_mem_drop hx)
theorem Bytes.rd {l : List Int} (h : Bytes l) (i : Int) : 0 ≤ rd l i ∧ rd l i < 256 := by
  unfold Go.Proofs.YtndmlmfkbkefcaaW.PrintWords.rd
  rw [List.getD_eq_getElem?_getD]
  cases hx : l[i.toNat]? with
  | none => simp
  | some x => exact h _ (List.mem_of_getElem? hx)
theorem rd_cons (n : Int) (r : List Int) (i : Int) (h : 0 ≤ i) : rd (n :: r) (1 + i) = rd r i := by
  unfold Go.Proofs.YtndmlmfkbkefcaaW.PrintWords.rd
  rw [show (1 + i).toNat = i.toNat + 1 by omega]
  rfl
/-- an address of s bytes -/
def A (r : List Int) (s : Int) : Int :=
  (if 0 < s then rd r 0 * 16777216 else 0) + (if 1 < s then rd r 1 * 65536 else 0) + (if 2 < s then rd r 2 * 256 else 0) + (if 3 < s then rd r 3 else 0)
theorem A_U32 (r : List Int) (h : Bytes r) (s : Int) : U32 (A r s) := by
  have h0 := h.rd 0
  have h1 := h.rd 1
  have h2 := h.rd 2
  have h3 := h.rd 3
  unfold A U32
  split <;> split <;> split <;> split <;> omega
theorem or_add (x b : Int) (m : Nat) (hx0 : 0 ≤ x) (hx : x < 4294967296) (hm : m ≤ 24) (hd : x % 2 ^ (m + 8) = 0) (hb : 0 ≤ b ∧ b < 256) : Go.bits .or .u32 x (b * 2 ^ m) = x + b * 2 ^ m := by
  have hp : (0 : Int) < 2 ^ m := Int.pow_pos (by omega)
  have hlt : b * 2 ^ m < 2 ^ (m + 8) := by
    rw [Int.pow_add, Int.mul_comm (2 ^ m)]
    exact Int.mul_lt_mul_of_pos_right (by omega) hp
  have hle : (2 : Int) ^ (m + 8) ≤ 2 ^ 32 := by
    have : (2 : Nat) ^ (m + 8) ≤ 2 ^ 32 := Nat.pow_le_pow_right (by omega) (by omega)
    exact_mod_cast this
  have h32 : (2 : Int) ^ 32 = 4294967296 := by decide
  refine bits_join .u32 32 (by decide) (fun n h0 h1 => by rw [IntKind.wrap_u32]; omega) (m + 8) x (b * 2 ^ m) hx0 hd (by omega) ?_ hlt ?_
  · exact Int.mul_nonneg hb.1 (Int.le_of_lt hp)
  · omega
theorem shl_byte (b i : Int) (hb : 0 ≤ b ∧ b < 256) (h0 : 0 ≤ i) (h : i ≤ 3) : shl .u32 (b % 4294967296) (wrap64 (24 - wrap64 (i * 8))) = b * 2 ^ (24 - i * 8).toNat := by
  rw [w64 (i * 8) (by omega) (by omega), w64 _ (by omega) (by omega)]
  unfold shl
  rw [Nat.min_eq_left (by simp [IntKind.bits]; omega), IntKind.wrap_u32, show b % 4294967296 = b by omega]
  have : i = 0 ∨ i = 1 ∨ i = 2 ∨ i = 3 := by omega
  rcases this with rfl | rfl | rfl | rfl <;> simp <;> omega
theorem one_step (k : Nat) (n : Int) (r : List Int) (hr : Bytes r) (x4 x5 x6 s i : Int) (hi : i < s) (h0 : 0 ≤ i) (h3 : i ≤ 3) (hl : s ≤ r.length) (hlen : r.length < 4611686018427387904)
    (hx0 : 0 ≤ x6) (hx1 : x6 < 4294967296) (hd : x6 % 2 ^ ((24 - i * 8).toNat + 8) = 0) :
    prefix_one.l0 (k + 1) (n :: r) x4 x5 x6 s i = prefix_one.l0 k (n :: r) x4 x5 (x6 + rd r i * 2 ^ (24 - i * 8).toNat) s (i + 1) := by
  conv => lhs; unfold prefix_one.l0
  have hw : wrap64 (1 + i) = 1 + i := w64 _ (by omega) (by omega)
  rw [if_pos hi, hw, if_pos (by omega), if_pos (by rw [List.length_cons]; omega), w64 (i * 8) (by omega) (by omega), w64 (24 - i * 8) (by omega) (by omega), if_pos (by omega), rd_cons n r i h0]
  have hs := shl_byte (rd r i) i (hr.rd i) h0 h3
  rw [w64 (i * 8) (by omega) (by omega), w64 (24 - i * 8) (by omega) (by omega)] at hs
  rw [hs, or_add x6 (rd r i) _ hx0 hx1 (by omega) hd (hr.rd i), w64 (i + 1) (by omega) (by omega)]
theorem one_end (k : Nat) (n : Int) (r : List Int) (x4 s x6 : Int) (hu : U32 x6) (h4 : 0 ≤ x4 ∧ x4 ≤ 32) (hs : 0 ≤ s ∧ s ≤ 4) : prefix_one.l0 (k + 1) (n :: r) x4 s x6 s s = some (top x6 x4, x4, 1 + s) := by
  conv => lhs; unfold prefix_one.l0
  rw [if_neg (by omega), Make x6 x4 hu, if_pos h4]
  simp only [Option.bind_some]
  rw [w64 _ (by omega) (by omega)]
theorem one_loop (k : Nat) (n : Int) (r : List Int) (hr : Bytes r) (x4 s : Int) (h4 : 0 ≤ x4 ∧ x4 ≤ 32) (hs : 0 ≤ s ∧ s ≤ 4) (hl : s ≤ r.length) (hlen : r.length < 4611686018427387904) :
    prefix_one.l0 (k + 5) (n :: r) x4 s 0 s 0 = some (top (A r s) x4, x4, 1 + s) := by
  have hu := A_U32 r hr s
  have h0 := hr.rd 0
  have h1 := hr.rd 1
  have h2 := hr.rd 2
  have h3 := hr.rd 3
  have hc : s = 0 ∨ s = 1 ∨ s = 2 ∨ s = 3 ∨ s = 4 := by omega
  have e0 : (24 - (0 : Int) * 8).toNat = 24 := rfl
  have e1 : (24 - ((0 : Int) + 1) * 8).toNat = 16 := rfl
  have e2 : (24 - ((0 : Int) + 1 + 1) * 8).toNat = 8 := rfl
  have e3 : (24 - ((0 : Int) + 1 + 1 + 1) * 8).toNat = 0 := rfl
  rcases hc with rfl | rfl | rfl | rfl | rfl
  · exact one_end (k + 4) n r x4 0 (A r 0) hu h4 hs
  · rw [one_step (k + 4) n r hr x4 1 0 1 0 (by omega) (by omega) (by omega) hl hlen (by omega) (by omega) (by simp), e0]
    have e : (0 : Int) + rd r 0 * 2 ^ 24 = A r 1 := by simp [A]
    rw [e]
    exact one_end (k + 3) n r x4 1 _ hu h4 hs
  · rw [one_step (k + 4) n r hr x4 2 0 2 0 (by omega) (by omega) (by omega) hl hlen (by omega) (by omega) (by simp), e0,
      one_step (k + 3) n r hr x4 2 _ 2 (0 + 1) (by omega) (by omega) (by omega) hl hlen (by omega) (by omega) (by rw [e1]; omega), e1]
    have e : (0 : Int) + rd r 0 * 2 ^ 24 + rd r (0 + 1) * 2 ^ 16 = A r 2 := by simp [A]
    rw [e]
    exact one_end (k + 2) n r x4 2 _ hu h4 hs
  · rw [one_step (k + 4) n r hr x4 3 0 3 0 (by omega) (by omega) (by omega) hl hlen (by omega) (by omega) (by simp), e0,
      one_step (k + 3) n r hr x4 3 _ 3 (0 + 1) (by omega) (by omega) (by omega) hl hlen (by omega) (by omega) (by rw [e1]; omega), e1,
      one_step (k + 2) n r hr x4 3 _ 3 (0 + 1 + 1) (by omega) (by omega) (by omega) hl hlen (by have := h1; simp at *; omega) (by have := h1; simp at *; omega) (by rw [e2]; have := h1; simp at *; omega), e2]
    have e : (0 : Int) + rd r 0 * 2 ^ 24 + rd r (0 + 1) * 2 ^ 16 + rd r (0 + 1 + 1) * 2 ^ 8 = A r 3 := by simp [A]
    rw [e]
    exact one_end (k + 1) n r x4 3 _ hu h4 hs
  · rw [one_step (k + 4) n r hr x4 4 0 4 0 (by omega) (by omega) (by omega) hl hlen (by omega) (by omega) (by simp), e0,
      one_step (k + 3) n r hr x4 4 _ 4 (0 + 1) (by omega) (by omega) (by omega) hl hlen (by omega) (by omega) (by rw [e1]; omega), e1,
      one_step (k + 2) n r hr x4 4 _ 4 (0 + 1 + 1) (by omega) (by omega) (by omega) hl hlen (by have := h1; simp at *; omega) (by have := h1; simp at *; omega) (by rw [e2]; have := h1; simp at *; omega), e2,
      one_step (k + 1) n r hr x4 4 _ 4 (0 + 1 + 1 + 1) (by omega) (by omega) (by omega) hl hlen (by have := h1; have := h2; simp at *; omega) (by have := h1; have := h2; simp at *; omega) (by rw [e3]; have := h1; have := h2; simp at *; omega), e3]
    have e : (0 : Int) + rd r 0 * 2 ^ 24 + rd r (0 + 1) * 2 ^ 16 + rd r (0 + 1 + 1) * 2 ^ 8 + rd r (0 + 1 + 1 + 1) * 2 ^ 0 = A r 4 := by simp [A]
    rw [e]
    exact one_end k n r x4 4 _ hu h4 hs
/-- how many bytes a length takes -/
def sz (n : Int) : Int := (n + 7) / 8
theorem one_f (k : Nat) (n : Int) (r : List Int) (hb : Bytes (n :: r)) (hlen : r.length < 4611686018427387904) :
    prefix_one.f (k + 6) (n :: r) = some (if 32 < n ∨ (r.length : Int) < sz n then (0, 0, 0) else (top (A r (sz n)) n, n, 1 + sz n)) := by
  have hn := hb.head
  have hs : wrap64 (Int.tdiv (wrap64 ((wrap64 (n + 8)) - 1)) 8) = sz n := by
    rw [w64 (n + 8) (by omega) (by omega), w64 (n + 8 - 1) (by omega) (by omega), Int.tdiv_eq_ediv_of_nonneg (by omega), w64 _ (by omega) (by omega)]
    unfold sz
    congr 1
    omega
  have hs0 : 0 ≤ sz n := by unfold sz; omega
  have hr0 : rd (n :: r) 0 = n := rfl
  unfold prefix_one.f
  rw [if_pos (by rw [List.length_cons]; omega), hr0, w64 n (by omega) (by omega), hs, w64 _ (by rw [List.length_cons]; omega) (by rw [List.length_cons]; omega)]
  simp only [prefix_one.j0]
  by_cases h32 : n > 32
  · rw [if_pos h32, if_pos trivial, if_pos (.inl h32)]
  · rw [if_neg h32]
    by_cases hsz : sz n > (((n :: r).length : Nat) : Int) - 1
    · rw [if_pos (by simpa using hsz), if_pos (.inr (by rw [List.length_cons] at hsz; omega))]
    · rw [if_neg (by simpa using hsz), if_neg (by rw [List.length_cons] at hsz; omega)]
      exact one_loop k n r hb.tail n (sz n) (by omega) (by unfold sz; omega) (by rw [List.length_cons] at hsz; omega) hlen
/-- the prefixes of bytes -/
def spec : Nat → List Int → Option (List S32)
  | 0, _ => some []
  | _ + 1, [] => some []
  | f + 1, n :: r => if 32 < n ∨ (r.length : Int) < sz n then none else (spec f (r.drop (sz n).toNat)).map (⟨top (A r (sz n)) n, n⟩ :: ·)
def told (acc : List S32) : Option (List S32) → List S32 × Bool
  | none => ([], false)
  | some l => (acc ++ l, true)
theorem told_map (acc : List S32) (p : S32) (o : Option (List S32)) : told acc (o.map (p :: ·)) = told (acc ++ [p]) o := by
  cases o with
  | none => rfl
  | some l => simp [told]
theorem Decode_l0 (f : Nat) : ∀ (k : Nat) (b : List Int) (acc : List S32), b.length ≤ f → Bytes b → acc.length + b.length < 8796093022208 →
    prefix_Decode.l0 (k + 8 + f) b acc = some (told acc (spec f b)) := by
  induction f with
  | zero =>
    intro k b acc hf hb hl
    have : b = [] := List.length_eq_zero_iff.1 (by omega)
    subst this
    conv => lhs; unfold prefix_Decode.l0
    simp [spec, told]
  | succ f ih =>
    intro k b acc hf hb hl
    rw [show k + 8 + (f + 1) = (k + 8 + f) + 1 by omega]
    cases b with
    | nil =>
      conv => lhs; unfold prefix_Decode.l0
      simp [spec, told]
    | cons n r =>
      have hn := hb.head
      have hs0 : 0 ≤ sz n := by unfold sz; omega
      rw [List.length_cons] at hf hl
      conv => lhs; unfold prefix_Decode.l0
      rw [if_pos (by rw [List.length_cons]; omega), show k + 8 + f = (k + 2 + f) + 6 by omega, one_f _ n r hb (by omega)]
      simp only [Option.bind_some]
      by_cases hc : 32 < n ∨ (r.length : Int) < sz n
      · simp [spec, hc, told]
      · rw [if_neg hc]
        simp only
        rw [if_neg (by omega), if_pos (by omega), if_pos (by omega), if_pos (by rw [List.length_cons]; omega), show (1 + sz n).toNat = (sz n).toNat + 1 by omega, List.drop_succ_cons,
          show k + 2 + f + 6 = k + 8 + f by omega, ih k _ _ (by rw [List.length_drop]; omega) (hb.tail.drop _) (by rw [List.length_drop, List.length_append]; simp; omega)]
        simp only [spec, if_neg hc]
        rw [told_map]
theorem Decode (b : List Int) (hb : Bytes b) (hl : b.length < 8796093022208) (k : Nat) (hk : b.length + 8 ≤ k) : prefix_Decode.f k b = some (told [] (spec b.length b)) := by
  have := Decode_l0 b.length (k - (b.length + 8)) b [] (Nat.le_refl _) hb (by simpa using hl)
  rw [show k - (b.length + 8) + 8 + b.length = k by omega] at this
  exact this
end Go.Proofs.Ytndmlmfkbkefcaa.PrePrefixBack
