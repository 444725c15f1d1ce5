/- A trie told as a function of paths of bits. No program in sight. -/
import Derived.Test.YteheclbneoodeaaPre
import Derived.Test.YteheclbneoodeaaOpq
namespace Go.Proofs.Yteheclbneoodeaa.Trie
open Go.RowKit Go.Proofs.YteheclbneoodeaaW.PrintWords Go.Proofs.YteheclbneoodeaaW.PrintMore Go.Proofs.Yteheclbneoodeaa.Pre
set_option linter.unusedVariables false
/-- What is set: paths of bits, the last bit first. -/
abbrev TrieM := List Bool → Option Int
def new : TrieM := fun _ => none
def set (s : TrieM) (π : List Bool) (v : Option Int) : TrieM := fun ρ => if ρ = π then v else s ρ
/-- The first n bits of an address, the last of them first. -/
def path (a : Int) : Nat → List Bool
  | 0 => []
  | n + 1 => (bit a n == 1) :: path a n
/-- The longest path of an address, of up to n bits, that is set. -/
def best (s : TrieM) (a : Int) : Nat → Option (Nat × Int)
  | 0 => (s []).map (fun v => (0, v))
  | n + 1 => match s (path a (n + 1)) with
    | some v => some (n + 1, v)
    | none => best s a n
def addr : List Bool → Int
  | [] => 0
  | x :: π => addr π + if x = true then D ((π.length : Int) + 1) else 0
/-- What is set from a path on, up to d bits deeper. -/
def paths (s : TrieM) : Nat → List Bool → List (List Bool)
  | 0, π => if (s π).isSome = true then [π] else []
  | d + 1, π => (if (s π).isSome = true then [π] else []) ++ (paths s d (false :: π) ++ paths s d (true :: π))
theorem path_length (a : Int) (n : Nat) : (path a n).length = n := by
  induction n with
  | zero => rfl
  | succ n ih => unfold path; rw [List.length_cons, ih]
theorem addr_path (a : Int) (ha : U32 a) (n : Nat) (h : n ≤ 32) : addr (path a n) = top a n := by
  induction n with
  | zero => exact (top_0 a ha).symm
  | succ n ih =>
    unfold path addr
    rw [ih (by omega), path_length]
    have := top_succ a n (by omega) (by omega)
    rw [show ((n + 1 : Nat) : Int) = (n : Int) + 1 by omega, this]
    rcases bit_01 a n with e | e <;> rw [e] <;> simp
theorem D_dvd (n : Nat) (h : n < 32) : D n = 2 * D ((n : Int) + 1) := D_succ n (by omega) (by omega)
theorem addr_low (π : List Bool) (h : π.length ≤ 32) : addr π % D π.length = 0 := by
  induction π with
  | nil => rfl
  | cons x π ih =>
    rw [List.length_cons] at h
    have h1 := ih (by omega)
    rw [D_dvd π.length (by omega)] at h1
    have h2 : addr π % D ((π.length : Int) + 1) = 0 := by
      have := Int.emod_emod_of_dvd (addr π) (Int.dvd_mul_left 2 (D ((π.length : Int) + 1)))
      rw [h1] at this
      simpa using this.symm
    unfold addr
    rw [List.length_cons, show ((π.length + 1 : Nat) : Int) = (π.length : Int) + 1 by omega]
    split
    · rw [Int.add_emod_right]; exact h2
    · rw [Int.add_zero]; exact h2
theorem addr_range (π : List Bool) (h : π.length ≤ 32) : 0 ≤ addr π ∧ addr π + D π.length ≤ 4294967296 := by
  induction π with
  | nil => rw [show (([] : List Bool).length : Int) = 0 from rfl, D_0]; exact ⟨by decide, by decide⟩
  | cons x π ih =>
    rw [List.length_cons] at h
    obtain ⟨h1, h2⟩ := ih (by omega)
    rw [D_dvd π.length (by omega)] at h2
    have hp := D_pos ((π.length : Int) + 1)
    unfold addr
    rw [List.length_cons, show ((π.length + 1 : Nat) : Int) = (π.length : Int) + 1 by omega]
    split <;> omega
theorem addr_U32 (π : List Bool) (h : π.length ≤ 32) : U32 (addr π) := by
  have := addr_range π h
  have := D_pos π.length
  exact ⟨by omega, by omega⟩
theorem addr_Ok (π : List Bool) (h : π.length ≤ 32) : Ok (addr π) π.length := ⟨by omega, by omega, addr_low π h⟩
theorem addr_inj : ∀ (π ρ : List Bool), π.length = ρ.length → π.length ≤ 32 → addr π = addr ρ → π = ρ
  | [], [], _, _, _ => rfl
  | [], _ :: _, h, _, _ => by cases h
  | _ :: _, [], h, _, _ => by cases h
  | x :: π, y :: ρ, hl, h, he => by
    rw [List.length_cons, List.length_cons] at hl
    rw [List.length_cons] at h
    have hl : π.length = ρ.length := by omega
    have h1 := addr_low π (by omega)
    have h2 := addr_low ρ (by omega)
    have hp := D_pos ((π.length : Int) + 1)
    have hd := D_dvd π.length (by omega)
    unfold addr at he
    rw [← hl] at he h2
    have hm : (addr π + if x = true then D ((π.length : Int) + 1) else 0) % D π.length = (if x = true then D ((π.length : Int) + 1) else 0) := by
      rw [Int.add_emod, h1, Int.zero_add, Int.emod_emod_of_dvd _ (Int.dvd_refl _)]
      split
      · exact Int.emod_eq_of_lt (by omega) (by omega)
      · exact Int.zero_emod _
    have hm2 : (addr ρ + if y = true then D ((π.length : Int) + 1) else 0) % D π.length = (if y = true then D ((π.length : Int) + 1) else 0) := by
      rw [Int.add_emod, h2, Int.zero_add, Int.emod_emod_of_dvd _ (Int.dvd_refl _)]
      split
      · exact Int.emod_eq_of_lt (by omega) (by omega)
      · exact Int.zero_emod _
    rw [he] at hm
    have hm3 := hm.symm.trans hm2
    have hx : x = y := by
      cases x <;> cases y <;> simp at hm3 ⊢ <;> omega
    subst hx
    have : addr π = addr ρ := by omega
    rw [addr_inj π ρ hl (by omega) this]
theorem path_addr (π : List Bool) (h : π.length ≤ 32) : path (addr π) π.length = π := by
  refine addr_inj _ _ (path_length _ _) (by rw [path_length]; exact h) ?_
  rw [addr_path _ (addr_U32 π h) _ h, Ok_eq (addr_Ok π h)]
/-- One bit, as the walk spells it. -/
theorem bit_walk (a : Int) (n : Nat) (ha : U32 a) (h : n < 32) : a / 2 ^ (31 - n) % 2 = bit a n := by
  unfold bit D
  rw [show (32 - ((n : Int) + 1)).toNat = 31 - n by omega]
theorem or_addr (π : List Bool) (x : Bool) (h : π.length < 32) : Go.bits .or .u32 (addr π) (if x = true then D ((π.length : Int) + 1) else 0) = addr (x :: π) := by
  have h1 := addr_low π (by omega)
  have h2 := addr_range π (by omega)
  have hp := D_pos ((π.length : Int) + 1)
  have hd := D_dvd π.length h
  have e : D (π.length : Int) = 2 ^ (32 - π.length) := by
    unfold D
    rw [show (32 - (π.length : Int)).toNat = 32 - π.length by omega]
  rw [e] at h1 h2 hd
  show Go.bits .or .u32 (addr π) _ = addr π + _
  refine bits_join .u32 32 (by decide) (fun n h0 h1 => by rw [IntKind.wrap_u32]; omega) (32 - π.length) (addr π) _ h2.1 h1 (by omega) ?_ ?_ ?_
  all_goals split <;> omega
/-! ### what is set from a path on -/
/-- Is one path one from another one on? -/
def Under (π ρ : List Bool) : Prop := ∃ t, ρ = t ++ π
theorem mem_paths {s : TrieM} : ∀ {d : Nat} {π ρ : List Bool}, ρ ∈ paths s d π ↔ (s ρ).isSome = true ∧ ∃ t : List Bool, ρ = t ++ π ∧ t.length ≤ d
  | 0, π, ρ => by
    unfold paths
    constructor
    · intro h
      split at h
      · rename_i hs
        obtain rfl := List.mem_singleton.1 h
        exact ⟨hs, [], rfl, Nat.le_refl _⟩
      · cases h
    · rintro ⟨h, t, rfl, ht⟩
      have : t = [] := List.length_eq_zero_iff.1 (by omega)
      subst this
      rw [List.nil_append] at h ⊢
      rw [if_pos h]
      exact List.mem_singleton_self _
  | d + 1, π, ρ => by
    unfold paths
    rw [List.mem_append, List.mem_append, mem_paths, mem_paths]
    constructor
    · rintro (h | ⟨h, t, rfl, ht⟩ | ⟨h, t, rfl, ht⟩)
      · split at h
        · rename_i hs
          obtain rfl := List.mem_singleton.1 h
          exact ⟨hs, [], rfl, by simp⟩
        · cases h
      · exact ⟨h, t ++ [false], by simp, by simp; omega⟩
      · exact ⟨h, t ++ [true], by simp, by simp; omega⟩
    · rintro ⟨h, t, rfl, ht⟩
      rcases List.eq_nil_or_concat t with rfl | ⟨u, b, rfl⟩
      · left
        rw [List.nil_append] at h ⊢
        rw [if_pos h]
        exact List.mem_singleton_self _
      · right
        rw [List.concat_eq_append, List.append_assoc] at h ⊢
        rw [List.concat_eq_append, List.length_append, List.length_singleton] at ht
        cases b with
        | false => exact .inl ⟨h, u, rfl, by omega⟩
        | true => exact .inr ⟨h, u, rfl, by omega⟩
end Go.Proofs.Yteheclbneoodeaa.Trie
