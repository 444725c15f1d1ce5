/- More of a trie as a function: what is found, and what is told, in order. No program in sight. -/
import Derived.Test.YteheclbneoodeaaTrie
namespace Go.Proofs.Yteheclbneoodeaa.Trie
open Go.RowKit Go.Proofs.YteheclbneoodeaaW.PrintWords Go.Proofs.YteheclbneoodeaaW.PrintMore Go.Proofs.Yteheclbneoodeaa.Pre
set_option linter.unusedVariables false
theorem best_some {s : TrieM} {a v : Int} {m : Nat} (hs : s (path a m) = some v) : ∀ n, m ≤ n → (∀ j, m < j → j ≤ n → s (path a j) = none) → best s a n = some (m, v)
  | 0, h, _ => by
    obtain rfl : m = 0 := by omega
    have hs : s [] = some v := hs
    unfold best
    rw [hs]
    rfl
  | n + 1, h, hn => by
    unfold best
    by_cases e : m = n + 1
    · subst e
      rw [hs]
    · rw [hn (n + 1) (by omega) (Nat.le_refl _)]
      exact best_some hs n (by omega) (fun j h1 h2 => hn j h1 (by omega))
theorem best_none {s : TrieM} {a : Int} : ∀ n, (∀ j, j ≤ n → s (path a j) = none) → best s a n = none
  | 0, hn => by
    have h : s [] = none := hn 0 (Nat.le_refl _)
    unfold best
    rw [h]
    rfl
  | n + 1, hn => by
    unfold best
    rw [hn (n + 1) (Nat.le_refl _)]
    exact best_none n (fun j h => hn j (by omega))
theorem set_same {s : TrieM} {π : List Bool} {v : Option Int} : set s π v π = v := if_pos rfl
theorem set_other {s : TrieM} {π ρ : List Bool} {v : Option Int} (h : ρ ≠ π) : set s π v ρ = s ρ := if_neg h
theorem path_ne {a b : Int} {m n : Nat} (h : m ≠ n) : path a m ≠ path b n := fun e => h (by have := congrArg List.length e; rwa [path_length, path_length] at this)
/-- What comes ahead of what. -/
def Lt (ρ σ : List Bool) : Prop := addr ρ < addr σ ∨ addr ρ = addr σ ∧ ρ.length < σ.length
theorem addr_under : ∀ (t π : List Bool), (t ++ π).length ≤ 32 → addr π ≤ addr (t ++ π) ∧ addr (t ++ π) + D (t ++ π).length ≤ addr π + D π.length
  | [], π, _ => ⟨Int.le_refl _, Int.le_refl _⟩
  | x :: t, π, h => by
    rw [List.cons_append, List.length_cons] at h
    obtain ⟨h1, h2⟩ := addr_under t π (by omega)
    have hp := D_pos (((t ++ π).length : Int) + 1)
    have hd := D_dvd (t ++ π).length (by omega)
    rw [List.cons_append, List.length_cons, show (((t ++ π).length + 1 : Nat) : Int) = ((t ++ π).length : Int) + 1 by omega]
    show addr π ≤ addr (t ++ π) + _ ∧ addr (t ++ π) + _ + _ ≤ _
    split <;> omega
theorem paths_sorted (s : TrieM) : ∀ (d : Nat) (π : List Bool), π.length + d ≤ 32 → (paths s d π).Pairwise Lt
  | 0, π, h => by
    unfold paths
    split <;> simp
  | d + 1, π, h => by
    unfold paths
    have hx : ∀ (x : Bool) ρ, ρ ∈ paths s d (x :: π) → ∃ t, ρ = t ++ x :: π ∧ (t ++ x :: π).length ≤ 32 := fun x ρ hρ => by
      obtain ⟨_, t, rfl, ht⟩ := mem_paths.1 hρ
      exact ⟨t, rfl, by rw [List.length_append, List.length_cons]; omega⟩
    rw [List.pairwise_append, List.pairwise_append]
    refine ⟨by split <;> simp, ⟨paths_sorted s d _ (by rw [List.length_cons]; omega), paths_sorted s d _ (by rw [List.length_cons]; omega), fun ρ hρ σ hσ => ?_⟩, fun ρ hρ σ hσ => ?_⟩
    · obtain ⟨t, rfl, ht⟩ := hx _ _ hρ
      obtain ⟨u, rfl, hu⟩ := hx _ _ hσ
      have h1 := addr_under t _ ht
      have h2 := addr_under u _ hu
      have h3 := D_pos (t ++ false :: π).length
      have h4 : addr (false :: π) = addr π := by show addr π + _ = _; simp
      have h5 : addr (true :: π) = addr π + D ((π.length : Int) + 1) := by show addr π + _ = _; simp
      rw [h4] at h1
      rw [h5] at h2
      rw [List.length_cons, show ((π.length + 1 : Nat) : Int) = (π.length : Int) + 1 by omega] at h1
      exact .inl (by omega)
    · have hρ : ρ = π := by
        split at hρ
        · exact List.mem_singleton.1 hρ
        · cases hρ
      subst hρ
      have hk : ∃ x t, σ = t ++ x :: ρ ∧ (t ++ x :: ρ).length ≤ 32 := by
        rcases List.mem_append.1 hσ with hσ | hσ
        · obtain ⟨t, h1, h2⟩ := hx _ _ hσ
          exact ⟨_, t, h1, h2⟩
        · obtain ⟨t, h1, h2⟩ := hx _ _ hσ
          exact ⟨_, t, h1, h2⟩
      obtain ⟨x, t, rfl, ht⟩ := hk
      have h1 := addr_under (t ++ [x]) ρ (by simpa using ht)
      rw [List.append_assoc, List.singleton_append] at h1
      have h2 : ρ.length < (t ++ x :: ρ).length := by rw [List.length_append, List.length_cons]; omega
      unfold Lt
      omega
theorem Lt.ne {ρ σ : List Bool} (h : Lt ρ σ) : ρ ≠ σ := fun e => by
  subst e
  unfold Lt at h
  omega
theorem paths_nodup (s : TrieM) (d : Nat) (π : List Bool) (h : π.length + d ≤ 32) : (paths s d π).Nodup := (paths_sorted s d π h).imp Lt.ne
theorem nodup_len {α : Type} [BEq α] [LawfulBEq α] : ∀ {l m : List α}, l.Nodup → (∀ x ∈ l, x ∈ m) → l.length ≤ m.length
  | [], _, _, _ => Nat.zero_le _
  | x :: l, m, hn, h => by
    obtain ⟨h1, h2⟩ := List.nodup_cons.1 hn
    have hx := h x List.mem_cons_self
    have h3 := nodup_len (m := m.erase x) h2 (fun y hy => (List.mem_erase_of_ne (fun (e : y = x) => h1 (e ▸ hy))).2 (h y (List.mem_cons_of_mem _ hy)))
    rw [List.length_erase_of_mem hx] at h3
    have := List.length_pos_of_mem hx
    rw [List.length_cons]
    omega
/-- Whatever is set is one of these, and none is too long. -/
def Within (s : TrieM) (L : List (List Bool)) : Prop := ∀ π, s π ≠ none → π ∈ L ∧ π.length ≤ 32
theorem Within.new : Within new [] := fun π h => absurd rfl h
theorem Within.set {s : TrieM} {L : List (List Bool)} (h : Within s L) {π : List Bool} (hp : π.length ≤ 32) (v : Option Int) : Within (set s π v) (π :: L) := fun ρ hρ => by
  by_cases e : ρ = π
  · exact ⟨e ▸ List.mem_cons_self, e ▸ hp⟩
  · rw [set_other e] at hρ
    exact ⟨List.mem_cons_of_mem _ (h ρ hρ).1, (h ρ hρ).2⟩
theorem Within.len {s : TrieM} {L : List (List Bool)} (h : Within s L) : (paths s 32 []).length ≤ L.length :=
  nodup_len (paths_nodup s 32 [] (by decide)) (fun ρ hρ => (h ρ (fun e => by have := (mem_paths.1 hρ).1; rw [e] at this; cases this)).1)
theorem Within.mem {s : TrieM} {L : List (List Bool)} (h : Within s L) {ρ : List Bool} : ρ ∈ paths s 32 [] ↔ s ρ ≠ none := by
  rw [mem_paths]
  constructor
  · intro h1 e
    have := h1.1
    rw [e] at this
    cases this
  · intro h1
    exact ⟨Option.isSome_iff_ne_none.2 h1, ρ, by simp, (h ρ h1).2⟩
end Go.Proofs.Yteheclbneoodeaa.Trie
