/- What is good of a path, and what the printed Encode writes of it; for the statement PathLong. -/
import Derived.Test.YtpkckkmgnlhhcaaPathAPathLong
namespace Go.Proofs.Ytpkckkmgnlhhcaa.PathPathLong
open Go.RowKit Go.Proofs.Ytpkckkmgnlhhcaa.PPathLong Go.Proofs.YtpkckkmgnlhhcaaW.PrintWords Go.Proofs.YtpkckkmgnlhhcaaW.PrintLast Go.Proofs.YtpkckkmgnlhhcaaW.PrintMore Go.Proofs.Ytpkckkmgnlhhcaa.Pre
set_option linter.unusedVariables false
theorem oddB_false {x : Int} (h : oddB x = false) : 1 ≤ x ∧ x ≤ 4294967295 := by
  unfold oddB at h; simp at h; exact h
def Fine (l : List Seg) : Prop := ∀ s ∈ l, 1 ≤ s.f1.length ∧ s.f1.length ≤ 255 ∧ ∀ x ∈ s.f1, 1 ≤ x ∧ x ≤ 4294967295
theorem g_fine (l : List Seg) : ∀ n, path_Good.g l n = true → Fine l := by
  induction l with
  | nil => intro n _ s hs; cases hs
  | cons x l ih =>
    intro n h
    unfold path_Good.g at h
    split at h
    · cases h
    · rename_i hn
      have hn' := not_or.1 hn
      have hn'' := not_or.1 hn'.2
      intro s hs
      rcases List.mem_cons.1 hs with rfl | hs
      · refine ⟨by omega, by omega, fun y hy => ?_⟩
        have : s.f1.any oddB = false := by simpa using hn''.2
        rw [List.any_eq_false] at this
        exact oddB_false (by simpa using this y hy)
      · exact ih _ h s hs
theorem g_sum (l : List Seg) : ∀ n : Int, 0 ≤ n → n + tot l < 4611686018427387904 → path_Good.g l n = true → n + tot l ≤ 64 := by
  induction l with
  | nil =>
    intro n h0 hn h
    unfold path_Good.g at h
    have := of_decide_eq_true h
    unfold tot; omega
  | cons x l ih =>
    intro n h0 hn h
    unfold tot at hn
    unfold path_Good.g at h
    split at h
    · cases h
    · rw [w64 _ (by omega) (by omega)] at h
      have := ih _ (by omega) (by omega) h
      unfold tot; omega
def four (a : Int) : List Int := [a / 16777216 % 256, a / 65536 % 256, a / 256 % 256, a % 256]
def encS (s : Seg) : List Int := (if s.f0 = true then 1 else 2) :: (s.f1.length : Int) % 256 :: s.f1.flatMap four
def enc (l : List Seg) : List Int := l.flatMap encS
theorem four_len (a : Int) : (four a).length = 4 := rfl
theorem fours_len (l : List Int) : (l.flatMap four).length = 4 * l.length := by
  induction l with
  | nil => rfl
  | cons x l ih => rw [List.flatMap_cons, List.length_append, ih, four_len, List.length_cons]; omega
theorem enc_len (l : List Seg) : (enc l).length = 2 * l.length + 4 * tot l := by
  induction l with
  | nil => rfl
  | cons s l ih =>
    unfold enc at ih ⊢
    rw [List.flatMap_cons, List.length_append, ih, List.length_cons, encS, List.length_cons, List.length_cons, fours_len, tot]
    omega
theorem four_mod (a : Int) : four (a % 4294967296) = four a := by
  unfold four
  have h1 : a % 4294967296 / 16777216 % 256 = a / 16777216 % 256 := by omega
  have h2 : a % 4294967296 / 65536 % 256 = a / 65536 % 256 := by omega
  have h3 : a % 4294967296 / 256 % 256 = a / 256 % 256 := by omega
  have h4 : a % 4294967296 % 256 = a % 256 := by omega
  rw [h1, h2, h3, h4]
theorem Put (acc : List Int) (a : Int) (h : acc.length < 140737488355320) : region_Put.f acc (a % 4294967296) = some (acc ++ four a) := by
  have : region_Put.f acc (a % 4294967296) = (if acc.length + (four (a % 4294967296)).length < 140737488355328 then some (acc ++ four (a % 4294967296)) else none) := rfl
  rw [this, four_len, if_pos (by omega), four_mod]
theorem Encode_l0 (l : List Seg) (hl : l.length < 4611686018427387904) (d : Nat) : ∀ (i k : Nat) (acc : List Int), i + d = l.length → 3 * d + tot (l.drop i) < k → acc.length + 2 * d + 4 * tot (l.drop i) < 140737488355320 →
    path_Encode.l0 k acc l (l.length : Int) i = some (acc ++ enc (l.drop i)) := by
  induction d with
  | zero =>
    intro i k acc hi hk hb
    obtain ⟨k, rfl⟩ : ∃ m, k = m + 1 := ⟨k - 1, by omega⟩
    conv => lhs; unfold path_Encode.l0
    rw [if_neg (by omega), List.drop_of_length_le (by omega)]
    simp [enc]
  | succ d ih =>
    intro i k acc hi hk hb
    obtain ⟨k, rfl⟩ : ∃ m, k = m + 1 := ⟨k - 1, by omega⟩
    have hlt : i < l.length := by omega
    rw [tot_drop l i hlt] at hk hb
    obtain ⟨k, rfl⟩ : ∃ m, k = m + 1 := ⟨k - 1, by omega⟩
    conv => lhs; unfold path_Encode.l0
    rw [if_pos (by omega), if_pos (by omega), if_pos (by omega), seg_at l i hlt, drop_seg l i hlt]
    have inner : ∀ (e j k : Nat) (acc : List Int), j + e = l[i].f1.length → 3 * d + tot (l.drop (i + 1)) + e + 1 < k → acc.length + 2 * d + 4 * (tot (l.drop (i + 1)) + e) < 140737488355320 →
        path_Encode.l1 k acc l (l.length : Int) i l[i].f1 (l[i].f1.length : Int) j = some (acc ++ (l[i].f1.drop j).flatMap four ++ enc (l.drop (i + 1))) := by
      intro e
      induction e with
      | zero =>
        intro j k acc hj hk hb
        obtain ⟨k, rfl⟩ : ∃ m, k = m + 1 := ⟨k - 1, by omega⟩
        conv => lhs; unfold path_Encode.l1
        rw [if_neg (by omega), wn i (by omega), ih (i + 1) k acc (by omega) (by omega) (by omega), List.drop_of_length_le (l := l[i].f1) (i := j) (by omega), List.flatMap_nil, List.append_nil]
      | succ e ihe =>
        intro j k acc hj hk hb
        obtain ⟨k, rfl⟩ : ∃ m, k = m + 1 := ⟨k - 1, by omega⟩
        have hjt : j < l[i].f1.length := by omega
        conv => lhs; unfold path_Encode.l1
        rw [if_pos (by omega), if_pos (by omega), if_pos (by omega), rd_at _ j hjt, Put acc _ (by omega), Option.bind_some, wn j (by omega), ihe (j + 1) k _ (by omega) (by omega) (by rw [List.length_append, four_len]; omega), drop_int _ j hjt, List.flatMap_cons]
        simp only [List.append_assoc]
    have step (t : Int) : path_Encode.j1 (k + 1) acc t l (l.length : Int) i l[i].f0 l[i].f1 = some (acc ++ ((t :: (l[i].f1.length : Int) % 256 :: l[i].f1.flatMap four) ++ enc (l.drop (i + 1)))) := by
      unfold path_Encode.j1
      have h2 : ([t, (l[i].f1.length : Int) % 256] : List Int).length = 2 := rfl
      rw [Option.bind_some, h2, if_pos (by omega)]
      have hin := inner l[i].f1.length 0 k (acc ++ [t, (l[i].f1.length : Int) % 256]) (by omega) (by omega) (by rw [List.length_append, h2]; omega)
      rw [show ((0 : Nat) : Int) = 0 from rfl, List.drop_zero] at hin
      rw [hin]
      simp only [List.append_assoc, List.cons_append, List.nil_append]
    have er : enc (l[i] :: l.drop (i + 1)) = encS l[i] ++ enc (l.drop (i + 1)) := by unfold enc; rw [List.flatMap_cons]
    rw [er]
    unfold encS
    by_cases h : l[i].f0 = true
    · rw [if_pos h, if_pos h]; exact step 1
    · rw [if_neg h, if_neg h]; exact step 2
theorem Encode (l : List Seg) (ht : tot l < 8796093022208) (hl : l.length < 8796093022208) (k : Nat) (hk : 3 * l.length + tot l < k) : path_Encode.f k l = some (if path_Good.g l 0 = true then enc l else []) := by
  unfold path_Encode.f
  rw [show path_Good.f l = some (path_Good.g l 0) from rfl, Option.bind_some]
  split
  · have := Encode_l0 l (by omega) l.length 0 k [] (by omega) hk (by rw [List.drop_zero]; simp only [List.length_nil]; omega)
    rw [show ((0 : Nat) : Int) = 0 from rfl] at this
    rw [this, List.drop_zero, List.nil_append]
  · rfl
end Go.Proofs.Ytpkckkmgnlhhcaa.PathPathLong
