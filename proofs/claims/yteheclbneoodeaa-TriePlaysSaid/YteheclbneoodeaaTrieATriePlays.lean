/- The answers of a trie that does something; what the references of prefixes compute; for the statement TriePlays. -/
import Derived.Test.YteheclbneoodeaaPTriePlaysx
import Derived.Test.YteheclbneoodeaaTrieB
namespace Go.Proofs.Yteheclbneoodeaa.TriTriePlays
open Go.RowKit Go.Proofs.Yteheclbneoodeaa.PTriePlays Go.Proofs.YteheclbneoodeaaW.PrintWords Go.Proofs.YteheclbneoodeaaW.PrintLast Go.Proofs.YteheclbneoodeaaW.PrintMore Go.Proofs.Yteheclbneoodeaa.Pre Go.Proofs.Yteheclbneoodeaa.Trie
theorem path_top (a : Int) (ha : U32 a) (n : Nat) (h : n ≤ 32) : path (top a n) n = path a n := by
  have h1 := path_addr (path a n) (by rw [path_length]; exact h)
  rw [addr_path a ha n h, path_length] at h1
  exact h1
theorem SetOk {s : TrieM} {a n v : Int} (ha : U32 a) (ho : Ok a n) : trie_Trie_Set.f s a n v = some (true, set s (path a n.toNat) (some v)) := by
  unfold trie_Trie_Set.f
  rw [if_pos (show 0 ≤ a ∧ a < 4294967296 from ha), if_pos ho]
theorem SetNo {s : TrieM} {a n v : Int} (ha : U32 a) (ho : ¬ Ok a n) : trie_Trie_Set.f s a n v = some (false, s) := by
  unfold trie_Trie_Set.f
  rw [if_pos (show 0 ≤ a ∧ a < 4294967296 from ha), if_neg ho]
theorem FindOk {s : TrieM} {a : Int} (ha : U32 a) {m : Nat} {v : Int} (hb : best s a 32 = some (m, v)) : trie_Trie_Find.f s a = some (top a m, (m : Int), v, true, s) := by
  unfold trie_Trie_Find.f
  rw [if_pos (show 0 ≤ a ∧ a < 4294967296 from ha), hb]
theorem FindNo {s : TrieM} {a : Int} (ha : U32 a) (hb : best s a 32 = none) : trie_Trie_Find.f s a = some (0, 0, 0, false, s) := by
  unfold trie_Trie_Find.f
  rw [if_pos (show 0 ≤ a ∧ a < 4294967296 from ha), hb]
theorem AllOk {s : TrieM} {L : List (List Bool)} (h : Within s L) (hl : L.length < 1000000) : trie_Trie_All.f s = some ((paths s 32 []).map trie_toP, s) := by
  unfold trie_Trie_All.f
  rw [if_pos (Nat.lt_of_le_of_lt h.len hl)]
theorem answers : interregnumlaw11_answers.f = some true := by
  have h8 : (8 : Int).toNat = 8 := rfl
  have hw : Within (set new (path 167772160 8) (some 5)) [path 167772160 8] := Within.new.set (by rw [path_length]; omega) _
  have hb : best (set new (path 167772160 8) (some 5)) 167838211 32 = some (8, 5) := by
    have he : path 167838211 8 = path 167772160 8 := by decide +kernel
    refine best_some (by rw [he]; exact set_same) 32 (by omega) (fun j h1 h2 => ?_)
    rw [set_other (path_ne (by omega))]
    rfl
  have hl : (paths (set new (path 167772160 8) (some 5)) 32 []).length = 1 := by
    have h1 := hw.len
    have h2 : path 167772160 8 ∈ paths (set new (path 167772160 8) (some 5)) 32 [] := hw.mem.2 (by rw [set_same]; simp)
    have := List.length_pos_of_mem h2
    rw [List.length_singleton] at h1
    omega
  unfold interregnumlaw11_answers.f trie_New.f
  rw [Option.bind_some, SetOk (by constructor <;> decide) (by decide), h8, Option.bind_some]
  rw [FindOk (by constructor <;> decide) hb, Option.bind_some, if_pos rfl, if_pos rfl, if_pos rfl, if_pos (by rfl)]
  dsimp only
  rw [AllOk hw (by decide), Option.bind_some]
  dsimp only
  rw [List.length_map, hl]
  rfl
end Go.Proofs.Yteheclbneoodeaa.TriTriePlays
