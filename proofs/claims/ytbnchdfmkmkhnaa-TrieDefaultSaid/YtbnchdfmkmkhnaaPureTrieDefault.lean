/- The prefix without bits covers all; one that is right within is found ahead of it: the plain part of the proof. Conditions: none. -/
import Derived.Test.YtbnchdfmkmkhnaaTrieATrieDefault
import Derived.Test.YtbnchdfmkmkhnaaPreBTrieDefault
namespace Go.Proofs.Ytbnchdfmkmkhnaa.Pure
open Go.RowKit Go.Proofs.Ytbnchdfmkmkhnaa.PTrieDefault Go.Proofs.YtbnchdfmkmkhnaaW.PrintWords Go.Proofs.YtbnchdfmkmkhnaaW.PrintLast Go.Proofs.YtbnchdfmkmkhnaaW.PrintMore Go.Proofs.Ytbnchdfmkmkhnaa.Pre Go.Proofs.Ytbnchdfmkmkhnaa.Trie Go.Proofs.Ytbnchdfmkmkhnaa.TriTrieDefault Go.Proofs.Ytbnchdfmkmkhnaa
theorem TrieDefault : interregnumlaw11_TrieDefault.Pure := by
  intro a b v w h0 h1 _ _
  have ha := wf_u32 h0
  have hb := wf_u8 h1
  refine ⟨40, ?_⟩
  have hn : wrap64 (Int.tmod b 33) = ((b % 33).toNat : Int) := by
    rw [Int.tmod_eq_emod_of_nonneg hb.1, w64 _ (by omega) (by omega)]
    omega
  have hn2 : (b % 33).toNat ≤ 32 := by omega
  unfold interregnumlaw11_TrieDefault.f trie_New.f
  rw [hn]
  generalize (b % 33).toNat = n at hn2
  have hb1 : best (set new (path 0 (0 : Int).toNat) (some v)) a 32 = some (0, v) := by
    refine best_some (m := 0) (show set new [] (some v) [] = some v from set_same) 32 (by omega) (fun j h1 h2 => ?_)
    rw [set_other (fun e => by have := congrArg List.length e; rw [path_length] at this; simp at this; omega)]
    rfl
  have hb2 : best (set (set new (path 0 (0 : Int).toNat) (some v)) (path a n) (some w)) a 32 = some (n, w) := by
    refine best_some set_same 32 (by omega) (fun j h1 h2 => ?_)
    rw [set_other (path_ne (by omega)), set_other (fun e => by have := congrArg List.length e; rw [path_length, path_length] at this; simp at this; omega)]
    rfl
  rw [Option.bind_some, SetOk (by constructor <;> decide) (by decide), Option.bind_some, PreTrieDefault.refMake a n ha 40 (by omega), if_pos ⟨by omega, by omega⟩, Option.bind_some, FindOk ha hb1, Option.bind_some,
    SetOk (top_U32 a n ha) (Ok_top a n (by omega) (by omega)), Option.bind_some]
  dsimp only
  rw [Int.toNat_natCast, path_top a ha n hn2, FindOk ha hb2, Option.bind_some, TriTrieDefault.answers, Option.bind_some, if_pos rfl, if_pos rfl, if_pos rfl, if_pos rfl, if_pos rfl]
  simp
end Go.Proofs.Ytbnchdfmkmkhnaa.Pure
