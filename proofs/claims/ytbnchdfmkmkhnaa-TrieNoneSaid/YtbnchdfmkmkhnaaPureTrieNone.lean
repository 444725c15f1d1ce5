/- A trie that is none; the plain part of the proof. Conditions: none. -/
import Derived.Test.YtbnchdfmkmkhnaaBndTrieNone
import Derived.Test.YtbnchdfmkmkhnaaTrieATrieNone
namespace Go.Proofs.Ytbnchdfmkmkhnaa.Pure
open Go.RowKit Go.Proofs.Ytbnchdfmkmkhnaa.PTrieNone Go.Proofs.YtbnchdfmkmkhnaaW.PrintWords Go.Proofs.YtbnchdfmkmkhnaaW.PrintLast
theorem TrieNone : BndTrieNone.Pure := by
  intro x0 x1 _ _
  exact TriTrieNone.answers
end Go.Proofs.Ytbnchdfmkmkhnaa.Pure
