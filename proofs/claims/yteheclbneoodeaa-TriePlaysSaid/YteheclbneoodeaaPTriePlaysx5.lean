/- The contract of a law's own function, of its parts. Conditions: none. -/
import Derived.Test.YteheclbneoodeaaPTriePlaysx0
import Derived.Test.YteheclbneoodeaaPTriePlaysx1
import Derived.Test.YteheclbneoodeaaPTriePlaysx2
import Derived.Test.YteheclbneoodeaaPTriePlaysx3
import Derived.Test.YteheclbneoodeaaPTriePlaysx4
import Derived.Test.YteheclbneoodeaaPTriePlaysy0
import Derived.Test.YteheclbneoodeaaPTriePlaysy1
import Derived.Test.YteheclbneoodeaaPTriePlaysy2
namespace Go.Proofs.Yteheclbneoodeaa.PTriePlays
open Go.RowKit Go.Proofs.YteheclbneoodeaaW.PrintWords Go.Proofs.YteheclbneoodeaaW.PrintLast Go.Proofs.YteheclbneoodeaaW.PrintMore
attribute [local go_sem] max2_int min2_int max_two min_two max_three min_three max_four min_four   -- for this text's walks alone
set_option linter.unusedVariables false
set_option linter.unusedSimpArgs false
attribute [local go_sem high] eqA47
theorem TR.calls (k : Nat) (A0 : Option Addr) (c0 : Nat) (l0 : List (S62)) (A1 : Option Addr) (c1 : Nat) (l1 : List Int) (r : Bool) (w : World) (hr0 : Kd.C k62 w A0 l0.length l0) (hc0 : l0.length ≤ c0) (hr1 : Kd.C (Kd.int .u32) w A1 l1.length l1) (hc1 : l1.length ≤ c1) (h : TR.f k l0 l1 = some r) :
    Calls Try.prog 8 #[.slice A0 l0.length c0, .slice A1 l1.length c1] w fun e w' => e = .returned (.bool r) ∧ Below w.heap.size w w' :=
  TR.part.2.2 ⟨TR.branch1⟩ ⟨TR.branch2⟩ k A0 c0 l0 A1 c1 l1 r w hr0 hc0 hr1 hc1 h
theorem interregnumlaw11_TriePlays.calls : type_of% @TR.calls := @TR.calls
end Go.Proofs.Yteheclbneoodeaa.PTriePlays
