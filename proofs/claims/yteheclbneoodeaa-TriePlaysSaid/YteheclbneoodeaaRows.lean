/-
  No cell of these rows narrows 'for every input' (looked for: loops, veiled, ifaces, maps, wideKeys, modest, calm, conditions, laid).
  DERIVED. THE GIVEN ROWS OF THIS SEAT. 7 by the template 'for every input the law returns true; each argument reads behind the call as it read before'; 0 by the template 'total and deterministic' (their statements: YteheclbneoodeaaTotals.lean).
  GIVEN WITH THE SEED: the statements are not yours to turn. If you find one false, say at which input.
  Laid BY PROGRAM, IN A SANDBOX (cutbox-rows.mjs): the forced cells as the released guide's own fill.sh prints them over the translation 19ef333c1a09514e… (all of the seat's roots in one cut). By AI agents, Wed Nov 11 2026. No macro, syntax, notation, axiom, sorry.
-/
import Derived.Test.YteheclbneoodeaaChecked
import GoSem.Claim
import GoSem.ClaimJoined
import GoSem.ClaimMapViews
import Derived.JoinedTies
import Derived.KernelRfl
namespace Go.Proofs.Yteheclbneoodeaa
/- THE CELL 'sum', in the pinned program and in every row, IS THE sha256 OF THE DUMP (.gsa) THAT YteheclbneoodeaaProg.lean LOADS. Nothing in Lean hashes anything: it is a label: what it is worth is what the hold of that sum in a sandbox is worth. -/
noncomputable def Try.pinned : Pinned := { name := "yteheclbneoodeaa", sum := "19ef333c1a09514ee9e4584ec1fb6dcae310c6124e5fbece16592387670d00f5", checked := Try.checked }
namespace Rows
def none {H : Type} : Left H := { results := [], args := [] }

/-- 'interregnumlaw17.TimerOrder': WHATEVER THE INPUT: true; the input reads as it did. -/
def timerOrderSpec : ChangeSpec := { name := "timerOrder", fn := fun _ => fun
  | [d] => { results := [.lit (.bool true)], args := [d] }
  | _ => none }
def timerOrderRow : OpenClaim := { program := "yteheclbneoodeaa", sum := "19ef333c1a09514ee9e4584ec1fb6dcae310c6124e5fbece16592387670d00f5", func := "interregnum/interregnumlaw17.TimerOrder", spec := "timerOrder", apart := false }
def TimerOrderSaid : Prop := timerOrderRow.holds Try.pinned (OpenSpec.ofChange timerOrderSpec)

/-- ITS FALSE NEIGHBOUR: 'it returns false'. Refute it at one input. -/
def timerOrderWrong : ChangeSpec := { name := "timerOrder", fn := fun _ => fun
  | [d] => { results := [.lit (.bool false)], args := [d] }
  | _ => none }
def TimerOrderWrongFalsely : Prop := timerOrderRow.holds Try.pinned (OpenSpec.ofChange timerOrderWrong)

/-- 'interregnumlaw17.TimerPlays': WHATEVER THE INPUT: true; the input reads as it did. -/
def timerPlaysSpec : ChangeSpec := { name := "timerPlays", fn := fun _ => fun
  | [d] => { results := [.lit (.bool true)], args := [d] }
  | _ => none }
def timerPlaysRow : OpenClaim := { program := "yteheclbneoodeaa", sum := "19ef333c1a09514ee9e4584ec1fb6dcae310c6124e5fbece16592387670d00f5", func := "interregnum/interregnumlaw17.TimerPlays", spec := "timerPlays", apart := false }
def TimerPlaysSaid : Prop := timerPlaysRow.holds Try.pinned (OpenSpec.ofChange timerPlaysSpec)

/-- ITS FALSE NEIGHBOUR: 'it returns false'. Refute it at one input. -/
def timerPlaysWrong : ChangeSpec := { name := "timerPlays", fn := fun _ => fun
  | [d] => { results := [.lit (.bool false)], args := [d] }
  | _ => none }
def TimerPlaysWrongFalsely : Prop := timerPlaysRow.holds Try.pinned (OpenSpec.ofChange timerPlaysWrong)

/-- 'interregnumlaw17.TimerNone': WHATEVER THE INPUT: true; the input reads as it did. -/
def timerNoneSpec : ChangeSpec := { name := "timerNone", fn := fun _ => fun
  | [d1, d2] => { results := [.lit (.bool true)], args := [d1, d2] }
  | _ => none }
def timerNoneRow : OpenClaim := { program := "yteheclbneoodeaa", sum := "19ef333c1a09514ee9e4584ec1fb6dcae310c6124e5fbece16592387670d00f5", func := "interregnum/interregnumlaw17.TimerNone", spec := "timerNone", apart := false }
def TimerNoneSaid : Prop := timerNoneRow.holds Try.pinned (OpenSpec.ofChange timerNoneSpec)

/-- ITS FALSE NEIGHBOUR: 'it returns false'. Refute it at one input. -/
def timerNoneWrong : ChangeSpec := { name := "timerNone", fn := fun _ => fun
  | [d1, d2] => { results := [.lit (.bool false)], args := [d1, d2] }
  | _ => none }
def TimerNoneWrongFalsely : Prop := timerNoneRow.holds Try.pinned (OpenSpec.ofChange timerNoneWrong)

/-- 'interregnumlaw11.TrieDefault': WHATEVER THE INPUT: true; the input reads as it did. -/
def trieDefaultSpec : ChangeSpec := { name := "trieDefault", fn := fun _ => fun
  | [d1, d2, d3, d4] => { results := [.lit (.bool true)], args := [d1, d2, d3, d4] }
  | _ => none }
def trieDefaultRow : OpenClaim := { program := "yteheclbneoodeaa", sum := "19ef333c1a09514ee9e4584ec1fb6dcae310c6124e5fbece16592387670d00f5", func := "interregnum/interregnumlaw11.TrieDefault", spec := "trieDefault", recurses := true, apart := false }
def TrieDefaultSaid : Prop := trieDefaultRow.holds Try.pinned (OpenSpec.ofChange trieDefaultSpec)

/-- ITS FALSE NEIGHBOUR: 'it returns false'. Refute it at one input. -/
def trieDefaultWrong : ChangeSpec := { name := "trieDefault", fn := fun _ => fun
  | [d1, d2, d3, d4] => { results := [.lit (.bool false)], args := [d1, d2, d3, d4] }
  | _ => none }
def TrieDefaultWrongFalsely : Prop := trieDefaultRow.holds Try.pinned (OpenSpec.ofChange trieDefaultWrong)

/-- 'interregnumlaw11.TrieMany': WHATEVER THE INPUT: true; the input reads as it did. -/
def trieManySpec : ChangeSpec := { name := "trieMany", fn := fun _ => fun
  | [d1, d2] => { results := [.lit (.bool true)], args := [d1, d2] }
  | _ => none }
def trieManyRow : OpenClaim := { program := "yteheclbneoodeaa", sum := "19ef333c1a09514ee9e4584ec1fb6dcae310c6124e5fbece16592387670d00f5", func := "interregnum/interregnumlaw11.TrieMany", spec := "trieMany", recurses := true, apart := false }
def TrieManySaid : Prop := trieManyRow.holds Try.pinned (OpenSpec.ofChange trieManySpec)

/-- ITS FALSE NEIGHBOUR: 'it returns false'. Refute it at one input. -/
def trieManyWrong : ChangeSpec := { name := "trieMany", fn := fun _ => fun
  | [d1, d2] => { results := [.lit (.bool false)], args := [d1, d2] }
  | _ => none }
def TrieManyWrongFalsely : Prop := trieManyRow.holds Try.pinned (OpenSpec.ofChange trieManyWrong)

/-- 'interregnumlaw11.TriePlays': WHATEVER THE INPUT: true; the input reads as it did. -/
def triePlaysSpec : ChangeSpec := { name := "triePlays", fn := fun _ => fun
  | [d1, d2] => { results := [.lit (.bool true)], args := [d1, d2] }
  | _ => none }
def triePlaysRow : OpenClaim := { program := "yteheclbneoodeaa", sum := "19ef333c1a09514ee9e4584ec1fb6dcae310c6124e5fbece16592387670d00f5", func := "interregnum/interregnumlaw11.TriePlays", spec := "triePlays", recurses := true, apart := false }
def TriePlaysSaid : Prop := triePlaysRow.holds Try.pinned (OpenSpec.ofChange triePlaysSpec)

/-- ITS FALSE NEIGHBOUR: 'it returns false'. Refute it at one input. -/
def triePlaysWrong : ChangeSpec := { name := "triePlays", fn := fun _ => fun
  | [d1, d2] => { results := [.lit (.bool false)], args := [d1, d2] }
  | _ => none }
def TriePlaysWrongFalsely : Prop := triePlaysRow.holds Try.pinned (OpenSpec.ofChange triePlaysWrong)

/-- 'interregnumlaw11.TrieNone': WHATEVER THE INPUT: true; the input reads as it did. -/
def trieNoneSpec : ChangeSpec := { name := "trieNone", fn := fun _ => fun
  | [d1, d2] => { results := [.lit (.bool true)], args := [d1, d2] }
  | _ => none }
def trieNoneRow : OpenClaim := { program := "yteheclbneoodeaa", sum := "19ef333c1a09514ee9e4584ec1fb6dcae310c6124e5fbece16592387670d00f5", func := "interregnum/interregnumlaw11.TrieNone", spec := "trieNone", recurses := true, apart := false }
def TrieNoneSaid : Prop := trieNoneRow.holds Try.pinned (OpenSpec.ofChange trieNoneSpec)

/-- ITS FALSE NEIGHBOUR: 'it returns false'. Refute it at one input. -/
def trieNoneWrong : ChangeSpec := { name := "trieNone", fn := fun _ => fun
  | [d1, d2] => { results := [.lit (.bool false)], args := [d1, d2] }
  | _ => none }
def TrieNoneWrongFalsely : Prop := trieNoneRow.holds Try.pinned (OpenSpec.ofChange trieNoneWrong)

/- THE SECOND FORM. 'bulk': how many values and letters a reading holds, each counted each time it is reached (what is shared counts as often as it is met; a slice's spare places count too). A statement '..UptoSaid' is the law's where the arguments, and the package variables that the reading takes, are together of bulk at most 1048576: NARROWER than '..Said'. Prove '..Said' where nothing that the law and all that it calls make is longer than what came in: it says more and counts as full. Else prove '..UptoSaid'. A law counts once. -/
mutual
def uptoBulk {H : Type} : DataW H → Nat
  | .lit (.string bytes) => bytes.length + 1
  | .lit _ => 1
  | .nil => 1
  | .ptr d => uptoBulk d + 1
  | .slice elems spare => uptoBulkAll elems + uptoBulkAll spare + 1
  | .agg parts => uptoBulkAll parts + 1
  | .iface _ d => uptoBulk d + 1
  | .map entries => uptoBulkEntries entries + 1
  | .held _ => 1
def uptoBulkAll {H : Type} : List (DataW H) → Nat
  | [] => 0
  | d :: r => uptoBulk d + uptoBulkAll r
def uptoBulkEntries {H : Type} : List (Lit × DataW H) → Nat
  | [] => 0
  | x :: r => uptoBulkEntry x + uptoBulkEntries r
def uptoBulkEntry {H : Type} : Lit × DataW H → Nat
  | (.string bytes, d) => bytes.length + uptoBulk d + 1
  | (_, d) => uptoBulk d + 1
 end
def uptoSmall : (H : Type) → List (DataW H) → Bool := fun _ ds => decide (uptoBulkAll ds ≤ 1048576)
def OpenSpec.upto (s : _root_.Go.ChangeSpec) : _root_.Go.OpenSpec := { _root_.Go.OpenSpec.ofChange s with cond := some uptoSmall }

/-- 'interregnumlaw17.TimerOrder', WHERE WHAT IT READS IS OF BULK AT MOST 1048576: true; the input reads as it did. -/
def timerOrderUptoRow : OpenClaim := { program := "yteheclbneoodeaa", sum := "19ef333c1a09514ee9e4584ec1fb6dcae310c6124e5fbece16592387670d00f5", func := "interregnum/interregnumlaw17.TimerOrder", spec := "timerOrder", apart := false, narrowed := true }
def TimerOrderUptoSaid : Prop := timerOrderUptoRow.holds Try.pinned (OpenSpec.upto timerOrderSpec)

/-- 'interregnumlaw17.TimerPlays', WHERE WHAT IT READS IS OF BULK AT MOST 1048576: true; the input reads as it did. -/
def timerPlaysUptoRow : OpenClaim := { program := "yteheclbneoodeaa", sum := "19ef333c1a09514ee9e4584ec1fb6dcae310c6124e5fbece16592387670d00f5", func := "interregnum/interregnumlaw17.TimerPlays", spec := "timerPlays", apart := false, narrowed := true }
def TimerPlaysUptoSaid : Prop := timerPlaysUptoRow.holds Try.pinned (OpenSpec.upto timerPlaysSpec)

/-- 'interregnumlaw17.TimerNone', WHERE WHAT IT READS IS OF BULK AT MOST 1048576: true; the input reads as it did. -/
def timerNoneUptoRow : OpenClaim := { program := "yteheclbneoodeaa", sum := "19ef333c1a09514ee9e4584ec1fb6dcae310c6124e5fbece16592387670d00f5", func := "interregnum/interregnumlaw17.TimerNone", spec := "timerNone", apart := false, narrowed := true }
def TimerNoneUptoSaid : Prop := timerNoneUptoRow.holds Try.pinned (OpenSpec.upto timerNoneSpec)

/-- 'interregnumlaw11.TrieDefault', WHERE WHAT IT READS IS OF BULK AT MOST 1048576: true; the input reads as it did. -/
def trieDefaultUptoRow : OpenClaim := { program := "yteheclbneoodeaa", sum := "19ef333c1a09514ee9e4584ec1fb6dcae310c6124e5fbece16592387670d00f5", func := "interregnum/interregnumlaw11.TrieDefault", spec := "trieDefault", recurses := true, apart := false, narrowed := true }
def TrieDefaultUptoSaid : Prop := trieDefaultUptoRow.holds Try.pinned (OpenSpec.upto trieDefaultSpec)

/-- 'interregnumlaw11.TrieMany', WHERE WHAT IT READS IS OF BULK AT MOST 1048576: true; the input reads as it did. -/
def trieManyUptoRow : OpenClaim := { program := "yteheclbneoodeaa", sum := "19ef333c1a09514ee9e4584ec1fb6dcae310c6124e5fbece16592387670d00f5", func := "interregnum/interregnumlaw11.TrieMany", spec := "trieMany", recurses := true, apart := false, narrowed := true }
def TrieManyUptoSaid : Prop := trieManyUptoRow.holds Try.pinned (OpenSpec.upto trieManySpec)

/-- 'interregnumlaw11.TriePlays', WHERE WHAT IT READS IS OF BULK AT MOST 1048576: true; the input reads as it did. -/
def triePlaysUptoRow : OpenClaim := { program := "yteheclbneoodeaa", sum := "19ef333c1a09514ee9e4584ec1fb6dcae310c6124e5fbece16592387670d00f5", func := "interregnum/interregnumlaw11.TriePlays", spec := "triePlays", recurses := true, apart := false, narrowed := true }
def TriePlaysUptoSaid : Prop := triePlaysUptoRow.holds Try.pinned (OpenSpec.upto triePlaysSpec)

/-- 'interregnumlaw11.TrieNone', WHERE WHAT IT READS IS OF BULK AT MOST 1048576: true; the input reads as it did. -/
def trieNoneUptoRow : OpenClaim := { program := "yteheclbneoodeaa", sum := "19ef333c1a09514ee9e4584ec1fb6dcae310c6124e5fbece16592387670d00f5", func := "interregnum/interregnumlaw11.TrieNone", spec := "trieNone", recurses := true, apart := false, narrowed := true }
def TrieNoneUptoSaid : Prop := trieNoneUptoRow.holds Try.pinned (OpenSpec.upto trieNoneSpec)

end Rows
end Go.Proofs.Yteheclbneoodeaa
