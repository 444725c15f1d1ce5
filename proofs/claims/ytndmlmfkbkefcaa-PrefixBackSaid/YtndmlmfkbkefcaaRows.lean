/-
  No cell of these rows narrows 'for every input' (looked for: loops, veiled, ifaces, maps, wideKeys, modest, calm, conditions, laid).
  DERIVED. THE GIVEN ROWS OF THIS SEAT. 8 by the template 'for every input the law returns true; each argument reads behind the call as it read before'; 0 by the template 'total and deterministic' (their statements: YtndmlmfkbkefcaaTotals.lean).
  GIVEN WITH THE SEED: the statements are not yours to turn. If you find one false, say at which input.
  Laid BY PROGRAM, IN A SANDBOX (cutbox-rows.mjs): the forced cells as the released guide's own fill.sh prints them over the translation 1c5e6bdd85a61171… (all of the seat's roots in one cut). By AI agents, Wed Nov 11 2026. No macro, syntax, notation, axiom, sorry.
-/
import Derived.Test.YtndmlmfkbkefcaaChecked
import GoSem.Claim
import GoSem.ClaimJoined
import GoSem.ClaimMapViews
import Derived.JoinedTies
import Derived.KernelRfl
namespace Go.Proofs.Ytndmlmfkbkefcaa
/- THE CELL 'sum', in the pinned program and in every row, IS THE sha256 OF THE DUMP (.gsa) THAT YtndmlmfkbkefcaaProg.lean LOADS. Nothing in Lean hashes anything: it is a label: what it is worth is what the hold of that sum in a sandbox is worth. -/
noncomputable def Try.pinned : Pinned := { name := "ytndmlmfkbkefcaa", sum := "1c5e6bdd85a6117115ac40eeaa5b866c74c365ab22b5e27aba64dbb1f08d23da", checked := Try.checked }
namespace Rows
def none {H : Type} : Left H := { results := [], args := [] }

/-- 'interregnumlaw01.SumOf': WHATEVER THE INPUT: true; the input reads as it did. -/
def sumOfSpec : ChangeSpec := { name := "sumOf", fn := fun _ => fun
  | [d] => { results := [.lit (.bool true)], args := [d] }
  | _ => none }
def sumOfRow : OpenClaim := { program := "ytndmlmfkbkefcaa", sum := "1c5e6bdd85a6117115ac40eeaa5b866c74c365ab22b5e27aba64dbb1f08d23da", func := "interregnum/interregnumlaw01.SumOf", spec := "sumOf", apart := false }
def SumOfSaid : Prop := sumOfRow.holds Try.pinned (OpenSpec.ofChange sumOfSpec)

/-- ITS FALSE NEIGHBOUR: 'it returns false'. Refute it at one input. -/
def sumOfWrong : ChangeSpec := { name := "sumOf", fn := fun _ => fun
  | [d] => { results := [.lit (.bool false)], args := [d] }
  | _ => none }
def SumOfWrongFalsely : Prop := sumOfRow.holds Try.pinned (OpenSpec.ofChange sumOfWrong)

/-- 'interregnumlaw01.SumBurst': WHATEVER THE INPUT: true; the input reads as it did. -/
def sumBurstSpec : ChangeSpec := { name := "sumBurst", fn := fun _ => fun
  | [d1, d2, d3] => { results := [.lit (.bool true)], args := [d1, d2, d3] }
  | _ => none }
def sumBurstRow : OpenClaim := { program := "ytndmlmfkbkefcaa", sum := "1c5e6bdd85a6117115ac40eeaa5b866c74c365ab22b5e27aba64dbb1f08d23da", func := "interregnum/interregnumlaw01.SumBurst", spec := "sumBurst", apart := false }
def SumBurstSaid : Prop := sumBurstRow.holds Try.pinned (OpenSpec.ofChange sumBurstSpec)

/-- ITS FALSE NEIGHBOUR: 'it returns false'. Refute it at one input. -/
def sumBurstWrong : ChangeSpec := { name := "sumBurst", fn := fun _ => fun
  | [d1, d2, d3] => { results := [.lit (.bool false)], args := [d1, d2, d3] }
  | _ => none }
def SumBurstWrongFalsely : Prop := sumBurstRow.holds Try.pinned (OpenSpec.ofChange sumBurstWrong)

/-- 'interregnumlaw01.SumOne': WHATEVER THE INPUT: true; the input reads as it did. -/
def sumOneSpec : ChangeSpec := { name := "sumOne", fn := fun _ => fun
  | [d1, d2, d3] => { results := [.lit (.bool true)], args := [d1, d2, d3] }
  | _ => none }
def sumOneRow : OpenClaim := { program := "ytndmlmfkbkefcaa", sum := "1c5e6bdd85a6117115ac40eeaa5b866c74c365ab22b5e27aba64dbb1f08d23da", func := "interregnum/interregnumlaw01.SumOne", spec := "sumOne", apart := false }
def SumOneSaid : Prop := sumOneRow.holds Try.pinned (OpenSpec.ofChange sumOneSpec)

/-- ITS FALSE NEIGHBOUR: 'it returns false'. Refute it at one input. -/
def sumOneWrong : ChangeSpec := { name := "sumOne", fn := fun _ => fun
  | [d1, d2, d3] => { results := [.lit (.bool false)], args := [d1, d2, d3] }
  | _ => none }
def SumOneWrongFalsely : Prop := sumOneRow.holds Try.pinned (OpenSpec.ofChange sumOneWrong)

/-- 'interregnumlaw05.PrefixMake': WHATEVER THE INPUT: true; the input reads as it did. -/
def prefixMakeSpec : ChangeSpec := { name := "prefixMake", fn := fun _ => fun
  | [d1, d2] => { results := [.lit (.bool true)], args := [d1, d2] }
  | _ => none }
def prefixMakeRow : OpenClaim := { program := "ytndmlmfkbkefcaa", sum := "1c5e6bdd85a6117115ac40eeaa5b866c74c365ab22b5e27aba64dbb1f08d23da", func := "interregnum/interregnumlaw05.PrefixMake", spec := "prefixMake", apart := false }
def PrefixMakeSaid : Prop := prefixMakeRow.holds Try.pinned (OpenSpec.ofChange prefixMakeSpec)

/-- ITS FALSE NEIGHBOUR: 'it returns false'. Refute it at one input. -/
def prefixMakeWrong : ChangeSpec := { name := "prefixMake", fn := fun _ => fun
  | [d1, d2] => { results := [.lit (.bool false)], args := [d1, d2] }
  | _ => none }
def PrefixMakeWrongFalsely : Prop := prefixMakeRow.holds Try.pinned (OpenSpec.ofChange prefixMakeWrong)

/-- 'interregnumlaw05.PrefixBack': WHATEVER THE INPUT: true; the input reads as it did. -/
def prefixBackSpec : ChangeSpec := { name := "prefixBack", fn := fun _ => fun
  | [d] => { results := [.lit (.bool true)], args := [d] }
  | _ => none }
def prefixBackRow : OpenClaim := { program := "ytndmlmfkbkefcaa", sum := "1c5e6bdd85a6117115ac40eeaa5b866c74c365ab22b5e27aba64dbb1f08d23da", func := "interregnum/interregnumlaw05.PrefixBack", spec := "prefixBack", apart := false }
def PrefixBackSaid : Prop := prefixBackRow.holds Try.pinned (OpenSpec.ofChange prefixBackSpec)

/-- ITS FALSE NEIGHBOUR: 'it returns false'. Refute it at one input. -/
def prefixBackWrong : ChangeSpec := { name := "prefixBack", fn := fun _ => fun
  | [d] => { results := [.lit (.bool false)], args := [d] }
  | _ => none }
def PrefixBackWrongFalsely : Prop := prefixBackRow.holds Try.pinned (OpenSpec.ofChange prefixBackWrong)

/-- 'interregnumlaw05.PrefixReads': WHATEVER THE INPUT: true; the input reads as it did. -/
def prefixReadsSpec : ChangeSpec := { name := "prefixReads", fn := fun _ => fun
  | [d] => { results := [.lit (.bool true)], args := [d] }
  | _ => none }
def prefixReadsRow : OpenClaim := { program := "ytndmlmfkbkefcaa", sum := "1c5e6bdd85a6117115ac40eeaa5b866c74c365ab22b5e27aba64dbb1f08d23da", func := "interregnum/interregnumlaw05.PrefixReads", spec := "prefixReads", apart := false }
def PrefixReadsSaid : Prop := prefixReadsRow.holds Try.pinned (OpenSpec.ofChange prefixReadsSpec)

/-- ITS FALSE NEIGHBOUR: 'it returns false'. Refute it at one input. -/
def prefixReadsWrong : ChangeSpec := { name := "prefixReads", fn := fun _ => fun
  | [d] => { results := [.lit (.bool false)], args := [d] }
  | _ => none }
def PrefixReadsWrongFalsely : Prop := prefixReadsRow.holds Try.pinned (OpenSpec.ofChange prefixReadsWrong)

/-- 'interregnumlaw05.PrefixHost': WHATEVER THE INPUT: true; the input reads as it did. -/
def prefixHostSpec : ChangeSpec := { name := "prefixHost", fn := fun _ => fun
  | [d1, d2, d3, d4] => { results := [.lit (.bool true)], args := [d1, d2, d3, d4] }
  | _ => none }
def prefixHostRow : OpenClaim := { program := "ytndmlmfkbkefcaa", sum := "1c5e6bdd85a6117115ac40eeaa5b866c74c365ab22b5e27aba64dbb1f08d23da", func := "interregnum/interregnumlaw05.PrefixHost", spec := "prefixHost", apart := false }
def PrefixHostSaid : Prop := prefixHostRow.holds Try.pinned (OpenSpec.ofChange prefixHostSpec)

/-- ITS FALSE NEIGHBOUR: 'it returns false'. Refute it at one input. -/
def prefixHostWrong : ChangeSpec := { name := "prefixHost", fn := fun _ => fun
  | [d1, d2, d3, d4] => { results := [.lit (.bool false)], args := [d1, d2, d3, d4] }
  | _ => none }
def PrefixHostWrongFalsely : Prop := prefixHostRow.holds Try.pinned (OpenSpec.ofChange prefixHostWrong)

/-- 'interregnumlaw05.PrefixCovers': WHATEVER THE INPUT: true; the input reads as it did. -/
def prefixCoversSpec : ChangeSpec := { name := "prefixCovers", fn := fun _ => fun
  | [d1, d2, d3] => { results := [.lit (.bool true)], args := [d1, d2, d3] }
  | _ => none }
def prefixCoversRow : OpenClaim := { program := "ytndmlmfkbkefcaa", sum := "1c5e6bdd85a6117115ac40eeaa5b866c74c365ab22b5e27aba64dbb1f08d23da", func := "interregnum/interregnumlaw05.PrefixCovers", spec := "prefixCovers", apart := false }
def PrefixCoversSaid : Prop := prefixCoversRow.holds Try.pinned (OpenSpec.ofChange prefixCoversSpec)

/-- ITS FALSE NEIGHBOUR: 'it returns false'. Refute it at one input. -/
def prefixCoversWrong : ChangeSpec := { name := "prefixCovers", fn := fun _ => fun
  | [d1, d2, d3] => { results := [.lit (.bool false)], args := [d1, d2, d3] }
  | _ => none }
def PrefixCoversWrongFalsely : Prop := prefixCoversRow.holds Try.pinned (OpenSpec.ofChange prefixCoversWrong)

/- THE SECOND FORM. 'bulk': how many values and letters a reading holds, each counted each time it is reached (what is shared counts as often as it is met; a slice's spare places count too). A statement '..UptoSaid' is the law's where the arguments, and the package variables that the reading takes, are together of bulk at most 1048576: NARROWER than '..Said'. Prove '..Said' where nothing that the law and all that it calls make is longer than what came in: it says more and counts as full. Else prove '..UptoSaid'. A law counts once. -/
mutual
def uptoBulk {H : Type} : DataW H → Nat
  | .lit (.string bytes) => bytes.length + 1
  | .lit _ => 1
  | .nil => 1
  | .ptr d => uptoBulk d + 1
  | .slice elems spare => uptoBulkAll elems + uptoBulkAll spare + 1
  | .agg parts => uptoBulkAll parts + 1
  | .iface _ d => uptoBulk d + 1
  | .map entries => uptoBulkEntries entries + 1
  | .held _ => 1
def uptoBulkAll {H : Type} : List (DataW H) → Nat
  | [] => 0
  | d :: r => uptoBulk d + uptoBulkAll r
def uptoBulkEntries {H : Type} : List (Lit × DataW H) → Nat
  | [] => 0
  | x :: r => uptoBulkEntry x + uptoBulkEntries r
def uptoBulkEntry {H : Type} : Lit × DataW H → Nat
  | (.string bytes, d) => bytes.length + uptoBulk d + 1
  | (_, d) => uptoBulk d + 1
 end
def uptoSmall : (H : Type) → List (DataW H) → Bool := fun _ ds => decide (uptoBulkAll ds ≤ 1048576)
def OpenSpec.upto (s : _root_.Go.ChangeSpec) : _root_.Go.OpenSpec := { _root_.Go.OpenSpec.ofChange s with cond := some uptoSmall }

/-- 'interregnumlaw01.SumOf', WHERE WHAT IT READS IS OF BULK AT MOST 1048576: true; the input reads as it did. -/
def sumOfUptoRow : OpenClaim := { program := "ytndmlmfkbkefcaa", sum := "1c5e6bdd85a6117115ac40eeaa5b866c74c365ab22b5e27aba64dbb1f08d23da", func := "interregnum/interregnumlaw01.SumOf", spec := "sumOf", apart := false, narrowed := true }
def SumOfUptoSaid : Prop := sumOfUptoRow.holds Try.pinned (OpenSpec.upto sumOfSpec)

/-- 'interregnumlaw01.SumBurst', WHERE WHAT IT READS IS OF BULK AT MOST 1048576: true; the input reads as it did. -/
def sumBurstUptoRow : OpenClaim := { program := "ytndmlmfkbkefcaa", sum := "1c5e6bdd85a6117115ac40eeaa5b866c74c365ab22b5e27aba64dbb1f08d23da", func := "interregnum/interregnumlaw01.SumBurst", spec := "sumBurst", apart := false, narrowed := true }
def SumBurstUptoSaid : Prop := sumBurstUptoRow.holds Try.pinned (OpenSpec.upto sumBurstSpec)

/-- 'interregnumlaw01.SumOne', WHERE WHAT IT READS IS OF BULK AT MOST 1048576: true; the input reads as it did. -/
def sumOneUptoRow : OpenClaim := { program := "ytndmlmfkbkefcaa", sum := "1c5e6bdd85a6117115ac40eeaa5b866c74c365ab22b5e27aba64dbb1f08d23da", func := "interregnum/interregnumlaw01.SumOne", spec := "sumOne", apart := false, narrowed := true }
def SumOneUptoSaid : Prop := sumOneUptoRow.holds Try.pinned (OpenSpec.upto sumOneSpec)

/-- 'interregnumlaw05.PrefixMake', WHERE WHAT IT READS IS OF BULK AT MOST 1048576: true; the input reads as it did. -/
def prefixMakeUptoRow : OpenClaim := { program := "ytndmlmfkbkefcaa", sum := "1c5e6bdd85a6117115ac40eeaa5b866c74c365ab22b5e27aba64dbb1f08d23da", func := "interregnum/interregnumlaw05.PrefixMake", spec := "prefixMake", apart := false, narrowed := true }
def PrefixMakeUptoSaid : Prop := prefixMakeUptoRow.holds Try.pinned (OpenSpec.upto prefixMakeSpec)

/-- 'interregnumlaw05.PrefixBack', WHERE WHAT IT READS IS OF BULK AT MOST 1048576: true; the input reads as it did. -/
def prefixBackUptoRow : OpenClaim := { program := "ytndmlmfkbkefcaa", sum := "1c5e6bdd85a6117115ac40eeaa5b866c74c365ab22b5e27aba64dbb1f08d23da", func := "interregnum/interregnumlaw05.PrefixBack", spec := "prefixBack", apart := false, narrowed := true }
def PrefixBackUptoSaid : Prop := prefixBackUptoRow.holds Try.pinned (OpenSpec.upto prefixBackSpec)

/-- 'interregnumlaw05.PrefixReads', WHERE WHAT IT READS IS OF BULK AT MOST 1048576: true; the input reads as it did. -/
def prefixReadsUptoRow : OpenClaim := { program := "ytndmlmfkbkefcaa", sum := "1c5e6bdd85a6117115ac40eeaa5b866c74c365ab22b5e27aba64dbb1f08d23da", func := "interregnum/interregnumlaw05.PrefixReads", spec := "prefixReads", apart := false, narrowed := true }
def PrefixReadsUptoSaid : Prop := prefixReadsUptoRow.holds Try.pinned (OpenSpec.upto prefixReadsSpec)

/-- 'interregnumlaw05.PrefixHost', WHERE WHAT IT READS IS OF BULK AT MOST 1048576: true; the input reads as it did. -/
def prefixHostUptoRow : OpenClaim := { program := "ytndmlmfkbkefcaa", sum := "1c5e6bdd85a6117115ac40eeaa5b866c74c365ab22b5e27aba64dbb1f08d23da", func := "interregnum/interregnumlaw05.PrefixHost", spec := "prefixHost", apart := false, narrowed := true }
def PrefixHostUptoSaid : Prop := prefixHostUptoRow.holds Try.pinned (OpenSpec.upto prefixHostSpec)

/-- 'interregnumlaw05.PrefixCovers', WHERE WHAT IT READS IS OF BULK AT MOST 1048576: true; the input reads as it did. -/
def prefixCoversUptoRow : OpenClaim := { program := "ytndmlmfkbkefcaa", sum := "1c5e6bdd85a6117115ac40eeaa5b866c74c365ab22b5e27aba64dbb1f08d23da", func := "interregnum/interregnumlaw05.PrefixCovers", spec := "prefixCovers", apart := false, narrowed := true }
def PrefixCoversUptoSaid : Prop := prefixCoversUptoRow.holds Try.pinned (OpenSpec.upto prefixCoversSpec)

end Rows
end Go.Proofs.Ytndmlmfkbkefcaa
