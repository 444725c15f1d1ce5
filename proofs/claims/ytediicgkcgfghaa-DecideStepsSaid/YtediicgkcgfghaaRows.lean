/-
  No cell of these rows narrows 'for every input' (looked for: loops, veiled, ifaces, maps, wideKeys, modest, calm, conditions, laid).
  DERIVED. THE GIVEN ROWS OF THIS SEAT. 5 by the template 'for every input the law returns true; each argument reads behind the call as it read before'; 0 by the template 'total and deterministic' (their statements: YtediicgkcgfghaaTotals.lean).
  GIVEN WITH THE SEED: the statements are not yours to turn. If you find one false, say at which input.
  Laid BY PROGRAM, IN A SANDBOX (cutbox-rows.mjs): the forced cells as the released guide's own fill.sh prints them over the translation 7e7c4d821ac04018… (all of the seat's roots in one cut). By AI agents, Wed Nov 11 2026. No macro, syntax, notation, axiom, sorry.
-/
import Derived.Test.YtediicgkcgfghaaChecked
import GoSem.Claim
import GoSem.ClaimJoined
import GoSem.ClaimMapViews
import Derived.JoinedTies
import Derived.KernelRfl
namespace Go.Proofs.Ytediicgkcgfghaa
/- THE CELL 'sum', in the pinned program and in every row, IS THE sha256 OF THE DUMP (.gsa) THAT YtediicgkcgfghaaProg.lean LOADS. Nothing in Lean hashes anything: it is a label: what it is worth is what the hold of that sum in a sandbox is worth. -/
noncomputable def Try.pinned : Pinned := { name := "ytediicgkcgfghaa", sum := "7e7c4d821ac04018726dc681d21ac06fc09b1cd1ee786f5dc810b2e08bea4fe2", checked := Try.checked }
namespace Rows
def none {H : Type} : Left H := { results := [], args := [] }

/-- 'interregnumlaw15.DecideBest': WHATEVER THE INPUT: true; the input reads as it did. -/
def decideBestSpec : ChangeSpec := { name := "decideBest", fn := fun _ => fun
  | [d1, d2, d3] => { results := [.lit (.bool true)], args := [d1, d2, d3] }
  | _ => none }
def decideBestRow : OpenClaim := { program := "ytediicgkcgfghaa", sum := "7e7c4d821ac04018726dc681d21ac06fc09b1cd1ee786f5dc810b2e08bea4fe2", func := "interregnum/interregnumlaw15.DecideBest", spec := "decideBest", inPlace := ["math.Float64frombits", "math.archMin", "math.Float64bits"], unfollowed := true, recurses := true, apart := false }
def DecideBestSaid : Prop := decideBestRow.holds Try.pinned (OpenSpec.ofChange decideBestSpec)

/-- ITS FALSE NEIGHBOUR: 'it returns false'. Refute it at one input. -/
def decideBestWrong : ChangeSpec := { name := "decideBest", fn := fun _ => fun
  | [d1, d2, d3] => { results := [.lit (.bool false)], args := [d1, d2, d3] }
  | _ => none }
def DecideBestWrongFalsely : Prop := decideBestRow.holds Try.pinned (OpenSpec.ofChange decideBestWrong)

/-- 'interregnumlaw15.DecideOrder': WHATEVER THE INPUT: true; the input reads as it did. -/
def decideOrderSpec : ChangeSpec := { name := "decideOrder", fn := fun _ => fun
  | [d1, d2, d3, d4] => { results := [.lit (.bool true)], args := [d1, d2, d3, d4] }
  | _ => none }
def decideOrderRow : OpenClaim := { program := "ytediicgkcgfghaa", sum := "7e7c4d821ac04018726dc681d21ac06fc09b1cd1ee786f5dc810b2e08bea4fe2", func := "interregnum/interregnumlaw15.DecideOrder", spec := "decideOrder", inPlace := ["math.Float64frombits", "math.archMin", "math.Float64bits"], unfollowed := true, recurses := true, apart := false }
def DecideOrderSaid : Prop := decideOrderRow.holds Try.pinned (OpenSpec.ofChange decideOrderSpec)

/-- ITS FALSE NEIGHBOUR: 'it returns false'. Refute it at one input. -/
def decideOrderWrong : ChangeSpec := { name := "decideOrder", fn := fun _ => fun
  | [d1, d2, d3, d4] => { results := [.lit (.bool false)], args := [d1, d2, d3, d4] }
  | _ => none }
def DecideOrderWrongFalsely : Prop := decideOrderRow.holds Try.pinned (OpenSpec.ofChange decideOrderWrong)

/-- 'interregnumlaw15.DecideLess': WHATEVER THE INPUT: true; the input reads as it did. -/
def decideLessSpec : ChangeSpec := { name := "decideLess", fn := fun _ => fun
  | [d1, d2, d3, d4] => { results := [.lit (.bool true)], args := [d1, d2, d3, d4] }
  | _ => none }
def decideLessRow : OpenClaim := { program := "ytediicgkcgfghaa", sum := "7e7c4d821ac04018726dc681d21ac06fc09b1cd1ee786f5dc810b2e08bea4fe2", func := "interregnum/interregnumlaw15.DecideLess", spec := "decideLess", inPlace := ["math.Float64frombits", "math.archMin", "math.Float64bits"], unfollowed := true, recurses := true, apart := false }
def DecideLessSaid : Prop := decideLessRow.holds Try.pinned (OpenSpec.ofChange decideLessSpec)

/-- ITS FALSE NEIGHBOUR: 'it returns false'. Refute it at one input. -/
def decideLessWrong : ChangeSpec := { name := "decideLess", fn := fun _ => fun
  | [d1, d2, d3, d4] => { results := [.lit (.bool false)], args := [d1, d2, d3, d4] }
  | _ => none }
def DecideLessWrongFalsely : Prop := decideLessRow.holds Try.pinned (OpenSpec.ofChange decideLessWrong)

/-- 'interregnumlaw15.DecideLoops': WHATEVER THE INPUT: true; the input reads as it did. -/
def decideLoopsSpec : ChangeSpec := { name := "decideLoops", fn := fun _ => fun
  | [d1, d2, d3] => { results := [.lit (.bool true)], args := [d1, d2, d3] }
  | _ => none }
def decideLoopsRow : OpenClaim := { program := "ytediicgkcgfghaa", sum := "7e7c4d821ac04018726dc681d21ac06fc09b1cd1ee786f5dc810b2e08bea4fe2", func := "interregnum/interregnumlaw15.DecideLoops", spec := "decideLoops", inPlace := ["math.Float64frombits", "math.archMin", "math.Float64bits"], unfollowed := true, recurses := true, apart := false }
def DecideLoopsSaid : Prop := decideLoopsRow.holds Try.pinned (OpenSpec.ofChange decideLoopsSpec)

/-- ITS FALSE NEIGHBOUR: 'it returns false'. Refute it at one input. -/
def decideLoopsWrong : ChangeSpec := { name := "decideLoops", fn := fun _ => fun
  | [d1, d2, d3] => { results := [.lit (.bool false)], args := [d1, d2, d3] }
  | _ => none }
def DecideLoopsWrongFalsely : Prop := decideLoopsRow.holds Try.pinned (OpenSpec.ofChange decideLoopsWrong)

/-- 'interregnumlaw15.DecideSteps': WHATEVER THE INPUT: true; the input reads as it did. -/
def decideStepsSpec : ChangeSpec := { name := "decideSteps", fn := fun _ => fun
  | [d1, d2, d3] => { results := [.lit (.bool true)], args := [d1, d2, d3] }
  | _ => none }
def decideStepsRow : OpenClaim := { program := "ytediicgkcgfghaa", sum := "7e7c4d821ac04018726dc681d21ac06fc09b1cd1ee786f5dc810b2e08bea4fe2", func := "interregnum/interregnumlaw15.DecideSteps", spec := "decideSteps", inPlace := ["math.Float64frombits", "math.archMin", "math.Float64bits"], unfollowed := true, recurses := true, apart := false }
def DecideStepsSaid : Prop := decideStepsRow.holds Try.pinned (OpenSpec.ofChange decideStepsSpec)

/-- ITS FALSE NEIGHBOUR: 'it returns false'. Refute it at one input. -/
def decideStepsWrong : ChangeSpec := { name := "decideSteps", fn := fun _ => fun
  | [d1, d2, d3] => { results := [.lit (.bool false)], args := [d1, d2, d3] }
  | _ => none }
def DecideStepsWrongFalsely : Prop := decideStepsRow.holds Try.pinned (OpenSpec.ofChange decideStepsWrong)

/- THE SECOND FORM. 'bulk': how many values and letters a reading holds, each counted each time it is reached (what is shared counts as often as it is met; a slice's spare places count too). A statement '..UptoSaid' is the law's where the arguments, and the package variables that the reading takes, are together of bulk at most 1048576: NARROWER than '..Said'. Prove '..Said' where nothing that the law and all that it calls make is longer than what came in: it says more and counts as full. Else prove '..UptoSaid'. A law counts once. -/
mutual
def uptoBulk {H : Type} : DataW H → Nat
  | .lit (.string bytes) => bytes.length + 1
  | .lit _ => 1
  | .nil => 1
  | .ptr d => uptoBulk d + 1
  | .slice elems spare => uptoBulkAll elems + uptoBulkAll spare + 1
  | .agg parts => uptoBulkAll parts + 1
  | .iface _ d => uptoBulk d + 1
  | .map entries => uptoBulkEntries entries + 1
  | .held _ => 1
def uptoBulkAll {H : Type} : List (DataW H) → Nat
  | [] => 0
  | d :: r => uptoBulk d + uptoBulkAll r
def uptoBulkEntries {H : Type} : List (Lit × DataW H) → Nat
  | [] => 0
  | x :: r => uptoBulkEntry x + uptoBulkEntries r
def uptoBulkEntry {H : Type} : Lit × DataW H → Nat
  | (.string bytes, d) => bytes.length + uptoBulk d + 1
  | (_, d) => uptoBulk d + 1
 end
def uptoSmall : (H : Type) → List (DataW H) → Bool := fun _ ds => decide (uptoBulkAll ds ≤ 1048576)
def OpenSpec.upto (s : _root_.Go.ChangeSpec) : _root_.Go.OpenSpec := { _root_.Go.OpenSpec.ofChange s with cond := some uptoSmall }

/-- 'interregnumlaw15.DecideBest', WHERE WHAT IT READS IS OF BULK AT MOST 1048576: true; the input reads as it did. -/
def decideBestUptoRow : OpenClaim := { program := "ytediicgkcgfghaa", sum := "7e7c4d821ac04018726dc681d21ac06fc09b1cd1ee786f5dc810b2e08bea4fe2", func := "interregnum/interregnumlaw15.DecideBest", spec := "decideBest", inPlace := ["math.Float64frombits", "math.archMin", "math.Float64bits"], unfollowed := true, recurses := true, apart := false, narrowed := true }
def DecideBestUptoSaid : Prop := decideBestUptoRow.holds Try.pinned (OpenSpec.upto decideBestSpec)

/-- 'interregnumlaw15.DecideOrder', WHERE WHAT IT READS IS OF BULK AT MOST 1048576: true; the input reads as it did. -/
def decideOrderUptoRow : OpenClaim := { program := "ytediicgkcgfghaa", sum := "7e7c4d821ac04018726dc681d21ac06fc09b1cd1ee786f5dc810b2e08bea4fe2", func := "interregnum/interregnumlaw15.DecideOrder", spec := "decideOrder", inPlace := ["math.Float64frombits", "math.archMin", "math.Float64bits"], unfollowed := true, recurses := true, apart := false, narrowed := true }
def DecideOrderUptoSaid : Prop := decideOrderUptoRow.holds Try.pinned (OpenSpec.upto decideOrderSpec)

/-- 'interregnumlaw15.DecideLess', WHERE WHAT IT READS IS OF BULK AT MOST 1048576: true; the input reads as it did. -/
def decideLessUptoRow : OpenClaim := { program := "ytediicgkcgfghaa", sum := "7e7c4d821ac04018726dc681d21ac06fc09b1cd1ee786f5dc810b2e08bea4fe2", func := "interregnum/interregnumlaw15.DecideLess", spec := "decideLess", inPlace := ["math.Float64frombits", "math.archMin", "math.Float64bits"], unfollowed := true, recurses := true, apart := false, narrowed := true }
def DecideLessUptoSaid : Prop := decideLessUptoRow.holds Try.pinned (OpenSpec.upto decideLessSpec)

/-- 'interregnumlaw15.DecideLoops', WHERE WHAT IT READS IS OF BULK AT MOST 1048576: true; the input reads as it did. -/
def decideLoopsUptoRow : OpenClaim := { program := "ytediicgkcgfghaa", sum := "7e7c4d821ac04018726dc681d21ac06fc09b1cd1ee786f5dc810b2e08bea4fe2", func := "interregnum/interregnumlaw15.DecideLoops", spec := "decideLoops", inPlace := ["math.Float64frombits", "math.archMin", "math.Float64bits"], unfollowed := true, recurses := true, apart := false, narrowed := true }
def DecideLoopsUptoSaid : Prop := decideLoopsUptoRow.holds Try.pinned (OpenSpec.upto decideLoopsSpec)

/-- 'interregnumlaw15.DecideSteps', WHERE WHAT IT READS IS OF BULK AT MOST 1048576: true; the input reads as it did. -/
def decideStepsUptoRow : OpenClaim := { program := "ytediicgkcgfghaa", sum := "7e7c4d821ac04018726dc681d21ac06fc09b1cd1ee786f5dc810b2e08bea4fe2", func := "interregnum/interregnumlaw15.DecideSteps", spec := "decideSteps", inPlace := ["math.Float64frombits", "math.archMin", "math.Float64bits"], unfollowed := true, recurses := true, apart := false, narrowed := true }
def DecideStepsUptoSaid : Prop := decideStepsUptoRow.holds Try.pinned (OpenSpec.upto decideStepsSpec)

end Rows
end Go.Proofs.Ytediicgkcgfghaa
