/-
  No cell of these rows narrows 'for every input' (looked for: loops, veiled, ifaces, maps, wideKeys, modest, calm, conditions, laid).
  DERIVED. THE GIVEN ROWS OF THIS SEAT. 5 by the template 'for every input the law returns true; each argument reads behind the call as it read before'; 0 by the template 'total and deterministic' (their statements: YtjdebhkdbdbepaaTotals.lean).
  GIVEN WITH THE SEED: the statements are not yours to turn. If you find one false, say at which input.
  Laid BY PROGRAM, IN A SANDBOX (cutbox-rows.mjs): the forced cells as the released guide's own fill.sh prints them over the translation 4ae860c278a28530… (all of the seat's roots in one cut). By AI agents, Wed Nov 11 2026. No macro, syntax, notation, axiom, sorry.
-/
import Derived.Test.YtjdebhkdbdbepaaChecked
import GoSem.Claim
import GoSem.ClaimJoined
import GoSem.ClaimMapViews
import Derived.JoinedTies
import Derived.KernelRfl
namespace Go.Proofs.Ytjdebhkdbdbepaa
/- THE CELL 'sum', in the pinned program and in every row, IS THE sha256 OF THE DUMP (.gsa) THAT YtjdebhkdbdbepaaProg.lean LOADS. Nothing in Lean hashes anything: it is a label: what it is worth is what the hold of that sum in a sandbox is worth. -/
noncomputable def Try.pinned : Pinned := { name := "ytjdebhkdbdbepaa", sum := "4ae860c278a285302956f9734a9a9a7152964218c99edbee3a2fbb2956ff852b", checked := Try.checked }
namespace Rows
def none {H : Type} : Left H := { results := [], args := [] }

/-- 'interregnumlaw16.ExportTells': WHATEVER THE INPUT: true; the input reads as it did. -/
def exportTellsSpec : ChangeSpec := { name := "exportTells", fn := fun _ => fun
  | [d1, d2, d3, d4, d5] => { results := [.lit (.bool true)], args := [d1, d2, d3, d4, d5] }
  | _ => none }
def exportTellsRow : OpenClaim := { program := "ytjdebhkdbdbepaa", sum := "4ae860c278a285302956f9734a9a9a7152964218c99edbee3a2fbb2956ff852b", func := "interregnum/interregnumlaw16.ExportTells", spec := "exportTells", unfollowed := true, recurses := true, apart := false }
def ExportTellsSaid : Prop := exportTellsRow.holds Try.pinned (OpenSpec.ofChange exportTellsSpec)

/-- ITS FALSE NEIGHBOUR: 'it returns false'. Refute it at one input. -/
def exportTellsWrong : ChangeSpec := { name := "exportTells", fn := fun _ => fun
  | [d1, d2, d3, d4, d5] => { results := [.lit (.bool false)], args := [d1, d2, d3, d4, d5] }
  | _ => none }
def ExportTellsWrongFalsely : Prop := exportTellsRow.holds Try.pinned (OpenSpec.ofChange exportTellsWrong)

/-- 'interregnumlaw16.ExportLoops': WHATEVER THE INPUT: true; the input reads as it did. -/
def exportLoopsSpec : ChangeSpec := { name := "exportLoops", fn := fun _ => fun
  | [d1, d2, d3, d4] => { results := [.lit (.bool true)], args := [d1, d2, d3, d4] }
  | _ => none }
def exportLoopsRow : OpenClaim := { program := "ytjdebhkdbdbepaa", sum := "4ae860c278a285302956f9734a9a9a7152964218c99edbee3a2fbb2956ff852b", func := "interregnum/interregnumlaw16.ExportLoops", spec := "exportLoops", unfollowed := true, recurses := true, apart := false }
def ExportLoopsSaid : Prop := exportLoopsRow.holds Try.pinned (OpenSpec.ofChange exportLoopsSpec)

/-- ITS FALSE NEIGHBOUR: 'it returns false'. Refute it at one input. -/
def exportLoopsWrong : ChangeSpec := { name := "exportLoops", fn := fun _ => fun
  | [d1, d2, d3, d4] => { results := [.lit (.bool false)], args := [d1, d2, d3, d4] }
  | _ => none }
def ExportLoopsWrongFalsely : Prop := exportLoopsRow.holds Try.pinned (OpenSpec.ofChange exportLoopsWrong)

/-- 'interregnumlaw16.ExportDelta': WHATEVER THE INPUT: true; the input reads as it did. -/
def exportDeltaSpec : ChangeSpec := { name := "exportDelta", fn := fun _ => fun
  | [d1, d2] => { results := [.lit (.bool true)], args := [d1, d2] }
  | _ => none }
def exportDeltaRow : OpenClaim := { program := "ytjdebhkdbdbepaa", sum := "4ae860c278a285302956f9734a9a9a7152964218c99edbee3a2fbb2956ff852b", func := "interregnum/interregnumlaw16.ExportDelta", spec := "exportDelta", unfollowed := true, recurses := true, apart := false }
def ExportDeltaSaid : Prop := exportDeltaRow.holds Try.pinned (OpenSpec.ofChange exportDeltaSpec)

/-- ITS FALSE NEIGHBOUR: 'it returns false'. Refute it at one input. -/
def exportDeltaWrong : ChangeSpec := { name := "exportDelta", fn := fun _ => fun
  | [d1, d2] => { results := [.lit (.bool false)], args := [d1, d2] }
  | _ => none }
def ExportDeltaWrongFalsely : Prop := exportDeltaRow.holds Try.pinned (OpenSpec.ofChange exportDeltaWrong)

/-- 'interregnumlaw16.ExportGone': WHATEVER THE INPUT: true; the input reads as it did. -/
def exportGoneSpec : ChangeSpec := { name := "exportGone", fn := fun _ => fun
  | [d] => { results := [.lit (.bool true)], args := [d] }
  | _ => none }
def exportGoneRow : OpenClaim := { program := "ytjdebhkdbdbepaa", sum := "4ae860c278a285302956f9734a9a9a7152964218c99edbee3a2fbb2956ff852b", func := "interregnum/interregnumlaw16.ExportGone", spec := "exportGone", unfollowed := true, recurses := true, apart := false }
def ExportGoneSaid : Prop := exportGoneRow.holds Try.pinned (OpenSpec.ofChange exportGoneSpec)

/-- ITS FALSE NEIGHBOUR: 'it returns false'. Refute it at one input. -/
def exportGoneWrong : ChangeSpec := { name := "exportGone", fn := fun _ => fun
  | [d] => { results := [.lit (.bool false)], args := [d] }
  | _ => none }
def ExportGoneWrongFalsely : Prop := exportGoneRow.holds Try.pinned (OpenSpec.ofChange exportGoneWrong)

/-- 'interregnumlaw16.ExportStatic': WHATEVER THE INPUT: true; the input reads as it did. -/
def exportStaticSpec : ChangeSpec := { name := "exportStatic", fn := fun _ => fun
  | [d1, d2, d3, d4] => { results := [.lit (.bool true)], args := [d1, d2, d3, d4] }
  | _ => none }
def exportStaticRow : OpenClaim := { program := "ytjdebhkdbdbepaa", sum := "4ae860c278a285302956f9734a9a9a7152964218c99edbee3a2fbb2956ff852b", func := "interregnum/interregnumlaw16.ExportStatic", spec := "exportStatic", unfollowed := true, recurses := true, apart := false }
def ExportStaticSaid : Prop := exportStaticRow.holds Try.pinned (OpenSpec.ofChange exportStaticSpec)

/-- ITS FALSE NEIGHBOUR: 'it returns false'. Refute it at one input. -/
def exportStaticWrong : ChangeSpec := { name := "exportStatic", fn := fun _ => fun
  | [d1, d2, d3, d4] => { results := [.lit (.bool false)], args := [d1, d2, d3, d4] }
  | _ => none }
def ExportStaticWrongFalsely : Prop := exportStaticRow.holds Try.pinned (OpenSpec.ofChange exportStaticWrong)

/- THE SECOND FORM. 'bulk': how many values and letters a reading holds, each counted each time it is reached (what is shared counts as often as it is met; a slice's spare places count too). A statement '..UptoSaid' is the law's where the arguments, and the package variables that the reading takes, are together of bulk at most 1048576: NARROWER than '..Said'. Prove '..Said' where nothing that the law and all that it calls make is longer than what came in: it says more and counts as full. Else prove '..UptoSaid'. A law counts once. -/
mutual
def uptoBulk {H : Type} : DataW H → Nat
  | .lit (.string bytes) => bytes.length + 1
  | .lit _ => 1
  | .nil => 1
  | .ptr d => uptoBulk d + 1
  | .slice elems spare => uptoBulkAll elems + uptoBulkAll spare + 1
  | .agg parts => uptoBulkAll parts + 1
  | .iface _ d => uptoBulk d + 1
  | .map entries => uptoBulkEntries entries + 1
  | .held _ => 1
def uptoBulkAll {H : Type} : List (DataW H) → Nat
  | [] => 0
  | d :: r => uptoBulk d + uptoBulkAll r
def uptoBulkEntries {H : Type} : List (Lit × DataW H) → Nat
  | [] => 0
  | x :: r => uptoBulkEntry x + uptoBulkEntries r
def uptoBulkEntry {H : Type} : Lit × DataW H → Nat
  | (.string bytes, d) => bytes.length + uptoBulk d + 1
  | (_, d) => uptoBulk d + 1
 end
def uptoSmall : (H : Type) → List (DataW H) → Bool := fun _ ds => decide (uptoBulkAll ds ≤ 1048576)
def OpenSpec.upto (s : _root_.Go.ChangeSpec) : _root_.Go.OpenSpec := { _root_.Go.OpenSpec.ofChange s with cond := some uptoSmall }

/-- 'interregnumlaw16.ExportTells', WHERE WHAT IT READS IS OF BULK AT MOST 1048576: true; the input reads as it did. -/
def exportTellsUptoRow : OpenClaim := { program := "ytjdebhkdbdbepaa", sum := "4ae860c278a285302956f9734a9a9a7152964218c99edbee3a2fbb2956ff852b", func := "interregnum/interregnumlaw16.ExportTells", spec := "exportTells", unfollowed := true, recurses := true, apart := false, narrowed := true }
def ExportTellsUptoSaid : Prop := exportTellsUptoRow.holds Try.pinned (OpenSpec.upto exportTellsSpec)

/-- 'interregnumlaw16.ExportLoops', WHERE WHAT IT READS IS OF BULK AT MOST 1048576: true; the input reads as it did. -/
def exportLoopsUptoRow : OpenClaim := { program := "ytjdebhkdbdbepaa", sum := "4ae860c278a285302956f9734a9a9a7152964218c99edbee3a2fbb2956ff852b", func := "interregnum/interregnumlaw16.ExportLoops", spec := "exportLoops", unfollowed := true, recurses := true, apart := false, narrowed := true }
def ExportLoopsUptoSaid : Prop := exportLoopsUptoRow.holds Try.pinned (OpenSpec.upto exportLoopsSpec)

/-- 'interregnumlaw16.ExportDelta', WHERE WHAT IT READS IS OF BULK AT MOST 1048576: true; the input reads as it did. -/
def exportDeltaUptoRow : OpenClaim := { program := "ytjdebhkdbdbepaa", sum := "4ae860c278a285302956f9734a9a9a7152964218c99edbee3a2fbb2956ff852b", func := "interregnum/interregnumlaw16.ExportDelta", spec := "exportDelta", unfollowed := true, recurses := true, apart := false, narrowed := true }
def ExportDeltaUptoSaid : Prop := exportDeltaUptoRow.holds Try.pinned (OpenSpec.upto exportDeltaSpec)

/-- 'interregnumlaw16.ExportGone', WHERE WHAT IT READS IS OF BULK AT MOST 1048576: true; the input reads as it did. -/
def exportGoneUptoRow : OpenClaim := { program := "ytjdebhkdbdbepaa", sum := "4ae860c278a285302956f9734a9a9a7152964218c99edbee3a2fbb2956ff852b", func := "interregnum/interregnumlaw16.ExportGone", spec := "exportGone", unfollowed := true, recurses := true, apart := false, narrowed := true }
def ExportGoneUptoSaid : Prop := exportGoneUptoRow.holds Try.pinned (OpenSpec.upto exportGoneSpec)

/-- 'interregnumlaw16.ExportStatic', WHERE WHAT IT READS IS OF BULK AT MOST 1048576: true; the input reads as it did. -/
def exportStaticUptoRow : OpenClaim := { program := "ytjdebhkdbdbepaa", sum := "4ae860c278a285302956f9734a9a9a7152964218c99edbee3a2fbb2956ff852b", func := "interregnum/interregnumlaw16.ExportStatic", spec := "exportStatic", unfollowed := true, recurses := true, apart := false, narrowed := true }
def ExportStaticUptoSaid : Prop := exportStaticUptoRow.holds Try.pinned (OpenSpec.upto exportStaticSpec)

end Rows
end Go.Proofs.Ytjdebhkdbdbepaa
