/-
  No cell of these rows narrows 'for every input' (looked for: loops, veiled, ifaces, maps, wideKeys, modest, calm, conditions, laid).
  DERIVED. THE GIVEN ROWS OF THIS SEAT. 9 by the template 'for every input the law returns true; each argument reads behind the call as it read before'; 0 by the template 'total and deterministic' (their statements: YtpkckkmgnlhhcaaTotals.lean).
  GIVEN WITH THE SEED: the statements are not yours to turn. If you find one false, say at which input.
  Laid BY PROGRAM, IN A SANDBOX (cutbox-rows.mjs): the forced cells as the released guide's own fill.sh prints them over the translation 1de8aa6149e495db… (all of the seat's roots in one cut). By AI agents, Wed Nov 11 2026. No macro, syntax, notation, axiom, sorry.
-/
import Derived.Test.YtpkckkmgnlhhcaaChecked
import GoSem.Claim
import GoSem.ClaimJoined
import GoSem.ClaimMapViews
import Derived.JoinedTies
import Derived.KernelRfl
namespace Go.Proofs.Ytpkckkmgnlhhcaa
/- THE CELL 'sum', in the pinned program and in every row, IS THE sha256 OF THE DUMP (.gsa) THAT YtpkckkmgnlhhcaaProg.lean LOADS. Nothing in Lean hashes anything: it is a label: what it is worth is what the hold of that sum in a sandbox is worth. -/
noncomputable def Try.pinned : Pinned := { name := "ytpkckkmgnlhhcaa", sum := "1de8aa6149e495db4e0b948a605331ed060619b3fb66607172ffd98b9c361ea5", checked := Try.checked }
namespace Rows
def none {H : Type} : Left H := { results := [], args := [] }

/-- 'interregnumlaw06.PathBack': WHATEVER THE INPUT: true; the input reads as it did. -/
def pathBackSpec : ChangeSpec := { name := "pathBack", fn := fun _ => fun
  | [d] => { results := [.lit (.bool true)], args := [d] }
  | _ => none }
def pathBackRow : OpenClaim := { program := "ytpkckkmgnlhhcaa", sum := "1de8aa6149e495db4e0b948a605331ed060619b3fb66607172ffd98b9c361ea5", func := "interregnum/interregnumlaw06.PathBack", spec := "pathBack", unfollowed := true, recurses := true, apart := false }
def PathBackSaid : Prop := pathBackRow.holds Try.pinned (OpenSpec.ofChange pathBackSpec)

/-- ITS FALSE NEIGHBOUR: 'it returns false'. Refute it at one input. -/
def pathBackWrong : ChangeSpec := { name := "pathBack", fn := fun _ => fun
  | [d] => { results := [.lit (.bool false)], args := [d] }
  | _ => none }
def PathBackWrongFalsely : Prop := pathBackRow.holds Try.pinned (OpenSpec.ofChange pathBackWrong)

/-- 'interregnumlaw06.PathReads': WHATEVER THE INPUT: true; the input reads as it did. -/
def pathReadsSpec : ChangeSpec := { name := "pathReads", fn := fun _ => fun
  | [d] => { results := [.lit (.bool true)], args := [d] }
  | _ => none }
def pathReadsRow : OpenClaim := { program := "ytpkckkmgnlhhcaa", sum := "1de8aa6149e495db4e0b948a605331ed060619b3fb66607172ffd98b9c361ea5", func := "interregnum/interregnumlaw06.PathReads", spec := "pathReads", unfollowed := true, recurses := true, apart := false }
def PathReadsSaid : Prop := pathReadsRow.holds Try.pinned (OpenSpec.ofChange pathReadsSpec)

/-- ITS FALSE NEIGHBOUR: 'it returns false'. Refute it at one input. -/
def pathReadsWrong : ChangeSpec := { name := "pathReads", fn := fun _ => fun
  | [d] => { results := [.lit (.bool false)], args := [d] }
  | _ => none }
def PathReadsWrongFalsely : Prop := pathReadsRow.holds Try.pinned (OpenSpec.ofChange pathReadsWrong)

/-- 'interregnumlaw06.PathTells': WHATEVER THE INPUT: true; the input reads as it did. -/
def pathTellsSpec : ChangeSpec := { name := "pathTells", fn := fun _ => fun
  | [d1, d2] => { results := [.lit (.bool true)], args := [d1, d2] }
  | _ => none }
def pathTellsRow : OpenClaim := { program := "ytpkckkmgnlhhcaa", sum := "1de8aa6149e495db4e0b948a605331ed060619b3fb66607172ffd98b9c361ea5", func := "interregnum/interregnumlaw06.PathTells", spec := "pathTells", unfollowed := true, recurses := true, apart := false }
def PathTellsSaid : Prop := pathTellsRow.holds Try.pinned (OpenSpec.ofChange pathTellsSpec)

/-- ITS FALSE NEIGHBOUR: 'it returns false'. Refute it at one input. -/
def pathTellsWrong : ChangeSpec := { name := "pathTells", fn := fun _ => fun
  | [d1, d2] => { results := [.lit (.bool false)], args := [d1, d2] }
  | _ => none }
def PathTellsWrongFalsely : Prop := pathTellsRow.holds Try.pinned (OpenSpec.ofChange pathTellsWrong)

/-- 'interregnumlaw06.PathLong': WHATEVER THE INPUT: true; the input reads as it did. -/
def pathLongSpec : ChangeSpec := { name := "pathLong", fn := fun _ => fun
  | [d1, d2, d3] => { results := [.lit (.bool true)], args := [d1, d2, d3] }
  | _ => none }
def pathLongRow : OpenClaim := { program := "ytpkckkmgnlhhcaa", sum := "1de8aa6149e495db4e0b948a605331ed060619b3fb66607172ffd98b9c361ea5", func := "interregnum/interregnumlaw06.PathLong", spec := "pathLong", unfollowed := true, recurses := true, apart := false }
def PathLongSaid : Prop := pathLongRow.holds Try.pinned (OpenSpec.ofChange pathLongSpec)

/-- ITS FALSE NEIGHBOUR: 'it returns false'. Refute it at one input. -/
def pathLongWrong : ChangeSpec := { name := "pathLong", fn := fun _ => fun
  | [d1, d2, d3] => { results := [.lit (.bool false)], args := [d1, d2, d3] }
  | _ => none }
def PathLongWrongFalsely : Prop := pathLongRow.holds Try.pinned (OpenSpec.ofChange pathLongWrong)

/-- 'interregnumlaw13.RouteMarks': WHATEVER THE INPUT: true; the input reads as it did. -/
def routeMarksSpec : ChangeSpec := { name := "routeMarks", fn := fun _ => fun
  | [d1, d2] => { results := [.lit (.bool true)], args := [d1, d2] }
  | _ => none }
def routeMarksRow : OpenClaim := { program := "ytpkckkmgnlhhcaa", sum := "1de8aa6149e495db4e0b948a605331ed060619b3fb66607172ffd98b9c361ea5", func := "interregnum/interregnumlaw13.RouteMarks", spec := "routeMarks", unfollowed := true, recurses := true, apart := false }
def RouteMarksSaid : Prop := routeMarksRow.holds Try.pinned (OpenSpec.ofChange routeMarksSpec)

/-- ITS FALSE NEIGHBOUR: 'it returns false'. Refute it at one input. -/
def routeMarksWrong : ChangeSpec := { name := "routeMarks", fn := fun _ => fun
  | [d1, d2] => { results := [.lit (.bool false)], args := [d1, d2] }
  | _ => none }
def RouteMarksWrongFalsely : Prop := routeMarksRow.holds Try.pinned (OpenSpec.ofChange routeMarksWrong)

/-- 'interregnumlaw13.RouteSame': WHATEVER THE INPUT: true; the input reads as it did. -/
def routeSameSpec : ChangeSpec := { name := "routeSame", fn := fun _ => fun
  | [d1, d2, d3, d4] => { results := [.lit (.bool true)], args := [d1, d2, d3, d4] }
  | _ => none }
def routeSameRow : OpenClaim := { program := "ytpkckkmgnlhhcaa", sum := "1de8aa6149e495db4e0b948a605331ed060619b3fb66607172ffd98b9c361ea5", func := "interregnum/interregnumlaw13.RouteSame", spec := "routeSame", unfollowed := true, recurses := true, apart := false }
def RouteSameSaid : Prop := routeSameRow.holds Try.pinned (OpenSpec.ofChange routeSameSpec)

/-- ITS FALSE NEIGHBOUR: 'it returns false'. Refute it at one input. -/
def routeSameWrong : ChangeSpec := { name := "routeSame", fn := fun _ => fun
  | [d1, d2, d3, d4] => { results := [.lit (.bool false)], args := [d1, d2, d3, d4] }
  | _ => none }
def RouteSameWrongFalsely : Prop := routeSameRow.holds Try.pinned (OpenSpec.ofChange routeSameWrong)

/-- 'interregnumlaw13.RouteOwn': WHATEVER THE INPUT: true; the input reads as it did. -/
def routeOwnSpec : ChangeSpec := { name := "routeOwn", fn := fun _ => fun
  | [d] => { results := [.lit (.bool true)], args := [d] }
  | _ => none }
def routeOwnRow : OpenClaim := { program := "ytpkckkmgnlhhcaa", sum := "1de8aa6149e495db4e0b948a605331ed060619b3fb66607172ffd98b9c361ea5", func := "interregnum/interregnumlaw13.RouteOwn", spec := "routeOwn", unfollowed := true, recurses := true, apart := false }
def RouteOwnSaid : Prop := routeOwnRow.holds Try.pinned (OpenSpec.ofChange routeOwnSpec)

/-- ITS FALSE NEIGHBOUR: 'it returns false'. Refute it at one input. -/
def routeOwnWrong : ChangeSpec := { name := "routeOwn", fn := fun _ => fun
  | [d] => { results := [.lit (.bool false)], args := [d] }
  | _ => none }
def RouteOwnWrongFalsely : Prop := routeOwnRow.holds Try.pinned (OpenSpec.ofChange routeOwnWrong)

/-- 'interregnumlaw13.RouteStatic': WHATEVER THE INPUT: true; the input reads as it did. -/
def routeStaticSpec : ChangeSpec := { name := "routeStatic", fn := fun _ => fun
  | [d1, d2] => { results := [.lit (.bool true)], args := [d1, d2] }
  | _ => none }
def routeStaticRow : OpenClaim := { program := "ytpkckkmgnlhhcaa", sum := "1de8aa6149e495db4e0b948a605331ed060619b3fb66607172ffd98b9c361ea5", func := "interregnum/interregnumlaw13.RouteStatic", spec := "routeStatic", unfollowed := true, recurses := true, apart := false }
def RouteStaticSaid : Prop := routeStaticRow.holds Try.pinned (OpenSpec.ofChange routeStaticSpec)

/-- ITS FALSE NEIGHBOUR: 'it returns false'. Refute it at one input. -/
def routeStaticWrong : ChangeSpec := { name := "routeStatic", fn := fun _ => fun
  | [d1, d2] => { results := [.lit (.bool false)], args := [d1, d2] }
  | _ => none }
def RouteStaticWrongFalsely : Prop := routeStaticRow.holds Try.pinned (OpenSpec.ofChange routeStaticWrong)

/-- 'interregnumlaw06.PathPrepends': WHATEVER THE INPUT: true; the input reads as it did. -/
def pathPrependsSpec : ChangeSpec := { name := "pathPrepends", fn := fun _ => fun
  | [d1, d2] => { results := [.lit (.bool true)], args := [d1, d2] }
  | _ => none }
def pathPrependsRow : OpenClaim := { program := "ytpkckkmgnlhhcaa", sum := "1de8aa6149e495db4e0b948a605331ed060619b3fb66607172ffd98b9c361ea5", func := "interregnum/interregnumlaw06.PathPrepends", spec := "pathPrepends", unfollowed := true, recurses := true, apart := false }
def PathPrependsSaid : Prop := pathPrependsRow.holds Try.pinned (OpenSpec.ofChange pathPrependsSpec)

/-- ITS FALSE NEIGHBOUR: 'it returns false'. Refute it at one input. -/
def pathPrependsWrong : ChangeSpec := { name := "pathPrepends", fn := fun _ => fun
  | [d1, d2] => { results := [.lit (.bool false)], args := [d1, d2] }
  | _ => none }
def PathPrependsWrongFalsely : Prop := pathPrependsRow.holds Try.pinned (OpenSpec.ofChange pathPrependsWrong)

/- THE SECOND FORM. 'bulk': how many values and letters a reading holds, each counted each time it is reached (what is shared counts as often as it is met; a slice's spare places count too). A statement '..UptoSaid' is the law's where the arguments, and the package variables that the reading takes, are together of bulk at most 1048576: NARROWER than '..Said'. Prove '..Said' where nothing that the law and all that it calls make is longer than what came in: it says more and counts as full. Else prove '..UptoSaid'. A law counts once. -/
mutual
def uptoBulk {H : Type} : DataW H → Nat
  | .lit (.string bytes) => bytes.length + 1
  | .lit _ => 1
  | .nil => 1
  | .ptr d => uptoBulk d + 1
  | .slice elems spare => uptoBulkAll elems + uptoBulkAll spare + 1
  | .agg parts => uptoBulkAll parts + 1
  | .iface _ d => uptoBulk d + 1
  | .map entries => uptoBulkEntries entries + 1
  | .held _ => 1
def uptoBulkAll {H : Type} : List (DataW H) → Nat
  | [] => 0
  | d :: r => uptoBulk d + uptoBulkAll r
def uptoBulkEntries {H : Type} : List (Lit × DataW H) → Nat
  | [] => 0
  | x :: r => uptoBulkEntry x + uptoBulkEntries r
def uptoBulkEntry {H : Type} : Lit × DataW H → Nat
  | (.string bytes, d) => bytes.length + uptoBulk d + 1
  | (_, d) => uptoBulk d + 1
 end
def uptoSmall : (H : Type) → List (DataW H) → Bool := fun _ ds => decide (uptoBulkAll ds ≤ 1048576)
def OpenSpec.upto (s : _root_.Go.ChangeSpec) : _root_.Go.OpenSpec := { _root_.Go.OpenSpec.ofChange s with cond := some uptoSmall }

/-- 'interregnumlaw06.PathBack', WHERE WHAT IT READS IS OF BULK AT MOST 1048576: true; the input reads as it did. -/
def pathBackUptoRow : OpenClaim := { program := "ytpkckkmgnlhhcaa", sum := "1de8aa6149e495db4e0b948a605331ed060619b3fb66607172ffd98b9c361ea5", func := "interregnum/interregnumlaw06.PathBack", spec := "pathBack", unfollowed := true, recurses := true, apart := false, narrowed := true }
def PathBackUptoSaid : Prop := pathBackUptoRow.holds Try.pinned (OpenSpec.upto pathBackSpec)

/-- 'interregnumlaw06.PathReads', WHERE WHAT IT READS IS OF BULK AT MOST 1048576: true; the input reads as it did. -/
def pathReadsUptoRow : OpenClaim := { program := "ytpkckkmgnlhhcaa", sum := "1de8aa6149e495db4e0b948a605331ed060619b3fb66607172ffd98b9c361ea5", func := "interregnum/interregnumlaw06.PathReads", spec := "pathReads", unfollowed := true, recurses := true, apart := false, narrowed := true }
def PathReadsUptoSaid : Prop := pathReadsUptoRow.holds Try.pinned (OpenSpec.upto pathReadsSpec)

/-- 'interregnumlaw06.PathTells', WHERE WHAT IT READS IS OF BULK AT MOST 1048576: true; the input reads as it did. -/
def pathTellsUptoRow : OpenClaim := { program := "ytpkckkmgnlhhcaa", sum := "1de8aa6149e495db4e0b948a605331ed060619b3fb66607172ffd98b9c361ea5", func := "interregnum/interregnumlaw06.PathTells", spec := "pathTells", unfollowed := true, recurses := true, apart := false, narrowed := true }
def PathTellsUptoSaid : Prop := pathTellsUptoRow.holds Try.pinned (OpenSpec.upto pathTellsSpec)

/-- 'interregnumlaw06.PathLong', WHERE WHAT IT READS IS OF BULK AT MOST 1048576: true; the input reads as it did. -/
def pathLongUptoRow : OpenClaim := { program := "ytpkckkmgnlhhcaa", sum := "1de8aa6149e495db4e0b948a605331ed060619b3fb66607172ffd98b9c361ea5", func := "interregnum/interregnumlaw06.PathLong", spec := "pathLong", unfollowed := true, recurses := true, apart := false, narrowed := true }
def PathLongUptoSaid : Prop := pathLongUptoRow.holds Try.pinned (OpenSpec.upto pathLongSpec)

/-- 'interregnumlaw13.RouteMarks', WHERE WHAT IT READS IS OF BULK AT MOST 1048576: true; the input reads as it did. -/
def routeMarksUptoRow : OpenClaim := { program := "ytpkckkmgnlhhcaa", sum := "1de8aa6149e495db4e0b948a605331ed060619b3fb66607172ffd98b9c361ea5", func := "interregnum/interregnumlaw13.RouteMarks", spec := "routeMarks", unfollowed := true, recurses := true, apart := false, narrowed := true }
def RouteMarksUptoSaid : Prop := routeMarksUptoRow.holds Try.pinned (OpenSpec.upto routeMarksSpec)

/-- 'interregnumlaw13.RouteSame', WHERE WHAT IT READS IS OF BULK AT MOST 1048576: true; the input reads as it did. -/
def routeSameUptoRow : OpenClaim := { program := "ytpkckkmgnlhhcaa", sum := "1de8aa6149e495db4e0b948a605331ed060619b3fb66607172ffd98b9c361ea5", func := "interregnum/interregnumlaw13.RouteSame", spec := "routeSame", unfollowed := true, recurses := true, apart := false, narrowed := true }
def RouteSameUptoSaid : Prop := routeSameUptoRow.holds Try.pinned (OpenSpec.upto routeSameSpec)

/-- 'interregnumlaw13.RouteOwn', WHERE WHAT IT READS IS OF BULK AT MOST 1048576: true; the input reads as it did. -/
def routeOwnUptoRow : OpenClaim := { program := "ytpkckkmgnlhhcaa", sum := "1de8aa6149e495db4e0b948a605331ed060619b3fb66607172ffd98b9c361ea5", func := "interregnum/interregnumlaw13.RouteOwn", spec := "routeOwn", unfollowed := true, recurses := true, apart := false, narrowed := true }
def RouteOwnUptoSaid : Prop := routeOwnUptoRow.holds Try.pinned (OpenSpec.upto routeOwnSpec)

/-- 'interregnumlaw13.RouteStatic', WHERE WHAT IT READS IS OF BULK AT MOST 1048576: true; the input reads as it did. -/
def routeStaticUptoRow : OpenClaim := { program := "ytpkckkmgnlhhcaa", sum := "1de8aa6149e495db4e0b948a605331ed060619b3fb66607172ffd98b9c361ea5", func := "interregnum/interregnumlaw13.RouteStatic", spec := "routeStatic", unfollowed := true, recurses := true, apart := false, narrowed := true }
def RouteStaticUptoSaid : Prop := routeStaticUptoRow.holds Try.pinned (OpenSpec.upto routeStaticSpec)

/-- 'interregnumlaw06.PathPrepends', WHERE WHAT IT READS IS OF BULK AT MOST 1048576: true; the input reads as it did. -/
def pathPrependsUptoRow : OpenClaim := { program := "ytpkckkmgnlhhcaa", sum := "1de8aa6149e495db4e0b948a605331ed060619b3fb66607172ffd98b9c361ea5", func := "interregnum/interregnumlaw06.PathPrepends", spec := "pathPrepends", unfollowed := true, recurses := true, apart := false, narrowed := true }
def PathPrependsUptoSaid : Prop := pathPrependsUptoRow.holds Try.pinned (OpenSpec.upto pathPrependsSpec)

end Rows
end Go.Proofs.Ytpkckkmgnlhhcaa
