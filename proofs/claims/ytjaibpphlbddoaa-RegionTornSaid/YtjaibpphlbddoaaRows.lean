/-
  No cell of these rows narrows 'for every input' (looked for: loops, veiled, ifaces, maps, wideKeys, modest, calm, conditions, laid).
  DERIVED. THE GIVEN ROWS OF THIS SEAT. 9 by the template 'for every input the law returns true; each argument reads behind the call as it read before'; 0 by the template 'total and deterministic' (their statements: YtjaibpphlbddoaaTotals.lean).
  GIVEN WITH THE SEED: the statements are not yours to turn. If you find one false, say at which input.
  Laid BY PROGRAM, IN A SANDBOX (cutbox-rows.mjs): the forced cells as the released guide's own fill.sh prints them over the translation 4e317b5d27fea991… (all of the seat's roots in one cut). By AI agents, Wed Nov 11 2026. No macro, syntax, notation, axiom, sorry.
-/
import Derived.Test.YtjaibpphlbddoaaChecked
import GoSem.Claim
import GoSem.ClaimJoined
import GoSem.ClaimMapViews
import Derived.JoinedTies
import Derived.KernelRfl
namespace Go.Proofs.Ytjaibpphlbddoaa
/- THE CELL 'sum', in the pinned program and in every row, IS THE sha256 OF THE DUMP (.gsa) THAT YtjaibpphlbddoaaProg.lean LOADS. Nothing in Lean hashes anything: it is a label: what it is worth is what the hold of that sum in a sandbox is worth. -/
noncomputable def Try.pinned : Pinned := { name := "ytjaibpphlbddoaa", sum := "4e317b5d27fea991745dafed7d7540a37551dfb3db10038dd8f01c88addffba6", checked := Try.checked }
namespace Rows
def none {H : Type} : Left H := { results := [], args := [] }

/-- 'interregnumlaw02.SectorLands': WHATEVER THE INPUT: true; the input reads as it did. -/
def sectorLandsSpec : ChangeSpec := { name := "sectorLands", fn := fun _ => fun
  | [d1, d2] => { results := [.lit (.bool true)], args := [d1, d2] }
  | _ => none }
def sectorLandsRow : OpenClaim := { program := "ytjaibpphlbddoaa", sum := "4e317b5d27fea991745dafed7d7540a37551dfb3db10038dd8f01c88addffba6", func := "interregnum/interregnumlaw02.SectorLands", spec := "sectorLands", apart := false }
def SectorLandsSaid : Prop := sectorLandsRow.holds Try.pinned (OpenSpec.ofChange sectorLandsSpec)

/-- ITS FALSE NEIGHBOUR: 'it returns false'. Refute it at one input. -/
def sectorLandsWrong : ChangeSpec := { name := "sectorLands", fn := fun _ => fun
  | [d1, d2] => { results := [.lit (.bool false)], args := [d1, d2] }
  | _ => none }
def SectorLandsWrongFalsely : Prop := sectorLandsRow.holds Try.pinned (OpenSpec.ofChange sectorLandsWrong)

/-- 'interregnumlaw02.SectorTorn': WHATEVER THE INPUT: true; the input reads as it did. -/
def sectorTornSpec : ChangeSpec := { name := "sectorTorn", fn := fun _ => fun
  | [d1, d2, d3, d4] => { results := [.lit (.bool true)], args := [d1, d2, d3, d4] }
  | _ => none }
def sectorTornRow : OpenClaim := { program := "ytjaibpphlbddoaa", sum := "4e317b5d27fea991745dafed7d7540a37551dfb3db10038dd8f01c88addffba6", func := "interregnum/interregnumlaw02.SectorTorn", spec := "sectorTorn", apart := false }
def SectorTornSaid : Prop := sectorTornRow.holds Try.pinned (OpenSpec.ofChange sectorTornSpec)

/-- ITS FALSE NEIGHBOUR: 'it returns false'. Refute it at one input. -/
def sectorTornWrong : ChangeSpec := { name := "sectorTorn", fn := fun _ => fun
  | [d1, d2, d3, d4] => { results := [.lit (.bool false)], args := [d1, d2, d3, d4] }
  | _ => none }
def SectorTornWrongFalsely : Prop := sectorTornRow.holds Try.pinned (OpenSpec.ofChange sectorTornWrong)

/-- 'interregnumlaw02.SectorFlush': WHATEVER THE INPUT: true; the input reads as it did. -/
def sectorFlushSpec : ChangeSpec := { name := "sectorFlush", fn := fun _ => fun
  | [d1, d2, d3, d4, d5] => { results := [.lit (.bool true)], args := [d1, d2, d3, d4, d5] }
  | _ => none }
def sectorFlushRow : OpenClaim := { program := "ytjaibpphlbddoaa", sum := "4e317b5d27fea991745dafed7d7540a37551dfb3db10038dd8f01c88addffba6", func := "interregnum/interregnumlaw02.SectorFlush", spec := "sectorFlush", apart := false }
def SectorFlushSaid : Prop := sectorFlushRow.holds Try.pinned (OpenSpec.ofChange sectorFlushSpec)

/-- ITS FALSE NEIGHBOUR: 'it returns false'. Refute it at one input. -/
def sectorFlushWrong : ChangeSpec := { name := "sectorFlush", fn := fun _ => fun
  | [d1, d2, d3, d4, d5] => { results := [.lit (.bool false)], args := [d1, d2, d3, d4, d5] }
  | _ => none }
def SectorFlushWrongFalsely : Prop := sectorFlushRow.holds Try.pinned (OpenSpec.ofChange sectorFlushWrong)

/-- 'interregnumlaw02.SectorFuse': WHATEVER THE INPUT: true; the input reads as it did. -/
def sectorFuseSpec : ChangeSpec := { name := "sectorFuse", fn := fun _ => fun
  | [d1, d2] => { results := [.lit (.bool true)], args := [d1, d2] }
  | _ => none }
def sectorFuseRow : OpenClaim := { program := "ytjaibpphlbddoaa", sum := "4e317b5d27fea991745dafed7d7540a37551dfb3db10038dd8f01c88addffba6", func := "interregnum/interregnumlaw02.SectorFuse", spec := "sectorFuse", apart := false }
def SectorFuseSaid : Prop := sectorFuseRow.holds Try.pinned (OpenSpec.ofChange sectorFuseSpec)

/-- ITS FALSE NEIGHBOUR: 'it returns false'. Refute it at one input. -/
def sectorFuseWrong : ChangeSpec := { name := "sectorFuse", fn := fun _ => fun
  | [d1, d2] => { results := [.lit (.bool false)], args := [d1, d2] }
  | _ => none }
def SectorFuseWrongFalsely : Prop := sectorFuseRow.holds Try.pinned (OpenSpec.ofChange sectorFuseWrong)

/-- 'interregnumlaw02.SectorNone': WHATEVER THE INPUT: true; the input reads as it did. -/
def sectorNoneSpec : ChangeSpec := { name := "sectorNone", fn := fun _ => fun
  | [d1, d2] => { results := [.lit (.bool true)], args := [d1, d2] }
  | _ => none }
def sectorNoneRow : OpenClaim := { program := "ytjaibpphlbddoaa", sum := "4e317b5d27fea991745dafed7d7540a37551dfb3db10038dd8f01c88addffba6", func := "interregnum/interregnumlaw02.SectorNone", spec := "sectorNone", apart := false }
def SectorNoneSaid : Prop := sectorNoneRow.holds Try.pinned (OpenSpec.ofChange sectorNoneSpec)

/-- ITS FALSE NEIGHBOUR: 'it returns false'. Refute it at one input. -/
def sectorNoneWrong : ChangeSpec := { name := "sectorNone", fn := fun _ => fun
  | [d1, d2] => { results := [.lit (.bool false)], args := [d1, d2] }
  | _ => none }
def SectorNoneWrongFalsely : Prop := sectorNoneRow.holds Try.pinned (OpenSpec.ofChange sectorNoneWrong)

/-- 'interregnumlaw03.RegionOther': WHATEVER THE INPUT: true; the input reads as it did. -/
def regionOtherSpec : ChangeSpec := { name := "regionOther", fn := fun _ => fun
  | [d1, d2, d3] => { results := [.lit (.bool true)], args := [d1, d2, d3] }
  | _ => none }
def regionOtherRow : OpenClaim := { program := "ytjaibpphlbddoaa", sum := "4e317b5d27fea991745dafed7d7540a37551dfb3db10038dd8f01c88addffba6", func := "interregnum/interregnumlaw03.RegionOther", spec := "regionOther", inPlace := ["internal/bytealg.Count", "internal/bytealg.IndexByte", "internal/bytealg.Index"], named := ["internal/bytealg.MaxLen"], apart := false }
def RegionOtherSaid : Prop := regionOtherRow.holds Try.pinned (OpenSpec.ofChange regionOtherSpec)

/-- ITS FALSE NEIGHBOUR: 'it returns false'. Refute it at one input. -/
def regionOtherWrong : ChangeSpec := { name := "regionOther", fn := fun _ => fun
  | [d1, d2, d3] => { results := [.lit (.bool false)], args := [d1, d2, d3] }
  | _ => none }
def RegionOtherWrongFalsely : Prop := regionOtherRow.holds Try.pinned (OpenSpec.ofChange regionOtherWrong)

/-- 'interregnumlaw03.RegionClean': WHATEVER THE INPUT: true; the input reads as it did. -/
def regionCleanSpec : ChangeSpec := { name := "regionClean", fn := fun _ => fun
  | [d1, d2, d3] => { results := [.lit (.bool true)], args := [d1, d2, d3] }
  | _ => none }
def regionCleanRow : OpenClaim := { program := "ytjaibpphlbddoaa", sum := "4e317b5d27fea991745dafed7d7540a37551dfb3db10038dd8f01c88addffba6", func := "interregnum/interregnumlaw03.RegionClean", spec := "regionClean", inPlace := ["internal/bytealg.Count", "internal/bytealg.IndexByte", "internal/bytealg.Index"], named := ["internal/bytealg.MaxLen"], apart := false }
def RegionCleanSaid : Prop := regionCleanRow.holds Try.pinned (OpenSpec.ofChange regionCleanSpec)

/-- ITS FALSE NEIGHBOUR: 'it returns false'. Refute it at one input. -/
def regionCleanWrong : ChangeSpec := { name := "regionClean", fn := fun _ => fun
  | [d1, d2, d3] => { results := [.lit (.bool false)], args := [d1, d2, d3] }
  | _ => none }
def RegionCleanWrongFalsely : Prop := regionCleanRow.holds Try.pinned (OpenSpec.ofChange regionCleanWrong)

/-- 'interregnumlaw03.RegionTorn': WHATEVER THE INPUT: true; the input reads as it did. -/
def regionTornSpec : ChangeSpec := { name := "regionTorn", fn := fun _ => fun
  | [d1, d2, d3, d4, d5, d6] => { results := [.lit (.bool true)], args := [d1, d2, d3, d4, d5, d6] }
  | _ => none }
def regionTornRow : OpenClaim := { program := "ytjaibpphlbddoaa", sum := "4e317b5d27fea991745dafed7d7540a37551dfb3db10038dd8f01c88addffba6", func := "interregnum/interregnumlaw03.RegionTorn", spec := "regionTorn", inPlace := ["internal/bytealg.Count", "internal/bytealg.IndexByte", "internal/bytealg.Index"], named := ["internal/bytealg.MaxLen"], apart := false }
def RegionTornSaid : Prop := regionTornRow.holds Try.pinned (OpenSpec.ofChange regionTornSpec)

/-- ITS FALSE NEIGHBOUR: 'it returns false'. Refute it at one input. -/
def regionTornWrong : ChangeSpec := { name := "regionTorn", fn := fun _ => fun
  | [d1, d2, d3, d4, d5, d6] => { results := [.lit (.bool false)], args := [d1, d2, d3, d4, d5, d6] }
  | _ => none }
def RegionTornWrongFalsely : Prop := regionTornRow.holds Try.pinned (OpenSpec.ofChange regionTornWrong)

/-- 'interregnumlaw03.RegionReads': WHATEVER THE INPUT: true; the input reads as it did. -/
def regionReadsSpec : ChangeSpec := { name := "regionReads", fn := fun _ => fun
  | [d1, d2, d3, d4, d5] => { results := [.lit (.bool true)], args := [d1, d2, d3, d4, d5] }
  | _ => none }
def regionReadsRow : OpenClaim := { program := "ytjaibpphlbddoaa", sum := "4e317b5d27fea991745dafed7d7540a37551dfb3db10038dd8f01c88addffba6", func := "interregnum/interregnumlaw03.RegionReads", spec := "regionReads", inPlace := ["internal/bytealg.Count", "internal/bytealg.IndexByte", "internal/bytealg.Index"], named := ["internal/bytealg.MaxLen"], apart := false }
def RegionReadsSaid : Prop := regionReadsRow.holds Try.pinned (OpenSpec.ofChange regionReadsSpec)

/-- ITS FALSE NEIGHBOUR: 'it returns false'. Refute it at one input. -/
def regionReadsWrong : ChangeSpec := { name := "regionReads", fn := fun _ => fun
  | [d1, d2, d3, d4, d5] => { results := [.lit (.bool false)], args := [d1, d2, d3, d4, d5] }
  | _ => none }
def RegionReadsWrongFalsely : Prop := regionReadsRow.holds Try.pinned (OpenSpec.ofChange regionReadsWrong)

/- THE SECOND FORM. 'bulk': how many values and letters a reading holds, each counted each time it is reached (what is shared counts as often as it is met; a slice's spare places count too). A statement '..UptoSaid' is the law's where the arguments, and the package variables that the reading takes, are together of bulk at most 1048576: NARROWER than '..Said'. Prove '..Said' where nothing that the law and all that it calls make is longer than what came in: it says more and counts as full. Else prove '..UptoSaid'. A law counts once. -/
mutual
def uptoBulk {H : Type} : DataW H → Nat
  | .lit (.string bytes) => bytes.length + 1
  | .lit _ => 1
  | .nil => 1
  | .ptr d => uptoBulk d + 1
  | .slice elems spare => uptoBulkAll elems + uptoBulkAll spare + 1
  | .agg parts => uptoBulkAll parts + 1
  | .iface _ d => uptoBulk d + 1
  | .map entries => uptoBulkEntries entries + 1
  | .held _ => 1
def uptoBulkAll {H : Type} : List (DataW H) → Nat
  | [] => 0
  | d :: r => uptoBulk d + uptoBulkAll r
def uptoBulkEntries {H : Type} : List (Lit × DataW H) → Nat
  | [] => 0
  | x :: r => uptoBulkEntry x + uptoBulkEntries r
def uptoBulkEntry {H : Type} : Lit × DataW H → Nat
  | (.string bytes, d) => bytes.length + uptoBulk d + 1
  | (_, d) => uptoBulk d + 1
 end
def uptoSmall : (H : Type) → List (DataW H) → Bool := fun _ ds => decide (uptoBulkAll ds ≤ 1048576)
def OpenSpec.upto (s : _root_.Go.ChangeSpec) : _root_.Go.OpenSpec := { _root_.Go.OpenSpec.ofChange s with cond := some uptoSmall }

/-- 'interregnumlaw02.SectorLands', WHERE WHAT IT READS IS OF BULK AT MOST 1048576: true; the input reads as it did. -/
def sectorLandsUptoRow : OpenClaim := { program := "ytjaibpphlbddoaa", sum := "4e317b5d27fea991745dafed7d7540a37551dfb3db10038dd8f01c88addffba6", func := "interregnum/interregnumlaw02.SectorLands", spec := "sectorLands", apart := false, narrowed := true }
def SectorLandsUptoSaid : Prop := sectorLandsUptoRow.holds Try.pinned (OpenSpec.upto sectorLandsSpec)

/-- 'interregnumlaw02.SectorTorn', WHERE WHAT IT READS IS OF BULK AT MOST 1048576: true; the input reads as it did. -/
def sectorTornUptoRow : OpenClaim := { program := "ytjaibpphlbddoaa", sum := "4e317b5d27fea991745dafed7d7540a37551dfb3db10038dd8f01c88addffba6", func := "interregnum/interregnumlaw02.SectorTorn", spec := "sectorTorn", apart := false, narrowed := true }
def SectorTornUptoSaid : Prop := sectorTornUptoRow.holds Try.pinned (OpenSpec.upto sectorTornSpec)

/-- 'interregnumlaw02.SectorFlush', WHERE WHAT IT READS IS OF BULK AT MOST 1048576: true; the input reads as it did. -/
def sectorFlushUptoRow : OpenClaim := { program := "ytjaibpphlbddoaa", sum := "4e317b5d27fea991745dafed7d7540a37551dfb3db10038dd8f01c88addffba6", func := "interregnum/interregnumlaw02.SectorFlush", spec := "sectorFlush", apart := false, narrowed := true }
def SectorFlushUptoSaid : Prop := sectorFlushUptoRow.holds Try.pinned (OpenSpec.upto sectorFlushSpec)

/-- 'interregnumlaw02.SectorFuse', WHERE WHAT IT READS IS OF BULK AT MOST 1048576: true; the input reads as it did. -/
def sectorFuseUptoRow : OpenClaim := { program := "ytjaibpphlbddoaa", sum := "4e317b5d27fea991745dafed7d7540a37551dfb3db10038dd8f01c88addffba6", func := "interregnum/interregnumlaw02.SectorFuse", spec := "sectorFuse", apart := false, narrowed := true }
def SectorFuseUptoSaid : Prop := sectorFuseUptoRow.holds Try.pinned (OpenSpec.upto sectorFuseSpec)

/-- 'interregnumlaw02.SectorNone', WHERE WHAT IT READS IS OF BULK AT MOST 1048576: true; the input reads as it did. -/
def sectorNoneUptoRow : OpenClaim := { program := "ytjaibpphlbddoaa", sum := "4e317b5d27fea991745dafed7d7540a37551dfb3db10038dd8f01c88addffba6", func := "interregnum/interregnumlaw02.SectorNone", spec := "sectorNone", apart := false, narrowed := true }
def SectorNoneUptoSaid : Prop := sectorNoneUptoRow.holds Try.pinned (OpenSpec.upto sectorNoneSpec)

/-- 'interregnumlaw03.RegionOther', WHERE WHAT IT READS IS OF BULK AT MOST 1048576: true; the input reads as it did. -/
def regionOtherUptoRow : OpenClaim := { program := "ytjaibpphlbddoaa", sum := "4e317b5d27fea991745dafed7d7540a37551dfb3db10038dd8f01c88addffba6", func := "interregnum/interregnumlaw03.RegionOther", spec := "regionOther", inPlace := ["internal/bytealg.Count", "internal/bytealg.IndexByte", "internal/bytealg.Index"], named := ["internal/bytealg.MaxLen"], apart := false, narrowed := true }
def RegionOtherUptoSaid : Prop := regionOtherUptoRow.holds Try.pinned (OpenSpec.upto regionOtherSpec)

/-- 'interregnumlaw03.RegionClean', WHERE WHAT IT READS IS OF BULK AT MOST 1048576: true; the input reads as it did. -/
def regionCleanUptoRow : OpenClaim := { program := "ytjaibpphlbddoaa", sum := "4e317b5d27fea991745dafed7d7540a37551dfb3db10038dd8f01c88addffba6", func := "interregnum/interregnumlaw03.RegionClean", spec := "regionClean", inPlace := ["internal/bytealg.Count", "internal/bytealg.IndexByte", "internal/bytealg.Index"], named := ["internal/bytealg.MaxLen"], apart := false, narrowed := true }
def RegionCleanUptoSaid : Prop := regionCleanUptoRow.holds Try.pinned (OpenSpec.upto regionCleanSpec)

/-- 'interregnumlaw03.RegionTorn', WHERE WHAT IT READS IS OF BULK AT MOST 1048576: true; the input reads as it did. -/
def regionTornUptoRow : OpenClaim := { program := "ytjaibpphlbddoaa", sum := "4e317b5d27fea991745dafed7d7540a37551dfb3db10038dd8f01c88addffba6", func := "interregnum/interregnumlaw03.RegionTorn", spec := "regionTorn", inPlace := ["internal/bytealg.Count", "internal/bytealg.IndexByte", "internal/bytealg.Index"], named := ["internal/bytealg.MaxLen"], apart := false, narrowed := true }
def RegionTornUptoSaid : Prop := regionTornUptoRow.holds Try.pinned (OpenSpec.upto regionTornSpec)

/-- 'interregnumlaw03.RegionReads', WHERE WHAT IT READS IS OF BULK AT MOST 1048576: true; the input reads as it did. -/
def regionReadsUptoRow : OpenClaim := { program := "ytjaibpphlbddoaa", sum := "4e317b5d27fea991745dafed7d7540a37551dfb3db10038dd8f01c88addffba6", func := "interregnum/interregnumlaw03.RegionReads", spec := "regionReads", inPlace := ["internal/bytealg.Count", "internal/bytealg.IndexByte", "internal/bytealg.Index"], named := ["internal/bytealg.MaxLen"], apart := false, narrowed := true }
def RegionReadsUptoSaid : Prop := regionReadsUptoRow.holds Try.pinned (OpenSpec.upto regionReadsSpec)

end Rows
end Go.Proofs.Ytjaibpphlbddoaa
