/-
  No cell of these rows narrows 'for every input' (looked for: loops, veiled, ifaces, maps, wideKeys, modest, calm, conditions, laid).
  DERIVED. THE GIVEN ROWS OF THIS SEAT. 9 by the template 'for every input the law returns true; each argument reads behind the call as it read before'; 0 by the template 'total and deterministic' (their statements: YtpojfebecmjloaaTotals.lean).
  GIVEN WITH THE SEED: the statements are not yours to turn. If you find one false, say at which input.
  Laid BY PROGRAM, IN A SANDBOX (cutbox-rows.mjs): the forced cells as the released guide's own fill.sh prints them over the translation 25ddaebb5ed3f485… (all of the seat's roots in one cut). By AI agents, Wed Nov 11 2026. No macro, syntax, notation, axiom, sorry.
-/
import Derived.Test.YtpojfebecmjloaaChecked
import GoSem.Claim
import GoSem.ClaimJoined
import GoSem.ClaimMapViews
import Derived.JoinedTies
import Derived.KernelRfl
namespace Go.Proofs.Ytpojfebecmjloaa
/- THE CELL 'sum', in the pinned program and in every row, IS THE sha256 OF THE DUMP (.gsa) THAT YtpojfebecmjloaaProg.lean LOADS. Nothing in Lean hashes anything: it is a label: what it is worth is what the hold of that sum in a sandbox is worth. -/
noncomputable def Try.pinned : Pinned := { name := "ytpojfebecmjloaa", sum := "25ddaebb5ed3f485703d4f55392047daf18773bccefa8de00dc4de880ddbc0f5", checked := Try.checked }
namespace Rows
def none {H : Type} : Left H := { results := [], args := [] }

/-- 'interregnumlaw02.SectorLands': WHATEVER THE INPUT: true; the input reads as it did. -/
def sectorLandsSpec : ChangeSpec := { name := "sectorLands", fn := fun _ => fun
  | [d1, d2] => { results := [.lit (.bool true)], args := [d1, d2] }
  | _ => none }
def sectorLandsRow : OpenClaim := { program := "ytpojfebecmjloaa", sum := "25ddaebb5ed3f485703d4f55392047daf18773bccefa8de00dc4de880ddbc0f5", func := "interregnum/interregnumlaw02.SectorLands", spec := "sectorLands", apart := false }
def SectorLandsSaid : Prop := sectorLandsRow.holds Try.pinned (OpenSpec.ofChange sectorLandsSpec)

/-- ITS FALSE NEIGHBOUR: 'it returns false'. Refute it at one input. -/
def sectorLandsWrong : ChangeSpec := { name := "sectorLands", fn := fun _ => fun
  | [d1, d2] => { results := [.lit (.bool false)], args := [d1, d2] }
  | _ => none }
def SectorLandsWrongFalsely : Prop := sectorLandsRow.holds Try.pinned (OpenSpec.ofChange sectorLandsWrong)

/-- 'interregnumlaw02.SectorNone': WHATEVER THE INPUT: true; the input reads as it did. -/
def sectorNoneSpec : ChangeSpec := { name := "sectorNone", fn := fun _ => fun
  | [d1, d2] => { results := [.lit (.bool true)], args := [d1, d2] }
  | _ => none }
def sectorNoneRow : OpenClaim := { program := "ytpojfebecmjloaa", sum := "25ddaebb5ed3f485703d4f55392047daf18773bccefa8de00dc4de880ddbc0f5", func := "interregnum/interregnumlaw02.SectorNone", spec := "sectorNone", apart := false }
def SectorNoneSaid : Prop := sectorNoneRow.holds Try.pinned (OpenSpec.ofChange sectorNoneSpec)

/-- ITS FALSE NEIGHBOUR: 'it returns false'. Refute it at one input. -/
def sectorNoneWrong : ChangeSpec := { name := "sectorNone", fn := fun _ => fun
  | [d1, d2] => { results := [.lit (.bool false)], args := [d1, d2] }
  | _ => none }
def SectorNoneWrongFalsely : Prop := sectorNoneRow.holds Try.pinned (OpenSpec.ofChange sectorNoneWrong)

/-- 'interregnumlaw03.RegionClean': WHATEVER THE INPUT: true; the input reads as it did. -/
def regionCleanSpec : ChangeSpec := { name := "regionClean", fn := fun _ => fun
  | [d1, d2, d3] => { results := [.lit (.bool true)], args := [d1, d2, d3] }
  | _ => none }
def regionCleanRow : OpenClaim := { program := "ytpojfebecmjloaa", sum := "25ddaebb5ed3f485703d4f55392047daf18773bccefa8de00dc4de880ddbc0f5", func := "interregnum/interregnumlaw03.RegionClean", spec := "regionClean", inPlace := ["internal/bytealg.Count", "internal/bytealg.IndexByte", "internal/bytealg.Index"], named := ["internal/bytealg.MaxLen"], apart := false }
def RegionCleanSaid : Prop := regionCleanRow.holds Try.pinned (OpenSpec.ofChange regionCleanSpec)

/-- ITS FALSE NEIGHBOUR: 'it returns false'. Refute it at one input. -/
def regionCleanWrong : ChangeSpec := { name := "regionClean", fn := fun _ => fun
  | [d1, d2, d3] => { results := [.lit (.bool false)], args := [d1, d2, d3] }
  | _ => none }
def RegionCleanWrongFalsely : Prop := regionCleanRow.holds Try.pinned (OpenSpec.ofChange regionCleanWrong)

/-- 'interregnumlaw03.RegionTorn': WHATEVER THE INPUT: true; the input reads as it did. -/
def regionTornSpec : ChangeSpec := { name := "regionTorn", fn := fun _ => fun
  | [d1, d2, d3, d4, d5, d6] => { results := [.lit (.bool true)], args := [d1, d2, d3, d4, d5, d6] }
  | _ => none }
def regionTornRow : OpenClaim := { program := "ytpojfebecmjloaa", sum := "25ddaebb5ed3f485703d4f55392047daf18773bccefa8de00dc4de880ddbc0f5", func := "interregnum/interregnumlaw03.RegionTorn", spec := "regionTorn", inPlace := ["internal/bytealg.Count", "internal/bytealg.IndexByte", "internal/bytealg.Index"], named := ["internal/bytealg.MaxLen"], apart := false }
def RegionTornSaid : Prop := regionTornRow.holds Try.pinned (OpenSpec.ofChange regionTornSpec)

/-- ITS FALSE NEIGHBOUR: 'it returns false'. Refute it at one input. -/
def regionTornWrong : ChangeSpec := { name := "regionTorn", fn := fun _ => fun
  | [d1, d2, d3, d4, d5, d6] => { results := [.lit (.bool false)], args := [d1, d2, d3, d4, d5, d6] }
  | _ => none }
def RegionTornWrongFalsely : Prop := regionTornRow.holds Try.pinned (OpenSpec.ofChange regionTornWrong)

/-- 'interregnumlaw03.RegionReads': WHATEVER THE INPUT: true; the input reads as it did. -/
def regionReadsSpec : ChangeSpec := { name := "regionReads", fn := fun _ => fun
  | [d1, d2, d3, d4, d5] => { results := [.lit (.bool true)], args := [d1, d2, d3, d4, d5] }
  | _ => none }
def regionReadsRow : OpenClaim := { program := "ytpojfebecmjloaa", sum := "25ddaebb5ed3f485703d4f55392047daf18773bccefa8de00dc4de880ddbc0f5", func := "interregnum/interregnumlaw03.RegionReads", spec := "regionReads", inPlace := ["internal/bytealg.Count", "internal/bytealg.IndexByte", "internal/bytealg.Index"], named := ["internal/bytealg.MaxLen"], apart := false }
def RegionReadsSaid : Prop := regionReadsRow.holds Try.pinned (OpenSpec.ofChange regionReadsSpec)

/-- ITS FALSE NEIGHBOUR: 'it returns false'. Refute it at one input. -/
def regionReadsWrong : ChangeSpec := { name := "regionReads", fn := fun _ => fun
  | [d1, d2, d3, d4, d5] => { results := [.lit (.bool false)], args := [d1, d2, d3, d4, d5] }
  | _ => none }
def RegionReadsWrongFalsely : Prop := regionReadsRow.holds Try.pinned (OpenSpec.ofChange regionReadsWrong)

/-- 'interregnumlaw04.WalNone': WHATEVER THE INPUT: true; the input reads as it did. -/
def walNoneSpec : ChangeSpec := { name := "walNone", fn := fun _ => fun
  | [d1, d2] => { results := [.lit (.bool true)], args := [d1, d2] }
  | _ => none }
def walNoneRow : OpenClaim := { program := "ytpojfebecmjloaa", sum := "25ddaebb5ed3f485703d4f55392047daf18773bccefa8de00dc4de880ddbc0f5", func := "interregnum/interregnumlaw04.WalNone", spec := "walNone", inPlace := ["internal/bytealg.Count", "internal/bytealg.IndexByte", "internal/bytealg.Index"], named := ["internal/bytealg.MaxLen"], apart := false }
def WalNoneSaid : Prop := walNoneRow.holds Try.pinned (OpenSpec.ofChange walNoneSpec)

/-- ITS FALSE NEIGHBOUR: 'it returns false'. Refute it at one input. -/
def walNoneWrong : ChangeSpec := { name := "walNone", fn := fun _ => fun
  | [d1, d2] => { results := [.lit (.bool false)], args := [d1, d2] }
  | _ => none }
def WalNoneWrongFalsely : Prop := walNoneRow.holds Try.pinned (OpenSpec.ofChange walNoneWrong)

/-- 'interregnumlaw04.WalFull': WHATEVER THE INPUT: true; the input reads as it did. -/
def walFullSpec : ChangeSpec := { name := "walFull", fn := fun _ => fun
  | [d1, d2] => { results := [.lit (.bool true)], args := [d1, d2] }
  | _ => none }
def walFullRow : OpenClaim := { program := "ytpojfebecmjloaa", sum := "25ddaebb5ed3f485703d4f55392047daf18773bccefa8de00dc4de880ddbc0f5", func := "interregnum/interregnumlaw04.WalFull", spec := "walFull", inPlace := ["internal/bytealg.Count", "internal/bytealg.IndexByte", "internal/bytealg.Index"], named := ["internal/bytealg.MaxLen"], apart := false }
def WalFullSaid : Prop := walFullRow.holds Try.pinned (OpenSpec.ofChange walFullSpec)

/-- ITS FALSE NEIGHBOUR: 'it returns false'. Refute it at one input. -/
def walFullWrong : ChangeSpec := { name := "walFull", fn := fun _ => fun
  | [d1, d2] => { results := [.lit (.bool false)], args := [d1, d2] }
  | _ => none }
def WalFullWrongFalsely : Prop := walFullRow.holds Try.pinned (OpenSpec.ofChange walFullWrong)

/-- 'interregnumlaw04.WalSupers': WHATEVER THE INPUT: true; the input reads as it did. -/
def walSupersSpec : ChangeSpec := { name := "walSupers", fn := fun _ => fun
  | [d1, d2, d3] => { results := [.lit (.bool true)], args := [d1, d2, d3] }
  | _ => none }
def walSupersRow : OpenClaim := { program := "ytpojfebecmjloaa", sum := "25ddaebb5ed3f485703d4f55392047daf18773bccefa8de00dc4de880ddbc0f5", func := "interregnum/interregnumlaw04.WalSupers", spec := "walSupers", inPlace := ["internal/bytealg.Count", "internal/bytealg.IndexByte", "internal/bytealg.Index"], named := ["internal/bytealg.MaxLen"], apart := false }
def WalSupersSaid : Prop := walSupersRow.holds Try.pinned (OpenSpec.ofChange walSupersSpec)

/-- ITS FALSE NEIGHBOUR: 'it returns false'. Refute it at one input. -/
def walSupersWrong : ChangeSpec := { name := "walSupers", fn := fun _ => fun
  | [d1, d2, d3] => { results := [.lit (.bool false)], args := [d1, d2, d3] }
  | _ => none }
def WalSupersWrongFalsely : Prop := walSupersRow.holds Try.pinned (OpenSpec.ofChange walSupersWrong)

/-- 'interregnumlaw04.WalLasts': WHATEVER THE INPUT: true; the input reads as it did. -/
def walLastsSpec : ChangeSpec := { name := "walLasts", fn := fun _ => fun
  | [d1, d2, d3, d4, d5, d6, d7] => { results := [.lit (.bool true)], args := [d1, d2, d3, d4, d5, d6, d7] }
  | _ => none }
def walLastsRow : OpenClaim := { program := "ytpojfebecmjloaa", sum := "25ddaebb5ed3f485703d4f55392047daf18773bccefa8de00dc4de880ddbc0f5", func := "interregnum/interregnumlaw04.WalLasts", spec := "walLasts", inPlace := ["internal/bytealg.Count", "internal/bytealg.IndexByte", "internal/bytealg.Index"], named := ["internal/bytealg.MaxLen"], apart := false }
def WalLastsSaid : Prop := walLastsRow.holds Try.pinned (OpenSpec.ofChange walLastsSpec)

/-- ITS FALSE NEIGHBOUR: 'it returns false'. Refute it at one input. -/
def walLastsWrong : ChangeSpec := { name := "walLasts", fn := fun _ => fun
  | [d1, d2, d3, d4, d5, d6, d7] => { results := [.lit (.bool false)], args := [d1, d2, d3, d4, d5, d6, d7] }
  | _ => none }
def WalLastsWrongFalsely : Prop := walLastsRow.holds Try.pinned (OpenSpec.ofChange walLastsWrong)

/- THE SECOND FORM. 'bulk': how many values and letters a reading holds, each counted each time it is reached (what is shared counts as often as it is met; a slice's spare places count too). A statement '..UptoSaid' is the law's where the arguments, and the package variables that the reading takes, are together of bulk at most 1048576: NARROWER than '..Said'. Prove '..Said' where nothing that the law and all that it calls make is longer than what came in: it says more and counts as full. Else prove '..UptoSaid'. A law counts once. -/
mutual
def uptoBulk {H : Type} : DataW H → Nat
  | .lit (.string bytes) => bytes.length + 1
  | .lit _ => 1
  | .nil => 1
  | .ptr d => uptoBulk d + 1
  | .slice elems spare => uptoBulkAll elems + uptoBulkAll spare + 1
  | .agg parts => uptoBulkAll parts + 1
  | .iface _ d => uptoBulk d + 1
  | .map entries => uptoBulkEntries entries + 1
  | .held _ => 1
def uptoBulkAll {H : Type} : List (DataW H) → Nat
  | [] => 0
  | d :: r => uptoBulk d + uptoBulkAll r
def uptoBulkEntries {H : Type} : List (Lit × DataW H) → Nat
  | [] => 0
  | x :: r => uptoBulkEntry x + uptoBulkEntries r
def uptoBulkEntry {H : Type} : Lit × DataW H → Nat
  | (.string bytes, d) => bytes.length + uptoBulk d + 1
  | (_, d) => uptoBulk d + 1
 end
def uptoSmall : (H : Type) → List (DataW H) → Bool := fun _ ds => decide (uptoBulkAll ds ≤ 1048576)
def OpenSpec.upto (s : _root_.Go.ChangeSpec) : _root_.Go.OpenSpec := { _root_.Go.OpenSpec.ofChange s with cond := some uptoSmall }

/-- 'interregnumlaw02.SectorLands', WHERE WHAT IT READS IS OF BULK AT MOST 1048576: true; the input reads as it did. -/
def sectorLandsUptoRow : OpenClaim := { program := "ytpojfebecmjloaa", sum := "25ddaebb5ed3f485703d4f55392047daf18773bccefa8de00dc4de880ddbc0f5", func := "interregnum/interregnumlaw02.SectorLands", spec := "sectorLands", apart := false, narrowed := true }
def SectorLandsUptoSaid : Prop := sectorLandsUptoRow.holds Try.pinned (OpenSpec.upto sectorLandsSpec)

/-- 'interregnumlaw02.SectorNone', WHERE WHAT IT READS IS OF BULK AT MOST 1048576: true; the input reads as it did. -/
def sectorNoneUptoRow : OpenClaim := { program := "ytpojfebecmjloaa", sum := "25ddaebb5ed3f485703d4f55392047daf18773bccefa8de00dc4de880ddbc0f5", func := "interregnum/interregnumlaw02.SectorNone", spec := "sectorNone", apart := false, narrowed := true }
def SectorNoneUptoSaid : Prop := sectorNoneUptoRow.holds Try.pinned (OpenSpec.upto sectorNoneSpec)

/-- 'interregnumlaw03.RegionClean', WHERE WHAT IT READS IS OF BULK AT MOST 1048576: true; the input reads as it did. -/
def regionCleanUptoRow : OpenClaim := { program := "ytpojfebecmjloaa", sum := "25ddaebb5ed3f485703d4f55392047daf18773bccefa8de00dc4de880ddbc0f5", func := "interregnum/interregnumlaw03.RegionClean", spec := "regionClean", inPlace := ["internal/bytealg.Count", "internal/bytealg.IndexByte", "internal/bytealg.Index"], named := ["internal/bytealg.MaxLen"], apart := false, narrowed := true }
def RegionCleanUptoSaid : Prop := regionCleanUptoRow.holds Try.pinned (OpenSpec.upto regionCleanSpec)

/-- 'interregnumlaw03.RegionTorn', WHERE WHAT IT READS IS OF BULK AT MOST 1048576: true; the input reads as it did. -/
def regionTornUptoRow : OpenClaim := { program := "ytpojfebecmjloaa", sum := "25ddaebb5ed3f485703d4f55392047daf18773bccefa8de00dc4de880ddbc0f5", func := "interregnum/interregnumlaw03.RegionTorn", spec := "regionTorn", inPlace := ["internal/bytealg.Count", "internal/bytealg.IndexByte", "internal/bytealg.Index"], named := ["internal/bytealg.MaxLen"], apart := false, narrowed := true }
def RegionTornUptoSaid : Prop := regionTornUptoRow.holds Try.pinned (OpenSpec.upto regionTornSpec)

/-- 'interregnumlaw03.RegionReads', WHERE WHAT IT READS IS OF BULK AT MOST 1048576: true; the input reads as it did. -/
def regionReadsUptoRow : OpenClaim := { program := "ytpojfebecmjloaa", sum := "25ddaebb5ed3f485703d4f55392047daf18773bccefa8de00dc4de880ddbc0f5", func := "interregnum/interregnumlaw03.RegionReads", spec := "regionReads", inPlace := ["internal/bytealg.Count", "internal/bytealg.IndexByte", "internal/bytealg.Index"], named := ["internal/bytealg.MaxLen"], apart := false, narrowed := true }
def RegionReadsUptoSaid : Prop := regionReadsUptoRow.holds Try.pinned (OpenSpec.upto regionReadsSpec)

/-- 'interregnumlaw04.WalNone', WHERE WHAT IT READS IS OF BULK AT MOST 1048576: true; the input reads as it did. -/
def walNoneUptoRow : OpenClaim := { program := "ytpojfebecmjloaa", sum := "25ddaebb5ed3f485703d4f55392047daf18773bccefa8de00dc4de880ddbc0f5", func := "interregnum/interregnumlaw04.WalNone", spec := "walNone", inPlace := ["internal/bytealg.Count", "internal/bytealg.IndexByte", "internal/bytealg.Index"], named := ["internal/bytealg.MaxLen"], apart := false, narrowed := true }
def WalNoneUptoSaid : Prop := walNoneUptoRow.holds Try.pinned (OpenSpec.upto walNoneSpec)

/-- 'interregnumlaw04.WalFull', WHERE WHAT IT READS IS OF BULK AT MOST 1048576: true; the input reads as it did. -/
def walFullUptoRow : OpenClaim := { program := "ytpojfebecmjloaa", sum := "25ddaebb5ed3f485703d4f55392047daf18773bccefa8de00dc4de880ddbc0f5", func := "interregnum/interregnumlaw04.WalFull", spec := "walFull", inPlace := ["internal/bytealg.Count", "internal/bytealg.IndexByte", "internal/bytealg.Index"], named := ["internal/bytealg.MaxLen"], apart := false, narrowed := true }
def WalFullUptoSaid : Prop := walFullUptoRow.holds Try.pinned (OpenSpec.upto walFullSpec)

/-- 'interregnumlaw04.WalSupers', WHERE WHAT IT READS IS OF BULK AT MOST 1048576: true; the input reads as it did. -/
def walSupersUptoRow : OpenClaim := { program := "ytpojfebecmjloaa", sum := "25ddaebb5ed3f485703d4f55392047daf18773bccefa8de00dc4de880ddbc0f5", func := "interregnum/interregnumlaw04.WalSupers", spec := "walSupers", inPlace := ["internal/bytealg.Count", "internal/bytealg.IndexByte", "internal/bytealg.Index"], named := ["internal/bytealg.MaxLen"], apart := false, narrowed := true }
def WalSupersUptoSaid : Prop := walSupersUptoRow.holds Try.pinned (OpenSpec.upto walSupersSpec)

/-- 'interregnumlaw04.WalLasts', WHERE WHAT IT READS IS OF BULK AT MOST 1048576: true; the input reads as it did. -/
def walLastsUptoRow : OpenClaim := { program := "ytpojfebecmjloaa", sum := "25ddaebb5ed3f485703d4f55392047daf18773bccefa8de00dc4de880ddbc0f5", func := "interregnum/interregnumlaw04.WalLasts", spec := "walLasts", inPlace := ["internal/bytealg.Count", "internal/bytealg.IndexByte", "internal/bytealg.Index"], named := ["internal/bytealg.MaxLen"], apart := false, narrowed := true }
def WalLastsUptoSaid : Prop := walLastsUptoRow.holds Try.pinned (OpenSpec.upto walLastsSpec)

end Rows
end Go.Proofs.Ytpojfebecmjloaa
