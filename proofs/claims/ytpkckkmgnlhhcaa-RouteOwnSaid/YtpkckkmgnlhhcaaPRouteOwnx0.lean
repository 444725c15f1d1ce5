-- Lean text by a program of this repo (wip/tools/printx.py), out of Lean's own print of the translation
import Derived.Test.YtpkckkmgnlhhcaaProg
import Derived.Below
import Derived.Deep.Draws
import Derived.Deep.AppendLies
import Derived.Maps.AppendAt
import Derived.OwnWalk
import Derived.Laws.BytesArg
import Derived.Laws.MakeOwn
import Derived.Laws.OwnMore
import Derived.Deep.OwnRows
import Derived.Tactics
import Derived.Lib.ConvBytes
import Derived.Laws.Slices
import Derived.WalkKit
import Derived.KernelRfl
import Derived.RowKit3
import Derived.Deep.LoopGhost
import Derived.Deep.QuietTactic
import Derived.BigQuiet
import Derived.WideLaws
import Derived.Deep.DeepCutAuto
import Derived.Deep.CutBlock
import Derived.Deep.RegionHeld3
import Derived.Laws.Rows
import Derived.Lib.AppendStr
import Derived.ArgAppend
import Derived.Laws.IdiomCopy
import Derived.OrdersHeld
import Derived.Laws.BitsLemmas
import Derived.RowKit
import Derived.Test.YtpkckkmgnlhhcaaWWords
import Derived.Test.YtpkckkmgnlhhcaaWLast
import Derived.Test.YtpkckkmgnlhhcaaWTab
import Derived.Test.YtpkckkmgnlhhcaaWFour
import Derived.Test.YtpkckkmgnlhhcaaWQPut
import Derived.Test.YtpkckkmgnlhhcaaWApart
import Derived.Test.YtpkckkmgnlhhcaaWArr
import Derived.Test.YtpkckkmgnlhhcaaWZeros
import Derived.Test.YtpkckkmgnlhhcaaWFoot
import Derived.Test.YtpkckkmgnlhhcaaWKept
import Derived.Test.YtpkckkmgnlhhcaaWShare
import Derived.Test.YtpkckkmgnlhhcaaWN
import Derived.Test.YtpkckkmgnlhhcaaWFootNe
import Derived.Test.YtpkckkmgnlhhcaaWAt
import Derived.Test.YtpkckkmgnlhhcaaWEqStruct
import Derived.Test.YtpkckkmgnlhhcaaWRepsOne
import Derived.Test.YtpkckkmgnlhhcaaWInv
import Derived.Test.YtpkckkmgnlhhcaaWInvWords
import Derived.Test.YtpkckkmgnlhhcaaWGuard
import Derived.Test.YtpkckkmgnlhhcaaWNEv
import Derived.Test.YtpkckkmgnlhhcaaWMore
namespace Go.Proofs.Ytpkckkmgnlhhcaa.PRouteOwn
open Go.RowKit Go.Proofs.YtpkckkmgnlhhcaaW.PrintWords Go.Proofs.YtpkckkmgnlhhcaaW.PrintLast Go.Proofs.YtpkckkmgnlhhcaaW.PrintMore
attribute [local go_sem] max2_int min2_int max_two min_two max_three min_three max_four min_four   -- for this text's walks alone
set_option linter.unusedVariables false
set_option linter.unusedSimpArgs false



def errW : Option Int → Value
  | none => .nilIface
  | some c => .iface 0 (.int .i64 c)
theorem errW_none : errW none = .nilIface := rfl
theorem errW_some (c : Int) : errW (some c) = .iface 0 (.int .i64 c) := rfl

-- the values' own types
def rd_L2 (xs : List (List Int)) (i : Int) : (List Int) := xs.getD i.toNat ([] : List Int)
theorem at_L2 {w : World} {A : Option Addr} {n : Nat} {xs : List (List Int)} (h : Kd.C (Kd.slice 3 (Kd.int .i64)) w A n xs) (i : Int) (h0 : 0 ≤ i) (h1 : i < n) : ∃ ad A0 c0, A = some ad ∧ w.cell? (ad.add i.toNat) = some (.slice A0 (rd_L2 xs i).length c0) ∧ (rd_L2 xs i).length ≤ c0 ∧ (Kd.int .i64).C w A0 (rd_L2 xs i).length (rd_L2 xs i) := by
  obtain ⟨ad, c, e, _, hK, hc0⟩ := Kd.C_get h ([] : List Int) i h0 h1
  have hc : ∀ j u, c[j]? = some u → w.cell? (ad.add (i.toNat * 1 + j)) = some u := hc0
  obtain ⟨A0, c0, rfl, l0, g0⟩ := hK
  exact ⟨ad, A0, c0, e, by have hq := hc 0 _ rfl; rwa [Nat.mul_one, Nat.add_zero] at hq, l0, g0⟩

/-! #### struct type 38 -/
structure S38 where
  f0 : Bool
  f1 : (List Int)
def z38 : S38 := ⟨false, ([] : List Int)⟩
def k38 : Kd S38 := Kd.iso (Kd.pair Kd.bool (Kd.slice 3 (Kd.int .i64))) (fun x : S38 => (x.f0, x.f1))
theorem k38_open {w : World} {x : S38} {cs : List Value} (h : k38.K w x cs) : ∃ A1 c1, cs = [.bool x.f0, .slice A1 x.f1.length c1] ∧ x.f1.length ≤ c1 ∧ (Kd.int .i64).C w A1 x.f1.length x.f1 := by
  obtain ⟨_, _, rfl, rfl, ⟨A1, c1, rfl, l1, g1⟩⟩ := h
  exact ⟨A1, c1, rfl, l1, g1⟩
theorem k38_openM {w : World} {base : Nat} {ok : Nat → Prop} {x : S38} {cs : List Value} (h : k38.M w base ok x cs) : ∃ v1, cs = [.bool x.f0, v1] ∧ (Kd.int .i64).R 3 w base ok v1 x.f1 := by
  obtain ⟨_, _, rfl, rfl, ⟨v1, rfl, g1⟩⟩ := h
  exact ⟨v1, rfl, g1⟩
theorem k38_mk (w : World) (x : S38) {A1 : Option Addr} {c1 : Nat} (l1 : x.f1.length ≤ c1) (g1 : (Kd.int .i64).C w A1 x.f1.length x.f1) : k38.K w x [.bool x.f0, .slice A1 x.f1.length c1] := ⟨[.bool x.f0], [.slice A1 x.f1.length c1], rfl, rfl, ⟨A1, c1, rfl, l1, g1⟩⟩
theorem k38_mkM (w : World) (base : Nat) (ok : Nat → Prop) (x : S38) {v1 : Value} (g1 : (Kd.int .i64).R 3 w base ok v1 x.f1) : k38.M w base ok x [.bool x.f0, v1] := ⟨[.bool x.f0], [v1], rfl, rfl, ⟨v1, rfl, g1⟩⟩
def rd_T38 (xs : List S38) (i : Int) : S38 := xs.getD i.toNat z38
theorem at_T38 {w : World} {A : Option Addr} {n : Nat} {xs : List S38} (h : Kd.C k38 w A n xs) (i : Int) (h0 : 0 ≤ i) (h1 : i < n) : ∃ ad A1 c1, A = some ad ∧ w.cell? (ad.add (i.toNat * 2)) = some (.bool (rd_T38 xs i).f0) ∧ w.cell? ⟨(ad.add (i.toNat * 2)).block, (ad.add (i.toNat * 2)).off + 1, none⟩ = some (.slice A1 (rd_T38 xs i).f1.length c1) ∧ (rd_T38 xs i).f1.length ≤ c1 ∧ (Kd.int .i64).C w A1 (rd_T38 xs i).f1.length (rd_T38 xs i).f1 := by
  obtain ⟨ad, c, e, _, hK, hc0⟩ := Kd.C_get h z38 i h0 h1
  have hc : ∀ j u, c[j]? = some u → w.cell? (ad.add (i.toNat * 2 + j)) = some u := hc0
  obtain ⟨A1, c1, rfl, l1, g1⟩ := k38_open hK
  exact ⟨ad, A1, c1, e, hc 0 _ rfl, by rw [← add_field _ _ 1 (by omega)]; exact hc 1 _ rfl, l1, g1⟩

def rd_L5 (xs : List (List Int)) (i : Int) : (List Int) := xs.getD i.toNat ([] : List Int)
theorem at_L5 {w : World} {A : Option Addr} {n : Nat} {xs : List (List Int)} (h : Kd.C (Kd.slice 5 (Kd.int .u8)) w A n xs) (i : Int) (h0 : 0 ≤ i) (h1 : i < n) : ∃ ad A0 c0, A = some ad ∧ w.cell? (ad.add i.toNat) = some (.slice A0 (rd_L5 xs i).length c0) ∧ (rd_L5 xs i).length ≤ c0 ∧ (Kd.int .u8).C w A0 (rd_L5 xs i).length (rd_L5 xs i) := by
  obtain ⟨ad, c, e, _, hK, hc0⟩ := Kd.C_get h ([] : List Int) i h0 h1
  have hc : ∀ j u, c[j]? = some u → w.cell? (ad.add (i.toNat * 1 + j)) = some u := hc0
  obtain ⟨A0, c0, rfl, l0, g0⟩ := hK
  exact ⟨ad, A0, c0, e, by have hq := hc 0 _ rfl; rwa [Nat.mul_one, Nat.add_zero] at hq, l0, g0⟩

/-! #### struct type 58 -/
structure S58 where
  f0 : Int
  f1 : Int
  f2 : (List Int)
def z58 : S58 := ⟨(0 : Int), (0 : Int), ([] : List Int)⟩
def k58 : Kd S58 := Kd.iso (Kd.pair (Kd.int .i64) (Kd.pair (Kd.int .i64) (Kd.slice 5 (Kd.int .u8)))) (fun x : S58 => (x.f0, x.f1, x.f2))
theorem k58_open {w : World} {x : S58} {cs : List Value} (h : k58.K w x cs) : ∃ A2 c2, cs = [.int .i64 x.f0, .int .i64 x.f1, .slice A2 x.f2.length c2] ∧ x.f2.length ≤ c2 ∧ (Kd.int .u8).C w A2 x.f2.length x.f2 := by
  obtain ⟨_, _, rfl, rfl, ⟨_, _, rfl, rfl, ⟨A2, c2, rfl, l2, g2⟩⟩⟩ := h
  exact ⟨A2, c2, rfl, l2, g2⟩
theorem k58_openM {w : World} {base : Nat} {ok : Nat → Prop} {x : S58} {cs : List Value} (h : k58.M w base ok x cs) : ∃ v2, cs = [.int .i64 x.f0, .int .i64 x.f1, v2] ∧ (Kd.int .u8).R 5 w base ok v2 x.f2 := by
  obtain ⟨_, _, rfl, rfl, ⟨_, _, rfl, rfl, ⟨v2, rfl, g2⟩⟩⟩ := h
  exact ⟨v2, rfl, g2⟩
theorem k58_mk (w : World) (x : S58) {A2 : Option Addr} {c2 : Nat} (l2 : x.f2.length ≤ c2) (g2 : (Kd.int .u8).C w A2 x.f2.length x.f2) : k58.K w x [.int .i64 x.f0, .int .i64 x.f1, .slice A2 x.f2.length c2] := ⟨[.int .i64 x.f0], [.int .i64 x.f1, .slice A2 x.f2.length c2], rfl, rfl, ⟨[.int .i64 x.f1], [.slice A2 x.f2.length c2], rfl, rfl, ⟨A2, c2, rfl, l2, g2⟩⟩⟩
theorem k58_mkM (w : World) (base : Nat) (ok : Nat → Prop) (x : S58) {v2 : Value} (g2 : (Kd.int .u8).R 5 w base ok v2 x.f2) : k58.M w base ok x [.int .i64 x.f0, .int .i64 x.f1, v2] := ⟨[.int .i64 x.f0], [.int .i64 x.f1, v2], rfl, rfl, ⟨[.int .i64 x.f1], [v2], rfl, rfl, ⟨v2, rfl, g2⟩⟩⟩
def rd_T58 (xs : List S58) (i : Int) : S58 := xs.getD i.toNat z58
theorem at_T58 {w : World} {A : Option Addr} {n : Nat} {xs : List S58} (h : Kd.C k58 w A n xs) (i : Int) (h0 : 0 ≤ i) (h1 : i < n) : ∃ ad A2 c2, A = some ad ∧ w.cell? (ad.add (i.toNat * 3)) = some (.int .i64 (rd_T58 xs i).f0) ∧ w.cell? ⟨(ad.add (i.toNat * 3)).block, (ad.add (i.toNat * 3)).off + 1, none⟩ = some (.int .i64 (rd_T58 xs i).f1) ∧ w.cell? ⟨(ad.add (i.toNat * 3)).block, (ad.add (i.toNat * 3)).off + 2, none⟩ = some (.slice A2 (rd_T58 xs i).f2.length c2) ∧ (rd_T58 xs i).f2.length ≤ c2 ∧ (Kd.int .u8).C w A2 (rd_T58 xs i).f2.length (rd_T58 xs i).f2 := by
  obtain ⟨ad, c, e, _, hK, hc0⟩ := Kd.C_get h z58 i h0 h1
  have hc : ∀ j u, c[j]? = some u → w.cell? (ad.add (i.toNat * 3 + j)) = some u := hc0
  obtain ⟨A2, c2, rfl, l2, g2⟩ := k58_open hK
  exact ⟨ad, A2, c2, e, hc 0 _ rfl, by rw [← add_field _ _ 1 (by omega)]; exact hc 1 _ rfl, by rw [← add_field _ _ 2 (by omega)]; exact hc 2 _ rfl, l2, g2⟩

def rd_L8 (xs : List (List Int)) (i : Int) : (List Int) := xs.getD i.toNat ([] : List Int)
theorem at_L8 {w : World} {A : Option Addr} {n : Nat} {xs : List (List Int)} (h : Kd.C (Kd.slice 40 (Kd.int .u32)) w A n xs) (i : Int) (h0 : 0 ≤ i) (h1 : i < n) : ∃ ad A0 c0, A = some ad ∧ w.cell? (ad.add i.toNat) = some (.slice A0 (rd_L8 xs i).length c0) ∧ (rd_L8 xs i).length ≤ c0 ∧ (Kd.int .u32).C w A0 (rd_L8 xs i).length (rd_L8 xs i) := by
  obtain ⟨ad, c, e, _, hK, hc0⟩ := Kd.C_get h ([] : List Int) i h0 h1
  have hc : ∀ j u, c[j]? = some u → w.cell? (ad.add (i.toNat * 1 + j)) = some u := hc0
  obtain ⟨A0, c0, rfl, l0, g0⟩ := hK
  exact ⟨ad, A0, c0, e, by have hq := hc 0 _ rfl; rwa [Nat.mul_one, Nat.add_zero] at hq, l0, g0⟩

def rd_L9 (xs : List (List S38)) (i : Int) : (List S38) := xs.getD i.toNat ([] : List S38)
theorem at_L9 {w : World} {A : Option Addr} {n : Nat} {xs : List (List S38)} (h : Kd.C (Kd.slice 38 k38) w A n xs) (i : Int) (h0 : 0 ≤ i) (h1 : i < n) : ∃ ad A0 c0, A = some ad ∧ w.cell? (ad.add i.toNat) = some (.slice A0 (rd_L9 xs i).length c0) ∧ (rd_L9 xs i).length ≤ c0 ∧ k38.C w A0 (rd_L9 xs i).length (rd_L9 xs i) := by
  obtain ⟨ad, c, e, _, hK, hc0⟩ := Kd.C_get h ([] : List S38) i h0 h1
  have hc : ∀ j u, c[j]? = some u → w.cell? (ad.add (i.toNat * 1 + j)) = some u := hc0
  obtain ⟨A0, c0, rfl, l0, g0⟩ := hK
  exact ⟨ad, A0, c0, e, by have hq := hc 0 _ rfl; rwa [Nat.mul_one, Nat.add_zero] at hq, l0, g0⟩

def rd_L10 (xs : List (List S58)) (i : Int) : (List S58) := xs.getD i.toNat ([] : List S58)
theorem at_L10 {w : World} {A : Option Addr} {n : Nat} {xs : List (List S58)} (h : Kd.C (Kd.slice 58 k58) w A n xs) (i : Int) (h0 : 0 ≤ i) (h1 : i < n) : ∃ ad A0 c0, A = some ad ∧ w.cell? (ad.add i.toNat) = some (.slice A0 (rd_L10 xs i).length c0) ∧ (rd_L10 xs i).length ≤ c0 ∧ k58.C w A0 (rd_L10 xs i).length (rd_L10 xs i) := by
  obtain ⟨ad, c, e, _, hK, hc0⟩ := Kd.C_get h ([] : List S58) i h0 h1
  have hc : ∀ j u, c[j]? = some u → w.cell? (ad.add (i.toNat * 1 + j)) = some u := hc0
  obtain ⟨A0, c0, rfl, l0, g0⟩ := hK
  exact ⟨ad, A0, c0, e, by have hq := hc 0 _ rfl; rwa [Nat.mul_one, Nat.add_zero] at hq, l0, g0⟩

/-! #### struct type 46 -/
structure S46 where
  f0 : Int
  f1 : (List S38)
  f2 : Int
  f3 : Int
  f4 : Int
  f5 : (List Int)
  f6 : (List S58)
def z46 : S46 := ⟨(0 : Int), ([] : List S38), (0 : Int), (0 : Int), (0 : Int), ([] : List Int), ([] : List S58)⟩
def k46 : Kd S46 := Kd.iso (Kd.pair (Kd.int .i64) (Kd.pair (Kd.slice 38 k38) (Kd.pair (Kd.int .u32) (Kd.pair (Kd.int .i64) (Kd.pair (Kd.int .i64) (Kd.pair (Kd.slice 40 (Kd.int .u32)) (Kd.slice 58 k58))))))) (fun x : S46 => (x.f0, x.f1, x.f2, x.f3, x.f4, x.f5, x.f6))
theorem k46_open {w : World} {x : S46} {cs : List Value} (h : k46.K w x cs) : ∃ A1 c1 A5 c5 A6 c6, cs = [.int .i64 x.f0, .slice A1 x.f1.length c1, .int .u32 x.f2, .int .i64 x.f3, .int .i64 x.f4, .slice A5 x.f5.length c5, .slice A6 x.f6.length c6] ∧ x.f1.length ≤ c1 ∧ k38.C w A1 x.f1.length x.f1 ∧ x.f5.length ≤ c5 ∧ (Kd.int .u32).C w A5 x.f5.length x.f5 ∧ x.f6.length ≤ c6 ∧ k58.C w A6 x.f6.length x.f6 := by
  obtain ⟨_, _, rfl, rfl, ⟨_, _, rfl, ⟨A1, c1, rfl, l1, g1⟩, ⟨_, _, rfl, rfl, ⟨_, _, rfl, rfl, ⟨_, _, rfl, rfl, ⟨_, _, rfl, ⟨A5, c5, rfl, l5, g5⟩, ⟨A6, c6, rfl, l6, g6⟩⟩⟩⟩⟩⟩⟩ := h
  exact ⟨A1, c1, A5, c5, A6, c6, rfl, l1, g1, l5, g5, l6, g6⟩
theorem k46_openM {w : World} {base : Nat} {ok : Nat → Prop} {x : S46} {cs : List Value} (h : k46.M w base ok x cs) : ∃ v1 v5 v6, cs = [.int .i64 x.f0, v1, .int .u32 x.f2, .int .i64 x.f3, .int .i64 x.f4, v5, v6] ∧ k38.R 38 w base ok v1 x.f1 ∧ (Kd.int .u32).R 40 w base ok v5 x.f5 ∧ k58.R 58 w base ok v6 x.f6 := by
  obtain ⟨_, _, rfl, rfl, ⟨_, _, rfl, ⟨v1, rfl, g1⟩, ⟨_, _, rfl, rfl, ⟨_, _, rfl, rfl, ⟨_, _, rfl, rfl, ⟨_, _, rfl, ⟨v5, rfl, g5⟩, ⟨v6, rfl, g6⟩⟩⟩⟩⟩⟩⟩ := h
  exact ⟨v1, v5, v6, rfl, g1, g5, g6⟩
theorem k46_mk (w : World) (x : S46) {A1 : Option Addr} {c1 : Nat} (l1 : x.f1.length ≤ c1) (g1 : k38.C w A1 x.f1.length x.f1) {A5 : Option Addr} {c5 : Nat} (l5 : x.f5.length ≤ c5) (g5 : (Kd.int .u32).C w A5 x.f5.length x.f5) {A6 : Option Addr} {c6 : Nat} (l6 : x.f6.length ≤ c6) (g6 : k58.C w A6 x.f6.length x.f6) : k46.K w x [.int .i64 x.f0, .slice A1 x.f1.length c1, .int .u32 x.f2, .int .i64 x.f3, .int .i64 x.f4, .slice A5 x.f5.length c5, .slice A6 x.f6.length c6] := ⟨[.int .i64 x.f0], [.slice A1 x.f1.length c1, .int .u32 x.f2, .int .i64 x.f3, .int .i64 x.f4, .slice A5 x.f5.length c5, .slice A6 x.f6.length c6], rfl, rfl, ⟨[.slice A1 x.f1.length c1], [.int .u32 x.f2, .int .i64 x.f3, .int .i64 x.f4, .slice A5 x.f5.length c5, .slice A6 x.f6.length c6], rfl, ⟨A1, c1, rfl, l1, g1⟩, ⟨[.int .u32 x.f2], [.int .i64 x.f3, .int .i64 x.f4, .slice A5 x.f5.length c5, .slice A6 x.f6.length c6], rfl, rfl, ⟨[.int .i64 x.f3], [.int .i64 x.f4, .slice A5 x.f5.length c5, .slice A6 x.f6.length c6], rfl, rfl, ⟨[.int .i64 x.f4], [.slice A5 x.f5.length c5, .slice A6 x.f6.length c6], rfl, rfl, ⟨[.slice A5 x.f5.length c5], [.slice A6 x.f6.length c6], rfl, ⟨A5, c5, rfl, l5, g5⟩, ⟨A6, c6, rfl, l6, g6⟩⟩⟩⟩⟩⟩⟩
theorem k46_mkM (w : World) (base : Nat) (ok : Nat → Prop) (x : S46) {v1 : Value} (g1 : k38.R 38 w base ok v1 x.f1) {v5 : Value} (g5 : (Kd.int .u32).R 40 w base ok v5 x.f5) {v6 : Value} (g6 : k58.R 58 w base ok v6 x.f6) : k46.M w base ok x [.int .i64 x.f0, v1, .int .u32 x.f2, .int .i64 x.f3, .int .i64 x.f4, v5, v6] := ⟨[.int .i64 x.f0], [v1, .int .u32 x.f2, .int .i64 x.f3, .int .i64 x.f4, v5, v6], rfl, rfl, ⟨[v1], [.int .u32 x.f2, .int .i64 x.f3, .int .i64 x.f4, v5, v6], rfl, ⟨v1, rfl, g1⟩, ⟨[.int .u32 x.f2], [.int .i64 x.f3, .int .i64 x.f4, v5, v6], rfl, rfl, ⟨[.int .i64 x.f3], [.int .i64 x.f4, v5, v6], rfl, rfl, ⟨[.int .i64 x.f4], [v5, v6], rfl, rfl, ⟨[v5], [v6], rfl, ⟨v5, rfl, g5⟩, ⟨v6, rfl, g6⟩⟩⟩⟩⟩⟩⟩
def rd_T46 (xs : List S46) (i : Int) : S46 := xs.getD i.toNat z46
theorem at_T46 {w : World} {A : Option Addr} {n : Nat} {xs : List S46} (h : Kd.C k46 w A n xs) (i : Int) (h0 : 0 ≤ i) (h1 : i < n) : ∃ ad A1 c1 A5 c5 A6 c6, A = some ad ∧ w.cell? (ad.add (i.toNat * 7)) = some (.int .i64 (rd_T46 xs i).f0) ∧ w.cell? ⟨(ad.add (i.toNat * 7)).block, (ad.add (i.toNat * 7)).off + 1, none⟩ = some (.slice A1 (rd_T46 xs i).f1.length c1) ∧ w.cell? ⟨(ad.add (i.toNat * 7)).block, (ad.add (i.toNat * 7)).off + 2, none⟩ = some (.int .u32 (rd_T46 xs i).f2) ∧ w.cell? ⟨(ad.add (i.toNat * 7)).block, (ad.add (i.toNat * 7)).off + 3, none⟩ = some (.int .i64 (rd_T46 xs i).f3) ∧ w.cell? ⟨(ad.add (i.toNat * 7)).block, (ad.add (i.toNat * 7)).off + 4, none⟩ = some (.int .i64 (rd_T46 xs i).f4) ∧ w.cell? ⟨(ad.add (i.toNat * 7)).block, (ad.add (i.toNat * 7)).off + 5, none⟩ = some (.slice A5 (rd_T46 xs i).f5.length c5) ∧ w.cell? ⟨(ad.add (i.toNat * 7)).block, (ad.add (i.toNat * 7)).off + 6, none⟩ = some (.slice A6 (rd_T46 xs i).f6.length c6) ∧ (rd_T46 xs i).f1.length ≤ c1 ∧ k38.C w A1 (rd_T46 xs i).f1.length (rd_T46 xs i).f1 ∧ (rd_T46 xs i).f5.length ≤ c5 ∧ (Kd.int .u32).C w A5 (rd_T46 xs i).f5.length (rd_T46 xs i).f5 ∧ (rd_T46 xs i).f6.length ≤ c6 ∧ k58.C w A6 (rd_T46 xs i).f6.length (rd_T46 xs i).f6 := by
  obtain ⟨ad, c, e, _, hK, hc0⟩ := Kd.C_get h z46 i h0 h1
  have hc : ∀ j u, c[j]? = some u → w.cell? (ad.add (i.toNat * 7 + j)) = some u := hc0
  obtain ⟨A1, c1, A5, c5, A6, c6, rfl, l1, g1, l5, g5, l6, g6⟩ := k46_open hK
  exact ⟨ad, A1, c1, A5, c5, A6, c6, e, hc 0 _ rfl, by rw [← add_field _ _ 1 (by omega)]; exact hc 1 _ rfl, by rw [← add_field _ _ 2 (by omega)]; exact hc 2 _ rfl, by rw [← add_field _ _ 3 (by omega)]; exact hc 3 _ rfl, by rw [← add_field _ _ 4 (by omega)]; exact hc 4 _ rfl, by rw [← add_field _ _ 5 (by omega)]; exact hc 5 _ rfl, by rw [← add_field _ _ 6 (by omega)]; exact hc 6 _ rfl, l1, g1, l5, g5, l6, g6⟩

/-! #### struct type 42 -/
structure S42 where
  f0 : Int
  f1 : Int
def z42 : S42 := ⟨(0 : Int), (0 : Int)⟩
def k42 : Kd S42 := Kd.iso (Kd.pair (Kd.int .u32) (Kd.int .i64)) (fun x : S42 => (x.f0, x.f1))
theorem k42_open {w : World} {x : S42} {cs : List Value} (h : k42.K w x cs) : cs = [.int .u32 x.f0, .int .i64 x.f1] := by
  obtain ⟨_, _, rfl, rfl, rfl⟩ := h
  exact rfl
theorem k42_openM {w : World} {base : Nat} {ok : Nat → Prop} {x : S42} {cs : List Value} (h : k42.M w base ok x cs) : cs = [.int .u32 x.f0, .int .i64 x.f1] := by
  obtain ⟨_, _, rfl, rfl, rfl⟩ := h
  exact rfl
theorem k42_mk (w : World) (x : S42)  : k42.K w x [.int .u32 x.f0, .int .i64 x.f1] := ⟨[.int .u32 x.f0], [.int .i64 x.f1], rfl, rfl, rfl⟩
theorem k42_mkM (w : World) (base : Nat) (ok : Nat → Prop) (x : S42)  : k42.M w base ok x [.int .u32 x.f0, .int .i64 x.f1] := ⟨[.int .u32 x.f0], [.int .i64 x.f1], rfl, rfl, rfl⟩
def rd_T42 (xs : List S42) (i : Int) : S42 := xs.getD i.toNat z42
theorem at_T42 {w : World} {A : Option Addr} {n : Nat} {xs : List S42} (h : Kd.C k42 w A n xs) (i : Int) (h0 : 0 ≤ i) (h1 : i < n) : ∃ ad , A = some ad ∧ w.cell? (ad.add (i.toNat * 2)) = some (.int .u32 (rd_T42 xs i).f0) ∧ w.cell? ⟨(ad.add (i.toNat * 2)).block, (ad.add (i.toNat * 2)).off + 1, none⟩ = some (.int .i64 (rd_T42 xs i).f1) := by
  obtain ⟨ad, c, e, _, hK, hc0⟩ := Kd.C_get h z42 i h0 h1
  have hc : ∀ j u, c[j]? = some u → w.cell? (ad.add (i.toNat * 2 + j)) = some u := hc0
  obtain rfl := k42_open hK
  exact ⟨ad, e, hc 0 _ rfl, by rw [← add_field _ _ 1 (by omega)]; exact hc 1 _ rfl⟩

/-! #### struct type 48 -/
structure S48 where
  f0 : S42
  f1 : Int
  f2 : S46
  f3 : Int
def z48 : S48 := ⟨z42, (0 : Int), z46, (0 : Int)⟩
def k48 : Kd S48 := Kd.iso (Kd.pair k42 (Kd.pair (Kd.int .i64) (Kd.pair k46 (Kd.int .i64)))) (fun x : S48 => (x.f0, x.f1, x.f2, x.f3))
theorem k48_open {w : World} {x : S48} {cs : List Value} (h : k48.K w x cs) : ∃ A4 c4 A8 c8 A9 c9, cs = [.int .u32 x.f0.f0, .int .i64 x.f0.f1, .int .i64 x.f1, .int .i64 x.f2.f0, .slice A4 x.f2.f1.length c4, .int .u32 x.f2.f2, .int .i64 x.f2.f3, .int .i64 x.f2.f4, .slice A8 x.f2.f5.length c8, .slice A9 x.f2.f6.length c9, .int .i64 x.f3] ∧ x.f2.f1.length ≤ c4 ∧ k38.C w A4 x.f2.f1.length x.f2.f1 ∧ x.f2.f5.length ≤ c8 ∧ (Kd.int .u32).C w A8 x.f2.f5.length x.f2.f5 ∧ x.f2.f6.length ≤ c9 ∧ k58.C w A9 x.f2.f6.length x.f2.f6 := by
  obtain ⟨_, _, rfl, s0, ⟨_, _, rfl, rfl, ⟨_, _, rfl, s3, rfl⟩⟩⟩ := h
  obtain rfl := k42_open s0
  obtain ⟨A4, c4, A8, c8, A9, c9, rfl, l4, g4, l8, g8, l9, g9⟩ := k46_open s3
  exact ⟨A4, c4, A8, c8, A9, c9, rfl, l4, g4, l8, g8, l9, g9⟩
theorem k48_openM {w : World} {base : Nat} {ok : Nat → Prop} {x : S48} {cs : List Value} (h : k48.M w base ok x cs) : ∃ v4 v8 v9, cs = [.int .u32 x.f0.f0, .int .i64 x.f0.f1, .int .i64 x.f1, .int .i64 x.f2.f0, v4, .int .u32 x.f2.f2, .int .i64 x.f2.f3, .int .i64 x.f2.f4, v8, v9, .int .i64 x.f3] ∧ k38.R 38 w base ok v4 x.f2.f1 ∧ (Kd.int .u32).R 40 w base ok v8 x.f2.f5 ∧ k58.R 58 w base ok v9 x.f2.f6 := by
  obtain ⟨_, _, rfl, s0, ⟨_, _, rfl, rfl, ⟨_, _, rfl, s3, rfl⟩⟩⟩ := h
  obtain rfl := k42_openM s0
  obtain ⟨v4, v8, v9, rfl, g4, g8, g9⟩ := k46_openM s3
  exact ⟨v4, v8, v9, rfl, g4, g8, g9⟩
theorem k48_mk (w : World) (x : S48) {A4 : Option Addr} {c4 : Nat} (l4 : x.f2.f1.length ≤ c4) (g4 : k38.C w A4 x.f2.f1.length x.f2.f1) {A8 : Option Addr} {c8 : Nat} (l8 : x.f2.f5.length ≤ c8) (g8 : (Kd.int .u32).C w A8 x.f2.f5.length x.f2.f5) {A9 : Option Addr} {c9 : Nat} (l9 : x.f2.f6.length ≤ c9) (g9 : k58.C w A9 x.f2.f6.length x.f2.f6) : k48.K w x [.int .u32 x.f0.f0, .int .i64 x.f0.f1, .int .i64 x.f1, .int .i64 x.f2.f0, .slice A4 x.f2.f1.length c4, .int .u32 x.f2.f2, .int .i64 x.f2.f3, .int .i64 x.f2.f4, .slice A8 x.f2.f5.length c8, .slice A9 x.f2.f6.length c9, .int .i64 x.f3] := ⟨[.int .u32 x.f0.f0, .int .i64 x.f0.f1], [.int .i64 x.f1, .int .i64 x.f2.f0, .slice A4 x.f2.f1.length c4, .int .u32 x.f2.f2, .int .i64 x.f2.f3, .int .i64 x.f2.f4, .slice A8 x.f2.f5.length c8, .slice A9 x.f2.f6.length c9, .int .i64 x.f3], rfl, (k42_mk w x.f0 ), ⟨[.int .i64 x.f1], [.int .i64 x.f2.f0, .slice A4 x.f2.f1.length c4, .int .u32 x.f2.f2, .int .i64 x.f2.f3, .int .i64 x.f2.f4, .slice A8 x.f2.f5.length c8, .slice A9 x.f2.f6.length c9, .int .i64 x.f3], rfl, rfl, ⟨[.int .i64 x.f2.f0, .slice A4 x.f2.f1.length c4, .int .u32 x.f2.f2, .int .i64 x.f2.f3, .int .i64 x.f2.f4, .slice A8 x.f2.f5.length c8, .slice A9 x.f2.f6.length c9], [.int .i64 x.f3], rfl, (k46_mk w x.f2 l4 g4 l8 g8 l9 g9), rfl⟩⟩⟩
theorem k48_mkM (w : World) (base : Nat) (ok : Nat → Prop) (x : S48) {v4 : Value} (g4 : k38.R 38 w base ok v4 x.f2.f1) {v8 : Value} (g8 : (Kd.int .u32).R 40 w base ok v8 x.f2.f5) {v9 : Value} (g9 : k58.R 58 w base ok v9 x.f2.f6) : k48.M w base ok x [.int .u32 x.f0.f0, .int .i64 x.f0.f1, .int .i64 x.f1, .int .i64 x.f2.f0, v4, .int .u32 x.f2.f2, .int .i64 x.f2.f3, .int .i64 x.f2.f4, v8, v9, .int .i64 x.f3] := ⟨[.int .u32 x.f0.f0, .int .i64 x.f0.f1], [.int .i64 x.f1, .int .i64 x.f2.f0, v4, .int .u32 x.f2.f2, .int .i64 x.f2.f3, .int .i64 x.f2.f4, v8, v9, .int .i64 x.f3], rfl, (k42_mkM w base ok x.f0 ), ⟨[.int .i64 x.f1], [.int .i64 x.f2.f0, v4, .int .u32 x.f2.f2, .int .i64 x.f2.f3, .int .i64 x.f2.f4, v8, v9, .int .i64 x.f3], rfl, rfl, ⟨[.int .i64 x.f2.f0, v4, .int .u32 x.f2.f2, .int .i64 x.f2.f3, .int .i64 x.f2.f4, v8, v9], [.int .i64 x.f3], rfl, (k46_mkM w base ok x.f2 g4 g8 g9), rfl⟩⟩⟩
def rd_T48 (xs : List S48) (i : Int) : S48 := xs.getD i.toNat z48
theorem at_T48 {w : World} {A : Option Addr} {n : Nat} {xs : List S48} (h : Kd.C k48 w A n xs) (i : Int) (h0 : 0 ≤ i) (h1 : i < n) : ∃ ad A4 c4 A8 c8 A9 c9, A = some ad ∧ w.cell? (ad.add (i.toNat * 11)) = some (.int .u32 (rd_T48 xs i).f0.f0) ∧ w.cell? ⟨(ad.add (i.toNat * 11)).block, (ad.add (i.toNat * 11)).off + 1, none⟩ = some (.int .i64 (rd_T48 xs i).f0.f1) ∧ w.cell? ⟨(ad.add (i.toNat * 11)).block, (ad.add (i.toNat * 11)).off + 2, none⟩ = some (.int .i64 (rd_T48 xs i).f1) ∧ w.cell? ⟨(ad.add (i.toNat * 11)).block, (ad.add (i.toNat * 11)).off + 3, none⟩ = some (.int .i64 (rd_T48 xs i).f2.f0) ∧ w.cell? ⟨(ad.add (i.toNat * 11)).block, (ad.add (i.toNat * 11)).off + 4, none⟩ = some (.slice A4 (rd_T48 xs i).f2.f1.length c4) ∧ w.cell? ⟨(ad.add (i.toNat * 11)).block, (ad.add (i.toNat * 11)).off + 5, none⟩ = some (.int .u32 (rd_T48 xs i).f2.f2) ∧ w.cell? ⟨(ad.add (i.toNat * 11)).block, (ad.add (i.toNat * 11)).off + 6, none⟩ = some (.int .i64 (rd_T48 xs i).f2.f3) ∧ w.cell? ⟨(ad.add (i.toNat * 11)).block, (ad.add (i.toNat * 11)).off + 7, none⟩ = some (.int .i64 (rd_T48 xs i).f2.f4) ∧ w.cell? ⟨(ad.add (i.toNat * 11)).block, (ad.add (i.toNat * 11)).off + 8, none⟩ = some (.slice A8 (rd_T48 xs i).f2.f5.length c8) ∧ w.cell? ⟨(ad.add (i.toNat * 11)).block, (ad.add (i.toNat * 11)).off + 9, none⟩ = some (.slice A9 (rd_T48 xs i).f2.f6.length c9) ∧ w.cell? ⟨(ad.add (i.toNat * 11)).block, (ad.add (i.toNat * 11)).off + 10, none⟩ = some (.int .i64 (rd_T48 xs i).f3) ∧ (rd_T48 xs i).f2.f1.length ≤ c4 ∧ k38.C w A4 (rd_T48 xs i).f2.f1.length (rd_T48 xs i).f2.f1 ∧ (rd_T48 xs i).f2.f5.length ≤ c8 ∧ (Kd.int .u32).C w A8 (rd_T48 xs i).f2.f5.length (rd_T48 xs i).f2.f5 ∧ (rd_T48 xs i).f2.f6.length ≤ c9 ∧ k58.C w A9 (rd_T48 xs i).f2.f6.length (rd_T48 xs i).f2.f6 := by
  obtain ⟨ad, c, e, _, hK, hc0⟩ := Kd.C_get h z48 i h0 h1
  have hc : ∀ j u, c[j]? = some u → w.cell? (ad.add (i.toNat * 11 + j)) = some u := hc0
  obtain ⟨A4, c4, A8, c8, A9, c9, rfl, l4, g4, l8, g8, l9, g9⟩ := k48_open hK
  exact ⟨ad, A4, c4, A8, c8, A9, c9, e, hc 0 _ rfl, by rw [← add_field _ _ 1 (by omega)]; exact hc 1 _ rfl, by rw [← add_field _ _ 2 (by omega)]; exact hc 2 _ rfl, by rw [← add_field _ _ 3 (by omega)]; exact hc 3 _ rfl, by rw [← add_field _ _ 4 (by omega)]; exact hc 4 _ rfl, by rw [← add_field _ _ 5 (by omega)]; exact hc 5 _ rfl, by rw [← add_field _ _ 6 (by omega)]; exact hc 6 _ rfl, by rw [← add_field _ _ 7 (by omega)]; exact hc 7 _ rfl, by rw [← add_field _ _ 8 (by omega)]; exact hc 8 _ rfl, by rw [← add_field _ _ 9 (by omega)]; exact hc 9 _ rfl, by rw [← add_field _ _ 10 (by omega)]; exact hc 10 _ rfl, l4, g4, l8, g8, l9, g9⟩

abbrev T_ : Bool := true
abbrev F_ : Bool := false
theorem q1_ {α : Type} (l : List α) (i : Nat) (a : α) : l.toArray.setIfInBounds i a = (l.set i a).toArray := by simp
theorem q2_ {α : Type} (x a : α) (l : List α) : (x :: l).set 0 a = a :: l := rfl
theorem q3_ {α : Type} (x a : α) (l : List α) (i : Nat) : (x :: l).set (i + 1) a = x :: l.set i a := rfl
end Go.Proofs.Ytpkckkmgnlhhcaa.PRouteOwn
