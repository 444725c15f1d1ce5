-- Lean text by a program of this repo (wip/tools/printx.py), out of Lean's own print of the translation
import Derived.Maps.Range
import Derived.BigRegion
import Derived.RegionTactic
import Derived.Test.YteheclbneoodeaaPTriePlaysx0
import Derived.Test.YteheclbneoodeaaPTriePlaysx2
namespace Go.Proofs.Yteheclbneoodeaa.PTriePlays
open Go.RowKit Go.Proofs.YteheclbneoodeaaW.PrintWords Go.Proofs.YteheclbneoodeaaW.PrintLast Go.Proofs.YteheclbneoodeaaW.PrintMore
attribute [local go_sem] max2_int min2_int max_two min_two max_three min_three max_four min_four   -- for this text's walks alone
set_option linter.unusedVariables false
set_option linter.unusedSimpArgs false

/-! ### trie_node_walk: function 32 -/
-- FN rounds=0 making=1
-- IMPORT Derived.RegionTactic
-- IMPORT Derived.BigRegion
-- IMPORT Derived.Maps.Range
theorem trie_paths_none {w0 W : World} {g : Nat} {s : Trie.TrieM} {M : List Bool → Option Nat} (h : IsM w0 W g s M) : ∀ (d : Nat) (π : List Bool), M π = none → Trie.paths s d π = []
  | 0, π, hp => by
    unfold Trie.paths
    rw [h.none_ _ hp]
    rfl
  | d + 1, π, hp => by
    unfold Trie.paths
    rw [h.none_ _ hp, trie_paths_none h d _ (h.up false π hp), trie_paths_none h d _ (h.up true π hp)]
    rfl
def trie_toP (π : List Bool) : S47 := ⟨Trie.addr π, π.length⟩
def trie_here (s : Trie.TrieM) (π : List Bool) : List (List Bool) := if (s π).isSome = true then [π] else []
def trie_kid (s : Trie.TrieM) : Nat → Bool → List Bool → List (List Bool)
  | 0, _, _ => []
  | d + 1, x, π => Trie.paths s d (x :: π)
theorem trie_kid_none {w0 W : World} {g : Nat} {s : Trie.TrieM} {M : List Bool → Option Nat} (h : IsM w0 W g s M) (d : Nat) (x : Bool) {π : List Bool} (hp : M (x :: π) = none) : trie_kid s d x π = [] := by
  cases d with
  | zero => rfl
  | succ d => exact trie_paths_none h d _ hp
/-- What is told behind n of the two kids. -/
def trie_part (s : Trie.TrieM) (d : Nat) (π : List Bool) : Nat → List S47
  | 0 => (trie_here s π).map trie_toP
  | 1 => (trie_here s π ++ trie_kid s d false π).map trie_toP
  | _ => (Trie.paths s d π).map trie_toP
theorem trie_paths_eq (s : Trie.TrieM) (d : Nat) (π : List Bool) : Trie.paths s d π = trie_here s π ++ trie_kid s d false π ++ trie_kid s d true π := by
  cases d with
  | zero => unfold Trie.paths trie_here trie_kid; simp
  | succ d => unfold Trie.paths trie_here trie_kid; simp
theorem trie_part_succ (s : Trie.TrieM) (d : Nat) (π : List Bool) (x : Bool) : trie_part s d π (x.toNat + 1) = trie_part s d π x.toNat ++ (trie_kid s d x π).map trie_toP := by
  cases x
  · simp [trie_part]
  · simp [trie_part, trie_paths_eq]
theorem trie_part_len (s : Trie.TrieM) (d : Nat) (π : List Bool) (n : Nat) : (trie_part s d π n).length ≤ (Trie.paths s d π).length := by
  match n with
  | 0 => simp [trie_part, trie_paths_eq]
  | 1 => simp [trie_part, trie_paths_eq]
  | _ + 2 => simp [trie_part]
open Go.Proofs.Yteheclbneoodeaa.Pre in
theorem trie_shl (n : Nat) (h : n < 32) : (2 : Int) ^ (31 - n) % 4294967296 = D ((n : Int) + 1) := by
  have h1 := D_le ((n : Int) + 1) (by omega) (by omega)
  have h2 := D_pos ((n : Int) + 1)
  have h3 := D_succ n (by omega) (by omega)
  have h4 := D_le (n : Int) (by omega) (by omega)
  unfold D at *
  rw [show (32 - ((n : Int) + 1)).toNat = 31 - n by omega] at *
  exact Int.emod_eq_of_lt (by omega) (by omega)
/-- A row lies where another one did, or in a new block. -/
def OwnOr (r r0 : Option Nat) (n : Nat) : Prop := r = r0 ∨ ∃ q, r = some q ∧ n ≤ q
open Go.Proofs.Yteheclbneoodeaa.Trie Go.Proofs.Yteheclbneoodeaa.Pre in
def WalkOk (s : Trie.TrieM) (M : List Bool → Option Nat) (wS : World) (d : Nat) : Prop := ∀ (π : List Bool) (b : Nat) (vo : Value) (xs : List S47) (w : World), M π = some b → π.length + d = 32 → Below wS.heap.size wS w →
    Kd.R k47 47 w wS.heap.size (fun _ => True) vo xs → xs.length + (Trie.paths s d π).length < 1000000 →
    Calls Try.prog 32 #[.pointer (some ⟨b, 0, none⟩), .agg #[.int .u32 (addr π), .int .i64 π.length], vo] w fun e w' => ∃ v', e = .returned v' ∧ Kd.R k47 47 w' wS.heap.size (fun _ => True) v' (xs ++ (Trie.paths s d π).map trie_toP) ∧
      Below wS.heap.size wS w' ∧ w.grownBy w' vo.ownBlock ∧ (v'.ownBlock = vo.ownBlock ∨ ∃ q, v'.ownBlock = some q ∧ w.heap.size ≤ q)
theorem two_cells (s : Trie.TrieM) (M : List Bool → Option Nat) (π : List Bool) : ∀ (j : Nat) (v : Value), [ptrB (M (false :: π)), ptrB (M (true :: π))][j]? = some v → (nodeCells s M π).toList[0 + j]? = some v := by
  intro j v h
  match j with
  | 0 => exact h
  | 1 => exact h
  | j + 2 => simp at h
theorem walk_next {w wr W w2 : World} {r0 r1 r2 : Option Nat} {o : Obj} (HG1 : w.grownBy wr r0) (hW : wr.grownBy W none) (HO1 : OwnOr r1 r0 w.heap.size) (hG2 : W.grownBy w2 r1) (hO2 : OwnOr r2 r1 W.heap.size) (HX1 : wr.heap[w.heap.size]? = some o) (HE1 : some w.heap.size ≠ r1) :
    w.grownBy w2 r0 ∧ OwnOr r2 r0 w.heap.size ∧ w2.heap[w.heap.size]? = some o ∧ some w.heap.size ≠ r2 := by
  have hs1 := HG1.size
  have hs2 := hW.size
  have hlt := blk_lt HX1
  have hx : W.heap[w.heap.size]? = some o := (hW.block _ hlt (by simp)).trans HX1
  refine ⟨(HG1.andThen hW (fun j e => by cases e)).andThen hG2 (fun j e => ?_), ?_, (hG2.block _ (blk_lt hx) HE1).trans hx, fun e => ?_⟩
  · rcases HO1 with h | ⟨q, h, hq⟩
    · exact .inr (h ▸ e)
    · rw [h] at e
      injection e with e
      subst e
      exact .inl hq
  · rcases hO2 with h | ⟨q, h, hq⟩
    · rw [h]
      exact HO1
    · exact .inr ⟨q, h, by omega⟩
  · rcases hO2 with h | ⟨q, h, hq⟩
    · exact HE1 (e.trans h)
    · rw [h] at e
      injection e with e
      omega
set_option maxHeartbeats 4000000 in
set_option maxRecDepth 100000 in
open Go.Proofs.Yteheclbneoodeaa.Trie Go.Proofs.Yteheclbneoodeaa.Pre Go.Proofs.Yteheclbneoodeaa.Mid in
theorem trie_walk_step (g : Nat) (s : Trie.TrieM) (M : List Bool → Option Nat) (w0 wS : World) (hI : IsM w0 wS g s M) (d : Nat) (ih : ∀ d', d' + 1 = d → WalkOk s M wS d') : WalkOk s M wS d := by
    intro π b vo xs w hb hd hbw hR hlen
    have hu47 := Try.underlying47
    have hI1 := hI.below hbw
    have hIa := hI1.below (below_alloc (Below.refl _ w) (.cells #[.int .u32 (addr π), .int .i64 π.length] 47))
    have hc := trie_cell2 hIa hb
    obtain ⟨q0, hq0⟩ : ∃ q : Value, q = ptrB (M (false :: π)) := ⟨_, rfl⟩
    obtain ⟨q1, hq1⟩ : ∃ q : Value, q = ptrB (M (true :: π)) := ⟨_, rfl⟩
    have HTC := Aside0.mk (show ∀ (j : Nat) (v : Value), [q0, q1][j]? = some v → (nodeCells s M π).toList[0 + j]? = some v by rw [hq0, hq1]; exact two_cells s M π)
    have HQ0 := Aside0.mk hq0
    have HQ1 := Aside0.mk hq1
    clear hq0 hq1
    have hx0 : ∀ (a c : Value) (W : World), (Instr.index 71 (.agg #[a, c]) (.int .i64 0)).run Try.prog W = .ok a W := fun _ _ _ => by kernel_rfl
    have hx1 : ∀ (a c : Value) (W : World), (Instr.index 71 (.agg #[a, c]) (.int .i64 1)).run Try.prog W = .ok c W := fun _ _ _ => by kernel_rfl
    have HI := Aside0.mk hI
    have HB0 := Aside0.mk hbw
    have HR0 := Aside0.mk hR
    have HL := Aside0.mk hlen
    have HD := Aside0.mk hd
    have HM := Aside0.mk hb
    have HIH := Aside0.mk ih
    have HBL := Aside0.mk (show b < w.heap.size from blk_lt (hI1.at_ _ _ hb).2.2)
    have HV := Aside0.mk (show ∀ k, vo.ownBlock = some k → k < w.heap.size from fun k hk => (own_typed (Kd.R_own hR).choose_spec k hk).elim (fun cells hc => blk_lt hc))
    have HNB := Aside0.mk (hIa.at_ _ _ hb).2.2
    clear hIa ih hI hI1 hbw hR hlen hd hb
    cases hs : s π with
    | none =>
      rw [hs] at hc
      have hc3 : World.cell? _ ⟨b, 3, none⟩ = some (.bool false) := hc.2
      have HS1 := Aside0.mk (show Kd.R k47 47 (w.alloc (.cells #[.int .u32 (addr π), .int .i64 π.length] 47)) wS.heap.size (fun _ => True) vo (xs ++ trie_part s d π 0) by
        have : trie_part s d π 0 = [] := by unfold trie_part trie_here; rw [hs]; rfl
        rw [this, List.append_nil]
        exact Kd.R_alloc HR0.out _)
      have HS2 := Aside0.mk (below_alloc HB0.out (.cells #[.int .u32 (addr π), .int .i64 π.length] 47))
      have HS3 := Aside0.mk (show w.grownBy (w.alloc (.cells #[.int .u32 (addr π), .int .i64 π.length] 47)) vo.ownBlock from World.grownBy_alloc w _ _)
      have HS4 := Aside0.mk (show OwnOr vo.ownBlock vo.ownBlock w.heap.size from .inl rfl)
      have HS5 := Aside0.mk (heap_alloc_new w (.cells #[.int .u32 (addr π), .int .i64 π.length] 47))
      have HS6 := Aside0.mk (show some w.heap.size ≠ vo.ownBlock from fun e => absurd (HV.out _ e.symm) (Nat.lt_irrefl _))
      clear hs hc
      go_enter Try.func32, Try.ntmps32
      go_wp2_with ((with_reducible refine gate_dst (N := 21) rfl ?_); refine load_blk rfl 71 (.tmp 20) rfl (g := b) (off := 0) [q0, q1] _ rfl HNB.out HTC.out Try.underlying71 rfl (by kernel_rfl) ?_)
      go_loopg [2, 22] 3 (fun kq v2 v22 wr => ∃ n : Nat, v22 = .int .i64 n ∧ Aside0 (n + kq = 3 ∧ n ≤ 2) ∧ Aside0 (Kd.R k47 47 wr wS.heap.size (fun _ => True) v2 (xs ++ trie_part s d π n)) ∧ Aside0 (Below wS.heap.size wS wr) ∧ Aside0 (w.grownBy wr vo.ownBlock) ∧
        Aside0 (OwnOr v2.ownBlock vo.ownBlock w.heap.size) ∧ Aside0 (wr.heap[w.heap.size]? = some (.cells #[.int .u32 (addr π), .int .i64 π.length] 47 (0, 0))) ∧ Aside0 (some w.heap.size ≠ v2.ownBlock))
      case atStart => exact ⟨0, rfl, ⟨by omega⟩, HS1, HS2, HS3, HS4, HS5, HS6⟩
      case round =>
        obtain ⟨n, rfl, HN, HR1, HB1, HG1, HO1, HX1, HE1⟩ := hrel
        clear HS1 HS2 HS3 HS4 HS5 HS6
        cases gk with
        | zero => exact absurd HN.out.1 (by have := HN.out.2; omega)
        | succ k1 =>
        rcases (show n = 0 ∨ n = 1 ∨ n = 2 by have := HN.out.2; omega) with rfl | rfl | rfl
        · cases hm : M (false :: π) with
          | none =>
            have e := HQ0.out
            rw [hm, ptrB_none] at e
            have HMN := Aside0.mk hm
            clear hm HTC HQ0
            subst e
            go_wp2
            go_roundg k1
            case measure => omega
            case rel => exact ⟨1, by go_num, ⟨by have := HN.out.1; omega⟩, ⟨by rw [show trie_part s d π 1 = _ from trie_part_succ s d π false, trie_kid_none HI.out d false HMN.out, List.map_nil, List.append_nil]; exact HR1.out⟩, HB1, HG1, HO1, HX1, HE1⟩
          | some b1 =>
            have e := HQ0.out
            rw [hm, ptrB_some] at e
            have HMN := Aside0.mk hm
            clear hm HTC HQ0
            subst e
            have HL32 := Aside0.mk (show π.length < 32 by have := (HI.out.at_ _ _ HMN.out).2.1; rw [List.length_cons] at this; omega)
            obtain ⟨d', hdd⟩ : ∃ d', d' + 1 = d := ⟨d - 1, by have := HD.out; have := HL32.out; omega⟩
            have HDD := Aside0.mk hdd
            have HW_ := Aside0.mk (HIH.out d' hdd)
            have HKD := Aside0.mk (show trie_kid s d false π = paths s d' (false :: π) by rw [← hdd]; rfl)
            clear hdd
            have hz0 : wr.cell? ⟨w.heap.size, 0, none⟩ = some (.int .u32 (addr π)) := (blk_cell HX1.out 0).trans rfl
            have hz1 : wr.cell? ⟨w.heap.size, 1, none⟩ = some (.int .i64 (π.length : Int)) := (blk_cell HX1.out 1).trans rfl
            have hlx := blk_lt HX1.out
            have s1 : IntKind.i64.wrap (31 - (π.length : Int)) = 31 - (π.length : Int) := (i64_w _).trans (by have := HL32.out; unfold wrap64; omega)
            have s2 : IntKind.i64.wrap ((π.length : Int) + 1) = (π.length : Int) + 1 := (i64_w _).trans (by have := HL32.out; unfold wrap64; omega)
            have s3 : (0 : Int) ≤ 31 - (π.length : Int) := by have := HL32.out; omega
            go_wp2
            go_big_region
            rw [show Go.bits .or .u32 (addr π) 0 = addr (false :: π) from or_addr π false HL32.out]
            clear hz0 hz1 s1 s2 s3 hlx
            have HWB := Aside0.mk (show Below wS.heap.size wS (wr.alloc (.cells #[.int .u32 (addr (false :: π)), .int .i64 ((π.length : Int) + 1)] 47)).drew from below_drew (below_alloc HB1.out _))
            have HWR := Aside0.mk (show Kd.R k47 47 (wr.alloc (.cells #[.int .u32 (addr (false :: π)), .int .i64 ((π.length : Int) + 1)] 47)).drew wS.heap.size (fun _ => True) _ _ from Kd.R_drew (Kd.R_alloc HR1.out _))
            have HC := HW_.out (false :: π) b1 _ _ _ HMN.out (by rw [List.length_cons]; have := HD.out; have := HDD.out; omega) HWB.out HWR.out (by
              have h1 := congrArg List.length (trie_part_succ s d π false)
              have h2 := trie_part_len s d π (Bool.toNat false + 1)
              have h3 := HL.out
              rw [List.length_append, List.length_map, HKD.out] at h1
              rw [List.length_append, show trie_part s d π 0 = trie_part s d π (Bool.toNat false) from rfl]
              omega)
            rw [show (((false :: π).length : Nat) : Int) = (π.length : Int) + 1 from rfl] at HC
            have HC := Aside0.mk HC
            go_wp2_with fail
            refine HC.out.mono ?_
            rintro e w2 ⟨v2, rfl, hR2, hB2, hG2, hO2⟩
            have HR2 := Aside0.mk hR2
            have HB2 := Aside0.mk hB2
            have hg := World.grownBy_alloc wr (.cells #[.int .u32 (addr (false :: π)), .int .i64 ((π.length : Int) + 1)] 47) none
            have HN2 := Aside0.mk (walk_next (W := (wr.alloc (.cells #[.int .u32 (addr (false :: π)), .int .i64 ((π.length : Int) + 1)] 47)).drew) HG1.out ⟨hg.os, hg.tape, hg.output, hg.size, hg.block⟩ HO1.out hG2 hO2 HX1.out HE1.out)
            clear hR2 hB2 hG2 hO2 hg HC HWB HWR
            go_wp2
            go_roundg k1
            case measure => omega
            case rel => exact ⟨1, by go_num, ⟨by have := HN.out.1; omega⟩, ⟨by rw [show trie_part s d π 1 = _ from trie_part_succ s d π false, HKD.out, ← List.append_assoc]; exact HR2.out⟩, HB2, ⟨HN2.out.1⟩, ⟨HN2.out.2.1⟩, ⟨HN2.out.2.2.1⟩, ⟨HN2.out.2.2.2⟩⟩
        · cases hm : M (true :: π) with
          | none =>
            have e := HQ1.out
            rw [hm, ptrB_none] at e
            have HMN := Aside0.mk hm
            clear hm HTC HQ1
            subst e
            go_wp2
            go_roundg k1
            case measure => omega
            case rel => exact ⟨2, by go_num, ⟨by have := HN.out.1; omega⟩, ⟨by rw [show trie_part s d π 2 = _ from trie_part_succ s d π true, trie_kid_none HI.out d true HMN.out, List.map_nil, List.append_nil]; exact HR1.out⟩, HB1, HG1, HO1, HX1, HE1⟩
          | some b1 =>
            have e := HQ1.out
            rw [hm, ptrB_some] at e
            have HMN := Aside0.mk hm
            clear hm HTC HQ1
            subst e
            have HL32 := Aside0.mk (show π.length < 32 by have := (HI.out.at_ _ _ HMN.out).2.1; rw [List.length_cons] at this; omega)
            obtain ⟨d', hdd⟩ : ∃ d', d' + 1 = d := ⟨d - 1, by have := HD.out; have := HL32.out; omega⟩
            have HDD := Aside0.mk hdd
            have HW_ := Aside0.mk (HIH.out d' hdd)
            have HKD := Aside0.mk (show trie_kid s d true π = paths s d' (true :: π) by rw [← hdd]; rfl)
            clear hdd
            have hz0 : wr.cell? ⟨w.heap.size, 0, none⟩ = some (.int .u32 (addr π)) := (blk_cell HX1.out 0).trans rfl
            have hz1 : wr.cell? ⟨w.heap.size, 1, none⟩ = some (.int .i64 (π.length : Int)) := (blk_cell HX1.out 1).trans rfl
            have hlx := blk_lt HX1.out
            have s1 : IntKind.i64.wrap (31 - (π.length : Int)) = 31 - (π.length : Int) := (i64_w _).trans (by have := HL32.out; unfold wrap64; omega)
            have s2 : IntKind.i64.wrap ((π.length : Int) + 1) = (π.length : Int) + 1 := (i64_w _).trans (by have := HL32.out; unfold wrap64; omega)
            have s3 : (0 : Int) ≤ 31 - (π.length : Int) := by have := HL32.out; omega
            go_wp2
            go_big_region
            rw [show Go.bits .or .u32 (addr π) (2 ^ (31 - π.length) % 4294967296) = addr (true :: π) by rw [trie_shl π.length HL32.out]; exact or_addr π true HL32.out]
            clear hz0 hz1 s1 s2 s3 hlx
            have HWB := Aside0.mk (show Below wS.heap.size wS (wr.alloc (.cells #[.int .u32 (addr (true :: π)), .int .i64 ((π.length : Int) + 1)] 47)).drew from below_drew (below_alloc HB1.out _))
            have HWR := Aside0.mk (show Kd.R k47 47 (wr.alloc (.cells #[.int .u32 (addr (true :: π)), .int .i64 ((π.length : Int) + 1)] 47)).drew wS.heap.size (fun _ => True) _ _ from Kd.R_drew (Kd.R_alloc HR1.out _))
            have HC := HW_.out (true :: π) b1 _ _ _ HMN.out (by rw [List.length_cons]; have := HD.out; have := HDD.out; omega) HWB.out HWR.out (by
              have h1 := congrArg List.length (trie_part_succ s d π true)
              have h2 := trie_part_len s d π (Bool.toNat true + 1)
              have h3 := HL.out
              rw [List.length_append, List.length_map, HKD.out] at h1
              rw [List.length_append, show trie_part s d π 1 = trie_part s d π (Bool.toNat true) from rfl]
              omega)
            rw [show (((true :: π).length : Nat) : Int) = (π.length : Int) + 1 from rfl] at HC
            have HC := Aside0.mk HC
            go_wp2_with fail
            refine HC.out.mono ?_
            rintro e w2 ⟨v2, rfl, hR2, hB2, hG2, hO2⟩
            have HR2 := Aside0.mk hR2
            have HB2 := Aside0.mk hB2
            have hg := World.grownBy_alloc wr (.cells #[.int .u32 (addr (true :: π)), .int .i64 ((π.length : Int) + 1)] 47) none
            have HN2 := Aside0.mk (walk_next (W := (wr.alloc (.cells #[.int .u32 (addr (true :: π)), .int .i64 ((π.length : Int) + 1)] 47)).drew) HG1.out ⟨hg.os, hg.tape, hg.output, hg.size, hg.block⟩ HO1.out hG2 hO2 HX1.out HE1.out)
            clear hR2 hB2 hG2 hO2 hg HC HWB HWR
            go_wp2
            go_roundg k1
            case measure => omega
            case rel => exact ⟨2, by go_num, ⟨by have := HN.out.1; omega⟩, ⟨by rw [show trie_part s d π 2 = _ from trie_part_succ s d π true, HKD.out, ← List.append_assoc]; exact HR2.out⟩, HB2, ⟨HN2.out.1⟩, ⟨HN2.out.2.1⟩, ⟨HN2.out.2.2.1⟩, ⟨HN2.out.2.2.2⟩⟩
        · go_wp2
          go_ret
          exact ⟨_, rfl, HR1.out, HB1.out, HG1.out, HO1.out⟩
    | some v =>
      rw [hs] at hc
      have hc3 : World.cell? _ ⟨b, 3, none⟩ = some (.bool true) := hc.2
      have HSV := Aside0.mk (show trie_part s d π 0 = [trie_toP π] by unfold trie_part trie_here; rw [hs]; rfl)
      have HPL := Aside0.mk (show 1 ≤ (paths s d π).length by
        have := trie_part_len s d π 0
        rw [HSV.out] at this
        exact this)
      clear hs hc
      have hz0 : (w.alloc (.cells #[.int .u32 (addr π), .int .i64 π.length] 47)).cell? ⟨w.heap.size, 0, none⟩ = some (.int .u32 (addr π)) := (blk_cell (heap_alloc_new w _) 0).trans rfl
      have hz1 : (w.alloc (.cells #[.int .u32 (addr π), .int .i64 π.length] 47)).cell? ⟨w.heap.size, 1, none⟩ = some (.int .i64 (π.length : Int)) := (blk_cell (heap_alloc_new w _) 1).trans rfl
      have HBA := Aside0.mk (below_alloc HB0.out (.cells #[.int .u32 (addr π), .int .i64 π.length] 47))
      have HRA := Aside0.mk (Kd.R_alloc HR0.out (.cells #[.int .u32 (addr π), .int .i64 π.length] 47))
      go_enter Try.func32, Try.ntmps32
      go_wp2_with ((with_reducible refine gate_builtin (b := .append) (xs := #[.tmp 14, .tmp 16]) rfl ?_); at_builtin; refine Kd.R_append k47 (w0 := wS) (W := w.alloc (.cells #[.int .u32 (addr π), .int .i64 π.length] 47)) wS.heap.size rfl (.tmp 14) (.tmp 16) 54 47 (.agg #[.int .u32 0, .int .i64 0]) 16 rfl Try.underlying54 (show (Try.prog.info? 47).map (fun i => (i.zero, i.size, i.bytes)) = some (some (.agg #[.int .u32 0, .int .i64 0]), 2, 16) from by kernel_rfl) rfl (by decide) (by omega) vo xs (trie_toP π) [.int .u32 (addr π), .int .i64 π.length] (fun _ => True) (fun _ => False) rfl (by first | rfl | (simp [Act.eval]; done)) ?aP (fun _ hk => hk.elim) ?aF ?aO ?aB ?aS ?aL ?_; (case aP => exact k47_mkM _ _ _ (trie_toP π)); (case aF => exact fun _ _ => trivial); (case aO => exact HRA.out); (case aB => exact HBA.out); (case aS => exact HBA.out.size); (case aL => have := HL.out; have := HPL.out; omega); intro v17 w17 ho hb hg hat; have HS1 := Aside0.mk (show Kd.R k47 47 w17 wS.heap.size (fun _ => True) v17 (xs ++ trie_part s d π 0) by rw [HSV.out]; exact ho); have HS2 := Aside0.mk hb; have HG17 := Aside0.mk hg; have HA17 := Aside0.mk hat; clear ho hb hg hat; refine hold ?_)
      unfold Hold
      have hga := World.grownBy_alloc w (.cells #[.int .u32 (addr π), .int .i64 π.length] 47) vo.ownBlock
      have HS3 := Aside0.mk (show w.grownBy w17 vo.ownBlock from hga.andThen HG17.out (fun j e => .inr e))
      have HS4 := Aside0.mk (show OwnOr v17.ownBlock vo.ownBlock w.heap.size from HA17.out.imp id (fun ⟨q, h1, h2⟩ => ⟨q, h1, Nat.le_trans hga.size h2⟩))
      have HS6 := Aside0.mk (show some w.heap.size ≠ v17.ownBlock from fun e => by
        rcases HA17.out with h | ⟨q, h, hq⟩
        · exact absurd (HV.out _ (h.symm.trans e.symm)) (Nat.lt_irrefl _)
        · rw [h] at e
          injection e with e
          have : w.heap.size + 1 ≤ q := by simpa using hq
          omega)
      have HS5 := Aside0.mk (show w17.heap[w.heap.size]? = some (.cells #[.int .u32 (addr π), .int .i64 π.length] 47 (0, 0)) from (HG17.out.block _ (blk_lt (heap_alloc_new w _)) (fun e => absurd (HV.out _ e.symm) (Nat.lt_irrefl _))).trans (heap_alloc_new w _))
      have HN17 := Aside0.mk (show w17.heap[b]? = some (.cells (nodeCells s M π) (nodeT π) (0, 0)) from (HI.out.below HS2.out).at_ _ _ HM.out |>.2.2)
      clear hga HG17 HA17 hz0 hz1 hc3
      go_wp2_with ((with_reducible refine gate_dst (N := 21) rfl ?_); refine load_blk rfl 71 (.tmp 20) rfl (g := b) (off := 0) [q0, q1] _ rfl HN17.out HTC.out Try.underlying71 rfl (by kernel_rfl) ?_)
      go_loopg [2, 22] 3 (fun kq v2 v22 wr => ∃ n : Nat, v22 = .int .i64 n ∧ Aside0 (n + kq = 3 ∧ n ≤ 2) ∧ Aside0 (Kd.R k47 47 wr wS.heap.size (fun _ => True) v2 (xs ++ trie_part s d π n)) ∧ Aside0 (Below wS.heap.size wS wr) ∧ Aside0 (w.grownBy wr vo.ownBlock) ∧
        Aside0 (OwnOr v2.ownBlock vo.ownBlock w.heap.size) ∧ Aside0 (wr.heap[w.heap.size]? = some (.cells #[.int .u32 (addr π), .int .i64 π.length] 47 (0, 0))) ∧ Aside0 (some w.heap.size ≠ v2.ownBlock))
      case atStart => exact ⟨0, rfl, ⟨by omega⟩, HS1, HS2, HS3, HS4, HS5, HS6⟩
      case round =>
        obtain ⟨n, rfl, HN, HR1, HB1, HG1, HO1, HX1, HE1⟩ := hrel
        clear HS1 HS2 HS3 HS4 HS5 HS6
        cases gk with
        | zero => exact absurd HN.out.1 (by have := HN.out.2; omega)
        | succ k1 =>
        rcases (show n = 0 ∨ n = 1 ∨ n = 2 by have := HN.out.2; omega) with rfl | rfl | rfl
        · cases hm : M (false :: π) with
          | none =>
            have e := HQ0.out
            rw [hm, ptrB_none] at e
            have HMN := Aside0.mk hm
            clear hm HTC HQ0
            subst e
            go_wp2
            go_roundg k1
            case measure => omega
            case rel => exact ⟨1, by go_num, ⟨by have := HN.out.1; omega⟩, ⟨by rw [show trie_part s d π 1 = _ from trie_part_succ s d π false, trie_kid_none HI.out d false HMN.out, List.map_nil, List.append_nil]; exact HR1.out⟩, HB1, HG1, HO1, HX1, HE1⟩
          | some b1 =>
            have e := HQ0.out
            rw [hm, ptrB_some] at e
            have HMN := Aside0.mk hm
            clear hm HTC HQ0
            subst e
            have HL32 := Aside0.mk (show π.length < 32 by have := (HI.out.at_ _ _ HMN.out).2.1; rw [List.length_cons] at this; omega)
            obtain ⟨d', hdd⟩ : ∃ d', d' + 1 = d := ⟨d - 1, by have := HD.out; have := HL32.out; omega⟩
            have HDD := Aside0.mk hdd
            have HW_ := Aside0.mk (HIH.out d' hdd)
            have HKD := Aside0.mk (show trie_kid s d false π = paths s d' (false :: π) by rw [← hdd]; rfl)
            clear hdd
            have hz0 : wr.cell? ⟨w.heap.size, 0, none⟩ = some (.int .u32 (addr π)) := (blk_cell HX1.out 0).trans rfl
            have hz1 : wr.cell? ⟨w.heap.size, 1, none⟩ = some (.int .i64 (π.length : Int)) := (blk_cell HX1.out 1).trans rfl
            have hlx := blk_lt HX1.out
            have s1 : IntKind.i64.wrap (31 - (π.length : Int)) = 31 - (π.length : Int) := (i64_w _).trans (by have := HL32.out; unfold wrap64; omega)
            have s2 : IntKind.i64.wrap ((π.length : Int) + 1) = (π.length : Int) + 1 := (i64_w _).trans (by have := HL32.out; unfold wrap64; omega)
            have s3 : (0 : Int) ≤ 31 - (π.length : Int) := by have := HL32.out; omega
            go_wp2
            go_big_region
            rw [show Go.bits .or .u32 (addr π) 0 = addr (false :: π) from or_addr π false HL32.out]
            clear hz0 hz1 s1 s2 s3 hlx
            have HWB := Aside0.mk (show Below wS.heap.size wS (wr.alloc (.cells #[.int .u32 (addr (false :: π)), .int .i64 ((π.length : Int) + 1)] 47)).drew from below_drew (below_alloc HB1.out _))
            have HWR := Aside0.mk (show Kd.R k47 47 (wr.alloc (.cells #[.int .u32 (addr (false :: π)), .int .i64 ((π.length : Int) + 1)] 47)).drew wS.heap.size (fun _ => True) _ _ from Kd.R_drew (Kd.R_alloc HR1.out _))
            have HC := HW_.out (false :: π) b1 _ _ _ HMN.out (by rw [List.length_cons]; have := HD.out; have := HDD.out; omega) HWB.out HWR.out (by
              have h1 := congrArg List.length (trie_part_succ s d π false)
              have h2 := trie_part_len s d π (Bool.toNat false + 1)
              have h3 := HL.out
              rw [List.length_append, List.length_map, HKD.out] at h1
              rw [List.length_append, show trie_part s d π 0 = trie_part s d π (Bool.toNat false) from rfl]
              omega)
            rw [show (((false :: π).length : Nat) : Int) = (π.length : Int) + 1 from rfl] at HC
            have HC := Aside0.mk HC
            go_wp2_with fail
            refine HC.out.mono ?_
            rintro e w2 ⟨v2, rfl, hR2, hB2, hG2, hO2⟩
            have HR2 := Aside0.mk hR2
            have HB2 := Aside0.mk hB2
            have hg := World.grownBy_alloc wr (.cells #[.int .u32 (addr (false :: π)), .int .i64 ((π.length : Int) + 1)] 47) none
            have HN2 := Aside0.mk (walk_next (W := (wr.alloc (.cells #[.int .u32 (addr (false :: π)), .int .i64 ((π.length : Int) + 1)] 47)).drew) HG1.out ⟨hg.os, hg.tape, hg.output, hg.size, hg.block⟩ HO1.out hG2 hO2 HX1.out HE1.out)
            clear hR2 hB2 hG2 hO2 hg HC HWB HWR
            go_wp2
            go_roundg k1
            case measure => omega
            case rel => exact ⟨1, by go_num, ⟨by have := HN.out.1; omega⟩, ⟨by rw [show trie_part s d π 1 = _ from trie_part_succ s d π false, HKD.out, ← List.append_assoc]; exact HR2.out⟩, HB2, ⟨HN2.out.1⟩, ⟨HN2.out.2.1⟩, ⟨HN2.out.2.2.1⟩, ⟨HN2.out.2.2.2⟩⟩
        · cases hm : M (true :: π) with
          | none =>
            have e := HQ1.out
            rw [hm, ptrB_none] at e
            have HMN := Aside0.mk hm
            clear hm HTC HQ1
            subst e
            go_wp2
            go_roundg k1
            case measure => omega
            case rel => exact ⟨2, by go_num, ⟨by have := HN.out.1; omega⟩, ⟨by rw [show trie_part s d π 2 = _ from trie_part_succ s d π true, trie_kid_none HI.out d true HMN.out, List.map_nil, List.append_nil]; exact HR1.out⟩, HB1, HG1, HO1, HX1, HE1⟩
          | some b1 =>
            have e := HQ1.out
            rw [hm, ptrB_some] at e
            have HMN := Aside0.mk hm
            clear hm HTC HQ1
            subst e
            have HL32 := Aside0.mk (show π.length < 32 by have := (HI.out.at_ _ _ HMN.out).2.1; rw [List.length_cons] at this; omega)
            obtain ⟨d', hdd⟩ : ∃ d', d' + 1 = d := ⟨d - 1, by have := HD.out; have := HL32.out; omega⟩
            have HDD := Aside0.mk hdd
            have HW_ := Aside0.mk (HIH.out d' hdd)
            have HKD := Aside0.mk (show trie_kid s d true π = paths s d' (true :: π) by rw [← hdd]; rfl)
            clear hdd
            have hz0 : wr.cell? ⟨w.heap.size, 0, none⟩ = some (.int .u32 (addr π)) := (blk_cell HX1.out 0).trans rfl
            have hz1 : wr.cell? ⟨w.heap.size, 1, none⟩ = some (.int .i64 (π.length : Int)) := (blk_cell HX1.out 1).trans rfl
            have hlx := blk_lt HX1.out
            have s1 : IntKind.i64.wrap (31 - (π.length : Int)) = 31 - (π.length : Int) := (i64_w _).trans (by have := HL32.out; unfold wrap64; omega)
            have s2 : IntKind.i64.wrap ((π.length : Int) + 1) = (π.length : Int) + 1 := (i64_w _).trans (by have := HL32.out; unfold wrap64; omega)
            have s3 : (0 : Int) ≤ 31 - (π.length : Int) := by have := HL32.out; omega
            go_wp2
            go_big_region
            rw [show Go.bits .or .u32 (addr π) (2 ^ (31 - π.length) % 4294967296) = addr (true :: π) by rw [trie_shl π.length HL32.out]; exact or_addr π true HL32.out]
            clear hz0 hz1 s1 s2 s3 hlx
            have HWB := Aside0.mk (show Below wS.heap.size wS (wr.alloc (.cells #[.int .u32 (addr (true :: π)), .int .i64 ((π.length : Int) + 1)] 47)).drew from below_drew (below_alloc HB1.out _))
            have HWR := Aside0.mk (show Kd.R k47 47 (wr.alloc (.cells #[.int .u32 (addr (true :: π)), .int .i64 ((π.length : Int) + 1)] 47)).drew wS.heap.size (fun _ => True) _ _ from Kd.R_drew (Kd.R_alloc HR1.out _))
            have HC := HW_.out (true :: π) b1 _ _ _ HMN.out (by rw [List.length_cons]; have := HD.out; have := HDD.out; omega) HWB.out HWR.out (by
              have h1 := congrArg List.length (trie_part_succ s d π true)
              have h2 := trie_part_len s d π (Bool.toNat true + 1)
              have h3 := HL.out
              rw [List.length_append, List.length_map, HKD.out] at h1
              rw [List.length_append, show trie_part s d π 1 = trie_part s d π (Bool.toNat true) from rfl]
              omega)
            rw [show (((true :: π).length : Nat) : Int) = (π.length : Int) + 1 from rfl] at HC
            have HC := Aside0.mk HC
            go_wp2_with fail
            refine HC.out.mono ?_
            rintro e w2 ⟨v2, rfl, hR2, hB2, hG2, hO2⟩
            have HR2 := Aside0.mk hR2
            have HB2 := Aside0.mk hB2
            have hg := World.grownBy_alloc wr (.cells #[.int .u32 (addr (true :: π)), .int .i64 ((π.length : Int) + 1)] 47) none
            have HN2 := Aside0.mk (walk_next (W := (wr.alloc (.cells #[.int .u32 (addr (true :: π)), .int .i64 ((π.length : Int) + 1)] 47)).drew) HG1.out ⟨hg.os, hg.tape, hg.output, hg.size, hg.block⟩ HO1.out hG2 hO2 HX1.out HE1.out)
            clear hR2 hB2 hG2 hO2 hg HC HWB HWR
            go_wp2
            go_roundg k1
            case measure => omega
            case rel => exact ⟨2, by go_num, ⟨by have := HN.out.1; omega⟩, ⟨by rw [show trie_part s d π 2 = _ from trie_part_succ s d π true, HKD.out, ← List.append_assoc]; exact HR2.out⟩, HB2, ⟨HN2.out.1⟩, ⟨HN2.out.2.1⟩, ⟨HN2.out.2.2.1⟩, ⟨HN2.out.2.2.2⟩⟩
        · go_wp2
          go_ret
          exact ⟨_, rfl, HR1.out, HB1.out, HG1.out, HO1.out⟩
open Go.Proofs.Yteheclbneoodeaa.Trie in
theorem trie_walk (g : Nat) (s : Trie.TrieM) (M : List Bool → Option Nat) (w0 wS : World) (hI : IsM w0 wS g s M) : ∀ d, WalkOk s M wS d
  | 0 => trie_walk_step g s M w0 wS hI 0 (fun d' h => absurd h (by omega))
  | d + 1 => trie_walk_step g s M w0 wS hI (d + 1) (fun d' h => (show d' = d by omega) ▸ trie_walk g s M w0 wS hI d)


/-! ### trie_Trie_All: function 21 -/
-- FN rounds=0 making=1
def trie_Trie_All.f (s : Trie.TrieM) : Option (List S47 × Trie.TrieM) := if (Trie.paths s 32 []).length < 1000000 then some ((Trie.paths s 32 []).map trie_toP, s) else none
set_option maxHeartbeats 2000000 in
open Go.Proofs.Yteheclbneoodeaa.Trie Go.Proofs.Yteheclbneoodeaa.Pre Go.Proofs.Yteheclbneoodeaa.Opq in
theorem trie_Trie_All.calls (g : Nat) (s0_0 : Trie.TrieM) (r1 : List S47) (r2 : Trie.TrieM) (w0 w : World) (hI : IsS75 w0 w g s0_0) (hB : Below w0.heap.size w0 w) (h : trie_Trie_All.f s0_0 = some (r1, r2)) :
    Calls Try.prog 21 #[.pointer (some ⟨g, 0, none⟩)] w fun e w' => ∃ v0_ : Value, e = .returned (v0_) ∧ Kd.R k47 47 w' w.heap.size (fun _ => True) v0_ r1 ∧ IsS75 w0 w' g r2 ∧ Below w0.heap.size w0 w' ∧ Go.Proofs.Yteheclbneoodeaa.Opq.KeepO ts75 w0.heap.size w w' := by
  unfold trie_Trie_All.f at h
  split at h
  case isFalse => cases h
  case isTrue hl =>
  injection h with h
  injection h with h1 h2
  subst h1 h2
  have HI := Aside0.mk hI
  have HB := Aside0.mk hB
  obtain ⟨M, hM⟩ := hI
  have HX := Aside0.mk (trie_walk g s0_0 M w0 w hM 32 [] g (.slice none 0 0) [] w hM.top rfl (Below.refl _ _) (Kd.R_nil _ _ _ _ _) (by simpa using hl))
  clear hB hM hl
  go_enter Try.func21, Try.ntmps21
  go_wp2_with fail
  refine HX.out.mono ?_
  rintro e w1 ⟨v1, rfl, hR, hb, _, _⟩
  have HR := Aside0.mk hR
  have HB1 := Aside0.mk hb
  clear hR hb HX
  go_wp2
  go_ret
  exact ⟨_, rfl, HR.out, HI.out.below HB1.out, below_weaken HB.out HB.out.size HB1.out, KeepO.of_below HB1.out⟩


/-! ### interregnumlaw11_answers: function 20 -/
def interregnumlaw11_answers.f  : Option (Bool) := (trie_New.f).bind fun t107 => ((trie_Trie_Set.f t107 167772160 8 5).bind fun bt109 => ((trie_Trie_Find.f bt109.2 167838211).bind fun bt111 => (if bt109.1 = true then (if bt111.2.2.2.1 = true then (if bt111.2.2.1 = 5 then (if bt111.2.1 = 8 then ((trie_Trie_All.f bt111.2.2.2.2).bind fun bt117 => (some ((bt117.1.length : Int) == 1))) else (some false)) else (some false)) else (some false)) else (some false))))
set_option maxHeartbeats 8000000 in
set_option maxRecDepth 100000 in
theorem interregnumlaw11_answers.calls  (r : Bool) (w : World) (h : interregnumlaw11_answers.f  = some r) :
    Calls Try.prog 20 #[] w fun e w' => e = .returned (.bool r) ∧ Below w.heap.size w w' := by
  have hu47 := Try.underlying47
  have HB := Aside0.mk (Below.refl w.heap.size w)
  have H : ((trie_New.f).bind fun t107 => ((trie_Trie_Set.f t107 167772160 8 5).bind fun bt109 => ((trie_Trie_Find.f bt109.2 167838211).bind fun bt111 => (if bt109.1 = true then (if bt111.2.2.2.1 = true then (if bt111.2.2.1 = 5 then (if bt111.2.1 = 8 then ((trie_Trie_All.f bt111.2.2.2.2).bind fun bt117 => (some ((bt117.1.length : Int) == 1))) else (some false)) else (some false)) else (some false)) else (some false))))) = some r := h
  clear h
  replace H := Option.bind_eq_some_iff.mp H
  obtain ⟨t107, A10, H⟩ := H
  replace H : ((trie_Trie_Set.f t107 167772160 8 5).bind fun bt109 => ((trie_Trie_Find.f bt109.2 167838211).bind fun bt111 => (if bt109.1 = true then (if bt111.2.2.2.1 = true then (if bt111.2.2.1 = 5 then (if bt111.2.1 = 8 then ((trie_Trie_All.f bt111.2.2.2.2).bind fun bt117 => (some ((bt117.1.length : Int) == 1))) else (some false)) else (some false)) else (some false)) else (some false)))) = some r := H
  have A1 := Aside0.mk A10
  clear A10
  replace H := Option.bind_eq_some_iff.mp H
  obtain ⟨⟨t109, t110⟩, A20, H⟩ := H
  replace H : ((trie_Trie_Find.f t110 167838211).bind fun bt111 => (if t109 = true then (if bt111.2.2.2.1 = true then (if bt111.2.2.1 = 5 then (if bt111.2.1 = 8 then ((trie_Trie_All.f bt111.2.2.2.2).bind fun bt117 => (some ((bt117.1.length : Int) == 1))) else (some false)) else (some false)) else (some false)) else (some false))) = some r := H
  have A2 := Aside0.mk A20
  clear A20
  replace H := Option.bind_eq_some_iff.mp H
  obtain ⟨⟨t111, t112, t113, t114, t115⟩, A30, H⟩ := H
  replace H : (if t109 = true then (if t114 = true then (if t113 = 5 then (if t112 = 8 then ((trie_Trie_All.f t115).bind fun bt117 => (some ((bt117.1.length : Int) == 1))) else (some false)) else (some false)) else (some false)) else (some false)) = some r := H
  have A3 := Aside0.mk A30
  clear A30
  by_cases c4 : t109 = true
  · subst c4
    have H1 : (if t114 = true then (if t113 = 5 then (if t112 = 8 then ((trie_Trie_All.f t115).bind fun bt117 => (some ((bt117.1.length : Int) == 1))) else (some false)) else (some false)) else (some false)) = some r := by rw [if_pos rfl] at H; exact H
    clear H
    have H := H1
    clear H1
    by_cases c5 : t114 = true
    · subst c5
      have H1 : (if t113 = 5 then (if t112 = 8 then ((trie_Trie_All.f t115).bind fun bt117 => (some ((bt117.1.length : Int) == 1))) else (some false)) else (some false)) = some r := by rw [if_pos rfl] at H; exact H
      clear H
      have H := H1
      clear H1
      by_cases c6 : t113 = 5
      · rw [if_pos c6] at H
        have c6b0 : (t113 == 5) = true := beq_iff_eq.mpr c6
        have c6b1 : (t113 != 5) = false := bne_eq_false_iff_eq.mpr c6
        clear c6
        by_cases c7 : t112 = 8
        · rw [if_pos c7] at H
          have c7b0 : (t112 == 8) = true := beq_iff_eq.mpr c7
          have c7b1 : (t112 != 8) = false := bne_eq_false_iff_eq.mpr c7
          clear c7
          replace H := Option.bind_eq_some_iff.mp H
          obtain ⟨⟨t117, t120⟩, A80, H⟩ := H
          replace H : (some ((t117.length : Int) == 1)) = some r := H
          have A8 := Aside0.mk A80
          clear A80
          obtain rfl := Option.some.inj H
          go_enter Try.func20, Try.ntmps20
          go_wp2_with (first | ((with_reducible refine gate_callee (f := 16) rfl ?_); refine goesL_ (some 6) rfl rfl Try.func16 (by kernel_rfl) rfl #[] rfl (by (try simp only [List.map_toArray, List.map_cons, List.map_nil]); first | done | rfl | (simp only [List.length_drop, List.length_take]; rfl)) ?_; (with_reducible refine (trie_New.calls  t107 w _ ?side1 A1.out).mono ?_); (case side1 => repeat (first | (with_reducible first | exact HB.out | apply below_alloc | apply pw_below_drewN | apply below_drew1) | exact HB.out)); rintro e w9 ⟨g108, rfl, hi, hb, hb2⟩; refine ⟨_, rfl, ?_⟩; have n0_ := Aside0.mk (hb); have n1_ := Aside0.mk (hi); clear HB; have HB := n0_; have HI108 := n1_; clear n0_ n1_; (try clear hb); (try clear hb2); (try clear hk); (try clear hi)) | ((with_reducible refine gate_callee (f := 17) rfl ?_); refine goesL_ (some 9) rfl rfl Try.func17 (by kernel_rfl) rfl #[.pointer (some ⟨g108, 0, none⟩), .agg #[.int .u32 167772160, .int .i64 8], .int .i64 5] rfl (by (try simp only [List.map_toArray, List.map_cons, List.map_nil]); first | done | rfl | (simp only [List.length_drop, List.length_take]; rfl)) ?_; (with_reducible refine (trie_Trie_Set.calls g108 t107 167772160 8 5 true t110 w _ ?side1 ?side2 A2.out).mono ?_); (case side1 => repeat (first | (with_reducible first | exact HI108.out | apply IsS75.alloc | apply IsS75.drewN | apply IsS75.drew) | exact HI108.out)); (case side2 => repeat (first | (with_reducible first | exact HB.out | apply below_alloc | apply pw_below_drewN | apply below_drew1 | refine below_set ?_ (IsS75.ge HI108.out)) | exact HB.out)); rintro e w10 ⟨rfl, hi, hb, hk⟩; refine ⟨_, rfl, ?_⟩; have n0_ := Aside0.mk (hb); have n1_ := Aside0.mk (hi); clear HB; clear HI108; have HB := n0_; have HI108 := n1_; clear n0_ n1_; (try clear hb); (try clear hb2); (try clear hk); (try clear hi)) | ((with_reducible refine gate_callee (f := 19) rfl ?_); refine goesL_ (some 12) rfl rfl Try.func19 (by kernel_rfl) rfl #[.pointer (some ⟨g108, 0, none⟩), .int .u32 167838211] rfl (by (try simp only [List.map_toArray, List.map_cons, List.map_nil]); first | done | rfl | (simp only [List.length_drop, List.length_take]; rfl)) ?_; (with_reducible refine (trie_Trie_Find.calls g108 t110 167838211 t111 t112 t113 true t115 w _ ?side1 ?side2 A3.out).mono ?_); (case side1 => repeat (first | (with_reducible first | exact HI108.out | apply IsS75.alloc | apply IsS75.drewN | apply IsS75.drew) | exact HI108.out)); (case side2 => repeat (first | (with_reducible first | exact HB.out | apply below_alloc | apply pw_below_drewN | apply below_drew1 | refine below_set ?_ (IsS75.ge HI108.out)) | exact HB.out)); rintro e w11 ⟨rfl, hi, hb, hk⟩; refine ⟨_, rfl, ?_⟩; have n0_ := Aside0.mk (hb); have n1_ := Aside0.mk (hi); clear HB; clear HI108; have HB := n0_; have HI108 := n1_; clear n0_ n1_; (try clear hb); (try clear hb2); (try clear hk); (try clear hi)) | ((with_reducible refine gate_dst (N := 3) rfl ?_); (try (refine gate_guard (by rfl) ?_; dsimp only)); refine box_event ?hg (N := 3) ?hd (cs := #[.int .u32 0, .int .i64 0]) (t := 47) ?hr ?_; (case hd => rfl); (case hg => rfl); (case hr => first | (go_simp; done) | (go_simp; rfl) | (go_simp; simp [IntKind.wrap_u8, IntKind.wrap_u32]; done)); intro gb116 hg w12 hbox hb; have n0_ := Aside0.mk (IsS75.below (by repeat (first | (with_reducible first | exact HI108.out | apply IsS75.alloc | apply IsS75.drewN | apply IsS75.drew) | exact HI108.out)) hb); have n1_ := Aside0.mk (below_step (by repeat (first | (with_reducible first | exact HB.out | apply below_alloc | apply pw_below_drewN | apply below_drew1 | refine below_set ?_ (IsS75.ge HI108.out)) | exact HB.out)) hb); have n2_ := Aside0.mk (hbox); have n3_ := Aside0.mk ((by rw [hg]; exact (below_size (by repeat (first | (with_reducible first | exact HB.out | apply below_alloc | apply pw_below_drewN | apply below_drew1 | refine below_set ?_ (IsS75.ge HI108.out)) | exact HB.out))) : w.heap.size ≤ gb116)); have n4_ := Aside0.mk ((by rw [hg]; exact (below_size (by repeat (first | (with_reducible first | exact HB.out | apply below_alloc | apply pw_below_drewN | apply below_drew1 | refine below_set ?_ (IsS75.ge HI108.out)) | exact HB.out))) : w.heap.size ≤ gb116)); have n5_ := Aside0.mk ((by rw [hg]; exact Nat.ne_of_lt (IsS75.lt (show IsS75 w _ g108 t115 from by repeat (first | (with_reducible first | exact HI108.out | apply IsS75.alloc | apply IsS75.drewN | apply IsS75.drew) | exact HI108.out))) : g108 ≠ gb116)); have n6_ := Aside0.mk ((by rw [hg]; exact Nat.ne_of_gt (IsS75.lt (show IsS75 w _ g108 t115 from by repeat (first | (with_reducible first | exact HI108.out | apply IsS75.alloc | apply IsS75.drewN | apply IsS75.drew) | exact HI108.out))) : gb116 ≠ g108)); clear HI108; clear HB; have HI108 := n0_; have HB := n1_; have BK116 := n2_; have GW116 := n3_; have GE116 := n4_; have NB108_116 := n5_; have NB116_108 := n6_; clear n0_ n1_ n2_ n3_ n4_ n5_ n6_; clear hb hbox hg; have hnb13 := NB116_108.out; have hnc13 := NB108_116.out; have hcz14_0 : w12.cell? ⟨gb116, 0, none⟩ = some (.int .u32 0) := (blk_cell BK116.out 0).trans rfl; have hcz14_1 : w12.cell? ⟨gb116, 1, none⟩ = some (.int .i64 0) := (blk_cell BK116.out 1).trans rfl; have hfz14_0 := blk_frozen BK116.out 0; have hfz14_1 := blk_frozen BK116.out 1) | (go_at_call 21; (with_reducible refine (trie_Trie_All.calls g108 t115 t117 t120 w _ ?side1 ?side2 A8.out).mono ?_); (case side1 => repeat (first | (with_reducible first | exact HI108.out | apply IsS75.alloc | apply IsS75.drewN | apply IsS75.drew | refine IsS75.far ?_ (by (repeat (first | exact (Go.Proofs.Yteheclbneoodeaa.Opq.NP.blk BK116.out (by decide)) | (with_reducible apply Go.Proofs.Yteheclbneoodeaa.Opq.NP.setCell) | (with_reducible apply Go.Proofs.Yteheclbneoodeaa.Opq.NP.drewN) | (with_reducible apply Go.Proofs.Yteheclbneoodeaa.Opq.NP.drew) | (with_reducible apply Go.Proofs.Yteheclbneoodeaa.Opq.NP.alloc))); done) _) | exact HI108.out)); (case side2 => repeat (first | (with_reducible first | exact HB.out | apply below_alloc | apply pw_below_drewN | apply below_drew1 | refine below_set ?_ (IsS75.ge HI108.out) | refine below_set ?_ GE116.out) | exact HB.out)); rintro e w15 ⟨v118, rfl, ho0, hi, hb, hk⟩; have n0_ := Aside0.mk (Go.Proofs.Yteheclbneoodeaa.Opq.KeepO.blk2 hk (g := gb116) (o := .cells #[.int .u32 t111, .int .i64 t112] 47 (0, 0)) (by (with_reducible repeat (first | refine blk_drewN ?_ _ | refine blk_drew ?_ | refine blk_alloc ?_ _)); refine blk_put (cs := #[.int .u32 t111, .int .i64 0]) ?_ 1 _ rfl; (with_reducible repeat (first | refine blk_drewN ?_ _ | refine blk_drew ?_ | refine blk_alloc ?_ _)); refine blk_put (cs := #[.int .u32 0, .int .i64 0]) ?_ 0 _ rfl; (with_reducible repeat (first | refine blk_drewN ?_ _ | refine blk_drew ?_ | refine blk_alloc ?_ _)); exact BK116.out) (by rfl)); have n1_ := Aside0.mk (Kd.R_lower (Kd.R_newB ho0 (g := gb116) (o := .cells #[.int .u32 t111, .int .i64 t112] 47 (0, 0)) (by (with_reducible repeat (first | refine blk_drewN ?_ _ | refine blk_drew ?_ | refine blk_alloc ?_ _)); refine blk_put (cs := #[.int .u32 t111, .int .i64 0]) ?_ 1 _ rfl; (with_reducible repeat (first | refine blk_drewN ?_ _ | refine blk_drew ?_ | refine blk_alloc ?_ _)); refine blk_put (cs := #[.int .u32 0, .int .i64 0]) ?_ 0 _ rfl; (with_reducible repeat (first | refine blk_drewN ?_ _ | refine blk_drew ?_ | refine blk_alloc ?_ _)); exact BK116.out)) (below_size (by repeat (first | (with_reducible first | exact HB.out | apply below_alloc | apply pw_below_drewN | apply below_drew1 | refine below_set ?_ (IsS75.ge HI108.out) | refine below_set ?_ GE116.out) | exact HB.out)))); have n2_ := Aside0.mk (hb); have n3_ := Aside0.mk (hi); clear BK116; clear HB; clear HI108; have BK116 := n0_; have HO119 := n1_; have HB := n2_; have HI108 := n3_; clear n0_ n1_ n2_ n3_; (try clear hb); (try clear hb2); (try clear hk); (try clear hi); (try clear ho0); obtain ⟨Ao16, co16, eo16⟩ := Kd.R_slice HO119.out; subst eo16))
          go_ret
          exact ⟨by first | rfl | (simp [errW_none, errW_some] <;> rfl) | (simp [*, errW_none, errW_some] <;> rfl), by repeat (first | (with_reducible first | exact HB.out | apply below_alloc | apply pw_below_drewN | apply below_drew1 | refine below_set ?_ (IsS75.ge HI108.out) | refine below_set ?_ GE116.out) | exact HB.out)⟩
        · rw [if_neg c7] at H
          have c7b0 : (t112 == 8) = false := beq_eq_false_iff_ne.mpr c7
          have c7b1 : (t112 != 8) = true := bne_iff_ne.mpr c7
          obtain rfl := Option.some.inj H
          go_enter Try.func20, Try.ntmps20
          go_wp2_with (first | ((with_reducible refine gate_callee (f := 16) rfl ?_); refine goesL_ (some 6) rfl rfl Try.func16 (by kernel_rfl) rfl #[] rfl (by (try simp only [List.map_toArray, List.map_cons, List.map_nil]); first | done | rfl | (simp only [List.length_drop, List.length_take]; rfl)) ?_; (with_reducible refine (trie_New.calls  t107 w _ ?side1 A1.out).mono ?_); (case side1 => repeat (first | (with_reducible first | exact HB.out | apply below_alloc | apply pw_below_drewN | apply below_drew1) | exact HB.out)); rintro e w17 ⟨g108, rfl, hi, hb, hb2⟩; refine ⟨_, rfl, ?_⟩; have n0_ := Aside0.mk (hb); have n1_ := Aside0.mk (hi); clear HB; have HB := n0_; have HI108 := n1_; clear n0_ n1_; (try clear hb); (try clear hb2); (try clear hk); (try clear hi)) | ((with_reducible refine gate_callee (f := 17) rfl ?_); refine goesL_ (some 9) rfl rfl Try.func17 (by kernel_rfl) rfl #[.pointer (some ⟨g108, 0, none⟩), .agg #[.int .u32 167772160, .int .i64 8], .int .i64 5] rfl (by (try simp only [List.map_toArray, List.map_cons, List.map_nil]); first | done | rfl | (simp only [List.length_drop, List.length_take]; rfl)) ?_; (with_reducible refine (trie_Trie_Set.calls g108 t107 167772160 8 5 true t110 w _ ?side1 ?side2 A2.out).mono ?_); (case side1 => repeat (first | (with_reducible first | exact HI108.out | apply IsS75.alloc | apply IsS75.drewN | apply IsS75.drew) | exact HI108.out)); (case side2 => repeat (first | (with_reducible first | exact HB.out | apply below_alloc | apply pw_below_drewN | apply below_drew1 | refine below_set ?_ (IsS75.ge HI108.out)) | exact HB.out)); rintro e w18 ⟨rfl, hi, hb, hk⟩; refine ⟨_, rfl, ?_⟩; have n0_ := Aside0.mk (hb); have n1_ := Aside0.mk (hi); clear HB; clear HI108; have HB := n0_; have HI108 := n1_; clear n0_ n1_; (try clear hb); (try clear hb2); (try clear hk); (try clear hi)) | ((with_reducible refine gate_callee (f := 19) rfl ?_); refine goesL_ (some 12) rfl rfl Try.func19 (by kernel_rfl) rfl #[.pointer (some ⟨g108, 0, none⟩), .int .u32 167838211] rfl (by (try simp only [List.map_toArray, List.map_cons, List.map_nil]); first | done | rfl | (simp only [List.length_drop, List.length_take]; rfl)) ?_; (with_reducible refine (trie_Trie_Find.calls g108 t110 167838211 t111 t112 t113 true t115 w _ ?side1 ?side2 A3.out).mono ?_); (case side1 => repeat (first | (with_reducible first | exact HI108.out | apply IsS75.alloc | apply IsS75.drewN | apply IsS75.drew) | exact HI108.out)); (case side2 => repeat (first | (with_reducible first | exact HB.out | apply below_alloc | apply pw_below_drewN | apply below_drew1 | refine below_set ?_ (IsS75.ge HI108.out)) | exact HB.out)); rintro e w19 ⟨rfl, hi, hb, hk⟩; refine ⟨_, rfl, ?_⟩; have n0_ := Aside0.mk (hb); have n1_ := Aside0.mk (hi); clear HB; clear HI108; have HB := n0_; have HI108 := n1_; clear n0_ n1_; (try clear hb); (try clear hb2); (try clear hk); (try clear hi)) | ((with_reducible refine gate_dst (N := 3) rfl ?_); (try (refine gate_guard (by rfl) ?_; dsimp only)); refine box_event ?hg (N := 3) ?hd (cs := #[.int .u32 0, .int .i64 0]) (t := 47) ?hr ?_; (case hd => rfl); (case hg => rfl); (case hr => first | (go_simp; done) | (go_simp; rfl) | (go_simp; simp [IntKind.wrap_u8, IntKind.wrap_u32]; done)); intro gb116 hg w20 hbox hb; have n0_ := Aside0.mk (IsS75.below (by repeat (first | (with_reducible first | exact HI108.out | apply IsS75.alloc | apply IsS75.drewN | apply IsS75.drew) | exact HI108.out)) hb); have n1_ := Aside0.mk (below_step (by repeat (first | (with_reducible first | exact HB.out | apply below_alloc | apply pw_below_drewN | apply below_drew1 | refine below_set ?_ (IsS75.ge HI108.out)) | exact HB.out)) hb); have n2_ := Aside0.mk (hbox); have n3_ := Aside0.mk ((by rw [hg]; exact (below_size (by repeat (first | (with_reducible first | exact HB.out | apply below_alloc | apply pw_below_drewN | apply below_drew1 | refine below_set ?_ (IsS75.ge HI108.out)) | exact HB.out))) : w.heap.size ≤ gb116)); have n4_ := Aside0.mk ((by rw [hg]; exact (below_size (by repeat (first | (with_reducible first | exact HB.out | apply below_alloc | apply pw_below_drewN | apply below_drew1 | refine below_set ?_ (IsS75.ge HI108.out)) | exact HB.out))) : w.heap.size ≤ gb116)); have n5_ := Aside0.mk ((by rw [hg]; exact Nat.ne_of_lt (IsS75.lt (show IsS75 w _ g108 t115 from by repeat (first | (with_reducible first | exact HI108.out | apply IsS75.alloc | apply IsS75.drewN | apply IsS75.drew) | exact HI108.out))) : g108 ≠ gb116)); have n6_ := Aside0.mk ((by rw [hg]; exact Nat.ne_of_gt (IsS75.lt (show IsS75 w _ g108 t115 from by repeat (first | (with_reducible first | exact HI108.out | apply IsS75.alloc | apply IsS75.drewN | apply IsS75.drew) | exact HI108.out))) : gb116 ≠ g108)); clear HI108; clear HB; have HI108 := n0_; have HB := n1_; have BK116 := n2_; have GW116 := n3_; have GE116 := n4_; have NB108_116 := n5_; have NB116_108 := n6_; clear n0_ n1_ n2_ n3_ n4_ n5_ n6_; clear hb hbox hg; have hnb21 := NB116_108.out; have hnc21 := NB108_116.out; have hcz22_0 : w20.cell? ⟨gb116, 0, none⟩ = some (.int .u32 0) := (blk_cell BK116.out 0).trans rfl; have hcz22_1 : w20.cell? ⟨gb116, 1, none⟩ = some (.int .i64 0) := (blk_cell BK116.out 1).trans rfl; have hfz22_0 := blk_frozen BK116.out 0; have hfz22_1 := blk_frozen BK116.out 1))
          go_ret
          exact ⟨by first | rfl | (simp [errW_none, errW_some] <;> rfl) | (simp [*, errW_none, errW_some] <;> rfl), by repeat (first | (with_reducible first | exact HB.out | apply below_alloc | apply pw_below_drewN | apply below_drew1 | refine below_set ?_ (IsS75.ge HI108.out) | refine below_set ?_ GE116.out) | exact HB.out)⟩
      · rw [if_neg c6] at H
        have c6b0 : (t113 == 5) = false := beq_eq_false_iff_ne.mpr c6
        have c6b1 : (t113 != 5) = true := bne_iff_ne.mpr c6
        obtain rfl := Option.some.inj H
        go_enter Try.func20, Try.ntmps20
        go_wp2_with (first | ((with_reducible refine gate_callee (f := 16) rfl ?_); refine goesL_ (some 6) rfl rfl Try.func16 (by kernel_rfl) rfl #[] rfl (by (try simp only [List.map_toArray, List.map_cons, List.map_nil]); first | done | rfl | (simp only [List.length_drop, List.length_take]; rfl)) ?_; (with_reducible refine (trie_New.calls  t107 w _ ?side1 A1.out).mono ?_); (case side1 => repeat (first | (with_reducible first | exact HB.out | apply below_alloc | apply pw_below_drewN | apply below_drew1) | exact HB.out)); rintro e w23 ⟨g108, rfl, hi, hb, hb2⟩; refine ⟨_, rfl, ?_⟩; have n0_ := Aside0.mk (hb); have n1_ := Aside0.mk (hi); clear HB; have HB := n0_; have HI108 := n1_; clear n0_ n1_; (try clear hb); (try clear hb2); (try clear hk); (try clear hi)) | ((with_reducible refine gate_callee (f := 17) rfl ?_); refine goesL_ (some 9) rfl rfl Try.func17 (by kernel_rfl) rfl #[.pointer (some ⟨g108, 0, none⟩), .agg #[.int .u32 167772160, .int .i64 8], .int .i64 5] rfl (by (try simp only [List.map_toArray, List.map_cons, List.map_nil]); first | done | rfl | (simp only [List.length_drop, List.length_take]; rfl)) ?_; (with_reducible refine (trie_Trie_Set.calls g108 t107 167772160 8 5 true t110 w _ ?side1 ?side2 A2.out).mono ?_); (case side1 => repeat (first | (with_reducible first | exact HI108.out | apply IsS75.alloc | apply IsS75.drewN | apply IsS75.drew) | exact HI108.out)); (case side2 => repeat (first | (with_reducible first | exact HB.out | apply below_alloc | apply pw_below_drewN | apply below_drew1 | refine below_set ?_ (IsS75.ge HI108.out)) | exact HB.out)); rintro e w24 ⟨rfl, hi, hb, hk⟩; refine ⟨_, rfl, ?_⟩; have n0_ := Aside0.mk (hb); have n1_ := Aside0.mk (hi); clear HB; clear HI108; have HB := n0_; have HI108 := n1_; clear n0_ n1_; (try clear hb); (try clear hb2); (try clear hk); (try clear hi)) | ((with_reducible refine gate_callee (f := 19) rfl ?_); refine goesL_ (some 12) rfl rfl Try.func19 (by kernel_rfl) rfl #[.pointer (some ⟨g108, 0, none⟩), .int .u32 167838211] rfl (by (try simp only [List.map_toArray, List.map_cons, List.map_nil]); first | done | rfl | (simp only [List.length_drop, List.length_take]; rfl)) ?_; (with_reducible refine (trie_Trie_Find.calls g108 t110 167838211 t111 t112 t113 true t115 w _ ?side1 ?side2 A3.out).mono ?_); (case side1 => repeat (first | (with_reducible first | exact HI108.out | apply IsS75.alloc | apply IsS75.drewN | apply IsS75.drew) | exact HI108.out)); (case side2 => repeat (first | (with_reducible first | exact HB.out | apply below_alloc | apply pw_below_drewN | apply below_drew1 | refine below_set ?_ (IsS75.ge HI108.out)) | exact HB.out)); rintro e w25 ⟨rfl, hi, hb, hk⟩; refine ⟨_, rfl, ?_⟩; have n0_ := Aside0.mk (hb); have n1_ := Aside0.mk (hi); clear HB; clear HI108; have HB := n0_; have HI108 := n1_; clear n0_ n1_; (try clear hb); (try clear hb2); (try clear hk); (try clear hi)) | ((with_reducible refine gate_dst (N := 3) rfl ?_); (try (refine gate_guard (by rfl) ?_; dsimp only)); refine box_event ?hg (N := 3) ?hd (cs := #[.int .u32 0, .int .i64 0]) (t := 47) ?hr ?_; (case hd => rfl); (case hg => rfl); (case hr => first | (go_simp; done) | (go_simp; rfl) | (go_simp; simp [IntKind.wrap_u8, IntKind.wrap_u32]; done)); intro gb116 hg w26 hbox hb; have n0_ := Aside0.mk (IsS75.below (by repeat (first | (with_reducible first | exact HI108.out | apply IsS75.alloc | apply IsS75.drewN | apply IsS75.drew) | exact HI108.out)) hb); have n1_ := Aside0.mk (below_step (by repeat (first | (with_reducible first | exact HB.out | apply below_alloc | apply pw_below_drewN | apply below_drew1 | refine below_set ?_ (IsS75.ge HI108.out)) | exact HB.out)) hb); have n2_ := Aside0.mk (hbox); have n3_ := Aside0.mk ((by rw [hg]; exact (below_size (by repeat (first | (with_reducible first | exact HB.out | apply below_alloc | apply pw_below_drewN | apply below_drew1 | refine below_set ?_ (IsS75.ge HI108.out)) | exact HB.out))) : w.heap.size ≤ gb116)); have n4_ := Aside0.mk ((by rw [hg]; exact (below_size (by repeat (first | (with_reducible first | exact HB.out | apply below_alloc | apply pw_below_drewN | apply below_drew1 | refine below_set ?_ (IsS75.ge HI108.out)) | exact HB.out))) : w.heap.size ≤ gb116)); have n5_ := Aside0.mk ((by rw [hg]; exact Nat.ne_of_lt (IsS75.lt (show IsS75 w _ g108 t115 from by repeat (first | (with_reducible first | exact HI108.out | apply IsS75.alloc | apply IsS75.drewN | apply IsS75.drew) | exact HI108.out))) : g108 ≠ gb116)); have n6_ := Aside0.mk ((by rw [hg]; exact Nat.ne_of_gt (IsS75.lt (show IsS75 w _ g108 t115 from by repeat (first | (with_reducible first | exact HI108.out | apply IsS75.alloc | apply IsS75.drewN | apply IsS75.drew) | exact HI108.out))) : gb116 ≠ g108)); clear HI108; clear HB; have HI108 := n0_; have HB := n1_; have BK116 := n2_; have GW116 := n3_; have GE116 := n4_; have NB108_116 := n5_; have NB116_108 := n6_; clear n0_ n1_ n2_ n3_ n4_ n5_ n6_; clear hb hbox hg; have hnb27 := NB116_108.out; have hnc27 := NB108_116.out; have hcz28_0 : w26.cell? ⟨gb116, 0, none⟩ = some (.int .u32 0) := (blk_cell BK116.out 0).trans rfl; have hcz28_1 : w26.cell? ⟨gb116, 1, none⟩ = some (.int .i64 0) := (blk_cell BK116.out 1).trans rfl; have hfz28_0 := blk_frozen BK116.out 0; have hfz28_1 := blk_frozen BK116.out 1))
        go_ret
        exact ⟨by first | rfl | (simp [errW_none, errW_some] <;> rfl) | (simp [*, errW_none, errW_some] <;> rfl), by repeat (first | (with_reducible first | exact HB.out | apply below_alloc | apply pw_below_drewN | apply below_drew1 | refine below_set ?_ (IsS75.ge HI108.out) | refine below_set ?_ GE116.out) | exact HB.out)⟩
    · replace c5 := Bool.eq_false_iff.mpr c5
      subst c5
      have H1 : (some false) = some r := by rw [if_neg (show ¬ (false = true) by decide)] at H; exact H
      clear H
      have H := H1
      clear H1
      obtain rfl := Option.some.inj H
      go_enter Try.func20, Try.ntmps20
      go_wp2_with (first | ((with_reducible refine gate_callee (f := 16) rfl ?_); refine goesL_ (some 6) rfl rfl Try.func16 (by kernel_rfl) rfl #[] rfl (by (try simp only [List.map_toArray, List.map_cons, List.map_nil]); first | done | rfl | (simp only [List.length_drop, List.length_take]; rfl)) ?_; (with_reducible refine (trie_New.calls  t107 w _ ?side1 A1.out).mono ?_); (case side1 => repeat (first | (with_reducible first | exact HB.out | apply below_alloc | apply pw_below_drewN | apply below_drew1) | exact HB.out)); rintro e w29 ⟨g108, rfl, hi, hb, hb2⟩; refine ⟨_, rfl, ?_⟩; have n0_ := Aside0.mk (hb); have n1_ := Aside0.mk (hi); clear HB; have HB := n0_; have HI108 := n1_; clear n0_ n1_; (try clear hb); (try clear hb2); (try clear hk); (try clear hi)) | ((with_reducible refine gate_callee (f := 17) rfl ?_); refine goesL_ (some 9) rfl rfl Try.func17 (by kernel_rfl) rfl #[.pointer (some ⟨g108, 0, none⟩), .agg #[.int .u32 167772160, .int .i64 8], .int .i64 5] rfl (by (try simp only [List.map_toArray, List.map_cons, List.map_nil]); first | done | rfl | (simp only [List.length_drop, List.length_take]; rfl)) ?_; (with_reducible refine (trie_Trie_Set.calls g108 t107 167772160 8 5 true t110 w _ ?side1 ?side2 A2.out).mono ?_); (case side1 => repeat (first | (with_reducible first | exact HI108.out | apply IsS75.alloc | apply IsS75.drewN | apply IsS75.drew) | exact HI108.out)); (case side2 => repeat (first | (with_reducible first | exact HB.out | apply below_alloc | apply pw_below_drewN | apply below_drew1 | refine below_set ?_ (IsS75.ge HI108.out)) | exact HB.out)); rintro e w30 ⟨rfl, hi, hb, hk⟩; refine ⟨_, rfl, ?_⟩; have n0_ := Aside0.mk (hb); have n1_ := Aside0.mk (hi); clear HB; clear HI108; have HB := n0_; have HI108 := n1_; clear n0_ n1_; (try clear hb); (try clear hb2); (try clear hk); (try clear hi)) | ((with_reducible refine gate_callee (f := 19) rfl ?_); refine goesL_ (some 12) rfl rfl Try.func19 (by kernel_rfl) rfl #[.pointer (some ⟨g108, 0, none⟩), .int .u32 167838211] rfl (by (try simp only [List.map_toArray, List.map_cons, List.map_nil]); first | done | rfl | (simp only [List.length_drop, List.length_take]; rfl)) ?_; (with_reducible refine (trie_Trie_Find.calls g108 t110 167838211 t111 t112 t113 false t115 w _ ?side1 ?side2 A3.out).mono ?_); (case side1 => repeat (first | (with_reducible first | exact HI108.out | apply IsS75.alloc | apply IsS75.drewN | apply IsS75.drew) | exact HI108.out)); (case side2 => repeat (first | (with_reducible first | exact HB.out | apply below_alloc | apply pw_below_drewN | apply below_drew1 | refine below_set ?_ (IsS75.ge HI108.out)) | exact HB.out)); rintro e w31 ⟨rfl, hi, hb, hk⟩; refine ⟨_, rfl, ?_⟩; have n0_ := Aside0.mk (hb); have n1_ := Aside0.mk (hi); clear HB; clear HI108; have HB := n0_; have HI108 := n1_; clear n0_ n1_; (try clear hb); (try clear hb2); (try clear hk); (try clear hi)) | ((with_reducible refine gate_dst (N := 3) rfl ?_); (try (refine gate_guard (by rfl) ?_; dsimp only)); refine box_event ?hg (N := 3) ?hd (cs := #[.int .u32 0, .int .i64 0]) (t := 47) ?hr ?_; (case hd => rfl); (case hg => rfl); (case hr => first | (go_simp; done) | (go_simp; rfl) | (go_simp; simp [IntKind.wrap_u8, IntKind.wrap_u32]; done)); intro gb116 hg w32 hbox hb; have n0_ := Aside0.mk (IsS75.below (by repeat (first | (with_reducible first | exact HI108.out | apply IsS75.alloc | apply IsS75.drewN | apply IsS75.drew) | exact HI108.out)) hb); have n1_ := Aside0.mk (below_step (by repeat (first | (with_reducible first | exact HB.out | apply below_alloc | apply pw_below_drewN | apply below_drew1 | refine below_set ?_ (IsS75.ge HI108.out)) | exact HB.out)) hb); have n2_ := Aside0.mk (hbox); have n3_ := Aside0.mk ((by rw [hg]; exact (below_size (by repeat (first | (with_reducible first | exact HB.out | apply below_alloc | apply pw_below_drewN | apply below_drew1 | refine below_set ?_ (IsS75.ge HI108.out)) | exact HB.out))) : w.heap.size ≤ gb116)); have n4_ := Aside0.mk ((by rw [hg]; exact (below_size (by repeat (first | (with_reducible first | exact HB.out | apply below_alloc | apply pw_below_drewN | apply below_drew1 | refine below_set ?_ (IsS75.ge HI108.out)) | exact HB.out))) : w.heap.size ≤ gb116)); have n5_ := Aside0.mk ((by rw [hg]; exact Nat.ne_of_lt (IsS75.lt (show IsS75 w _ g108 t115 from by repeat (first | (with_reducible first | exact HI108.out | apply IsS75.alloc | apply IsS75.drewN | apply IsS75.drew) | exact HI108.out))) : g108 ≠ gb116)); have n6_ := Aside0.mk ((by rw [hg]; exact Nat.ne_of_gt (IsS75.lt (show IsS75 w _ g108 t115 from by repeat (first | (with_reducible first | exact HI108.out | apply IsS75.alloc | apply IsS75.drewN | apply IsS75.drew) | exact HI108.out))) : gb116 ≠ g108)); clear HI108; clear HB; have HI108 := n0_; have HB := n1_; have BK116 := n2_; have GW116 := n3_; have GE116 := n4_; have NB108_116 := n5_; have NB116_108 := n6_; clear n0_ n1_ n2_ n3_ n4_ n5_ n6_; clear hb hbox hg; have hnb33 := NB116_108.out; have hnc33 := NB108_116.out; have hcz34_0 : w32.cell? ⟨gb116, 0, none⟩ = some (.int .u32 0) := (blk_cell BK116.out 0).trans rfl; have hcz34_1 : w32.cell? ⟨gb116, 1, none⟩ = some (.int .i64 0) := (blk_cell BK116.out 1).trans rfl; have hfz34_0 := blk_frozen BK116.out 0; have hfz34_1 := blk_frozen BK116.out 1))
      go_ret
      exact ⟨by first | rfl | (simp [errW_none, errW_some] <;> rfl) | (simp [*, errW_none, errW_some] <;> rfl), by repeat (first | (with_reducible first | exact HB.out | apply below_alloc | apply pw_below_drewN | apply below_drew1 | refine below_set ?_ (IsS75.ge HI108.out) | refine below_set ?_ GE116.out) | exact HB.out)⟩
  · replace c4 := Bool.eq_false_iff.mpr c4
    subst c4
    have H1 : (some false) = some r := by rw [if_neg (show ¬ (false = true) by decide)] at H; exact H
    clear H
    have H := H1
    clear H1
    obtain rfl := Option.some.inj H
    go_enter Try.func20, Try.ntmps20
    go_wp2_with (first | ((with_reducible refine gate_callee (f := 16) rfl ?_); refine goesL_ (some 6) rfl rfl Try.func16 (by kernel_rfl) rfl #[] rfl (by (try simp only [List.map_toArray, List.map_cons, List.map_nil]); first | done | rfl | (simp only [List.length_drop, List.length_take]; rfl)) ?_; (with_reducible refine (trie_New.calls  t107 w _ ?side1 A1.out).mono ?_); (case side1 => repeat (first | (with_reducible first | exact HB.out | apply below_alloc | apply pw_below_drewN | apply below_drew1) | exact HB.out)); rintro e w35 ⟨g108, rfl, hi, hb, hb2⟩; refine ⟨_, rfl, ?_⟩; have n0_ := Aside0.mk (hb); have n1_ := Aside0.mk (hi); clear HB; have HB := n0_; have HI108 := n1_; clear n0_ n1_; (try clear hb); (try clear hb2); (try clear hk); (try clear hi)) | ((with_reducible refine gate_callee (f := 17) rfl ?_); refine goesL_ (some 9) rfl rfl Try.func17 (by kernel_rfl) rfl #[.pointer (some ⟨g108, 0, none⟩), .agg #[.int .u32 167772160, .int .i64 8], .int .i64 5] rfl (by (try simp only [List.map_toArray, List.map_cons, List.map_nil]); first | done | rfl | (simp only [List.length_drop, List.length_take]; rfl)) ?_; (with_reducible refine (trie_Trie_Set.calls g108 t107 167772160 8 5 false t110 w _ ?side1 ?side2 A2.out).mono ?_); (case side1 => repeat (first | (with_reducible first | exact HI108.out | apply IsS75.alloc | apply IsS75.drewN | apply IsS75.drew) | exact HI108.out)); (case side2 => repeat (first | (with_reducible first | exact HB.out | apply below_alloc | apply pw_below_drewN | apply below_drew1 | refine below_set ?_ (IsS75.ge HI108.out)) | exact HB.out)); rintro e w36 ⟨rfl, hi, hb, hk⟩; refine ⟨_, rfl, ?_⟩; have n0_ := Aside0.mk (hb); have n1_ := Aside0.mk (hi); clear HB; clear HI108; have HB := n0_; have HI108 := n1_; clear n0_ n1_; (try clear hb); (try clear hb2); (try clear hk); (try clear hi)) | ((with_reducible refine gate_callee (f := 19) rfl ?_); refine goesL_ (some 12) rfl rfl Try.func19 (by kernel_rfl) rfl #[.pointer (some ⟨g108, 0, none⟩), .int .u32 167838211] rfl (by (try simp only [List.map_toArray, List.map_cons, List.map_nil]); first | done | rfl | (simp only [List.length_drop, List.length_take]; rfl)) ?_; (with_reducible refine (trie_Trie_Find.calls g108 t110 167838211 t111 t112 t113 t114 t115 w _ ?side1 ?side2 A3.out).mono ?_); (case side1 => repeat (first | (with_reducible first | exact HI108.out | apply IsS75.alloc | apply IsS75.drewN | apply IsS75.drew) | exact HI108.out)); (case side2 => repeat (first | (with_reducible first | exact HB.out | apply below_alloc | apply pw_below_drewN | apply below_drew1 | refine below_set ?_ (IsS75.ge HI108.out)) | exact HB.out)); rintro e w37 ⟨rfl, hi, hb, hk⟩; refine ⟨_, rfl, ?_⟩; have n0_ := Aside0.mk (hb); have n1_ := Aside0.mk (hi); clear HB; clear HI108; have HB := n0_; have HI108 := n1_; clear n0_ n1_; (try clear hb); (try clear hb2); (try clear hk); (try clear hi)) | ((with_reducible refine gate_dst (N := 3) rfl ?_); (try (refine gate_guard (by rfl) ?_; dsimp only)); refine box_event ?hg (N := 3) ?hd (cs := #[.int .u32 0, .int .i64 0]) (t := 47) ?hr ?_; (case hd => rfl); (case hg => rfl); (case hr => first | (go_simp; done) | (go_simp; rfl) | (go_simp; simp [IntKind.wrap_u8, IntKind.wrap_u32]; done)); intro gb116 hg w38 hbox hb; have n0_ := Aside0.mk (IsS75.below (by repeat (first | (with_reducible first | exact HI108.out | apply IsS75.alloc | apply IsS75.drewN | apply IsS75.drew) | exact HI108.out)) hb); have n1_ := Aside0.mk (below_step (by repeat (first | (with_reducible first | exact HB.out | apply below_alloc | apply pw_below_drewN | apply below_drew1 | refine below_set ?_ (IsS75.ge HI108.out)) | exact HB.out)) hb); have n2_ := Aside0.mk (hbox); have n3_ := Aside0.mk ((by rw [hg]; exact (below_size (by repeat (first | (with_reducible first | exact HB.out | apply below_alloc | apply pw_below_drewN | apply below_drew1 | refine below_set ?_ (IsS75.ge HI108.out)) | exact HB.out))) : w.heap.size ≤ gb116)); have n4_ := Aside0.mk ((by rw [hg]; exact (below_size (by repeat (first | (with_reducible first | exact HB.out | apply below_alloc | apply pw_below_drewN | apply below_drew1 | refine below_set ?_ (IsS75.ge HI108.out)) | exact HB.out))) : w.heap.size ≤ gb116)); have n5_ := Aside0.mk ((by rw [hg]; exact Nat.ne_of_lt (IsS75.lt (show IsS75 w _ g108 t115 from by repeat (first | (with_reducible first | exact HI108.out | apply IsS75.alloc | apply IsS75.drewN | apply IsS75.drew) | exact HI108.out))) : g108 ≠ gb116)); have n6_ := Aside0.mk ((by rw [hg]; exact Nat.ne_of_gt (IsS75.lt (show IsS75 w _ g108 t115 from by repeat (first | (with_reducible first | exact HI108.out | apply IsS75.alloc | apply IsS75.drewN | apply IsS75.drew) | exact HI108.out))) : gb116 ≠ g108)); clear HI108; clear HB; have HI108 := n0_; have HB := n1_; have BK116 := n2_; have GW116 := n3_; have GE116 := n4_; have NB108_116 := n5_; have NB116_108 := n6_; clear n0_ n1_ n2_ n3_ n4_ n5_ n6_; clear hb hbox hg; have hnb39 := NB116_108.out; have hnc39 := NB108_116.out; have hcz40_0 : w38.cell? ⟨gb116, 0, none⟩ = some (.int .u32 0) := (blk_cell BK116.out 0).trans rfl; have hcz40_1 : w38.cell? ⟨gb116, 1, none⟩ = some (.int .i64 0) := (blk_cell BK116.out 1).trans rfl; have hfz40_0 := blk_frozen BK116.out 0; have hfz40_1 := blk_frozen BK116.out 1))
    go_ret
    exact ⟨by first | rfl | (simp [errW_none, errW_some] <;> rfl) | (simp [*, errW_none, errW_some] <;> rfl), by repeat (first | (with_reducible first | exact HB.out | apply below_alloc | apply pw_below_drewN | apply below_drew1 | refine below_set ?_ (IsS75.ge HI108.out) | refine below_set ?_ GE116.out) | exact HB.out)⟩

/-! ### interregnumref05_Less: function 22 -/
def interregnumref05_Less.f (a0_0 : Int) (a0_1 : Int) (a1_0 : Int) (a1_1 : Int) : Option (Bool) := if a0_0 < a1_0 then (some true) else (if a0_0 = a1_0 then (some (decide (a0_1 < a1_1))) else (some false))
set_option maxHeartbeats 8000000 in
set_option maxRecDepth 100000 in
theorem interregnumref05_Less.calls (a0_0 : Int) (a0_1 : Int) (a1_0 : Int) (a1_1 : Int) (r : Bool) (w : World) (h : interregnumref05_Less.f a0_0 a0_1 a1_0 a1_1 = some r) :
    Calls Try.prog 22 #[.agg #[.int .u32 a0_0, .int .i64 a0_1], .agg #[.int .u32 a1_0, .int .i64 a1_1]] w fun e w' => e = .returned (.bool r) ∧ Below w.heap.size w w' := by
  have hu47 := Try.underlying47
  have HB := Aside0.mk (Below.refl w.heap.size w)
  have H : (if a0_0 < a1_0 then (some true) else (if a0_0 = a1_0 then (some (decide (a0_1 < a1_1))) else (some false))) = some r := h
  clear h
  by_cases c3 : a0_0 < a1_0
  · rw [if_pos c3] at H
    have c3b0 : decide (a0_0 < a1_0) = true := decide_eq_true c3
    clear c3
    obtain rfl := Option.some.inj H
    go_enter Try.func22, Try.ntmps22
    go_wp2_with (first | ((with_reducible refine gate_dst (N := 2) rfl ?_); refine box_event ?hg (N := 2) ?hd (cs := #[.int .u32 a0_0, .int .i64 a0_1]) (t := 47) ?hr ?_; (case hd => rfl); (case hg => rfl); (case hr => first | (go_simp; done) | (go_simp; rfl) | (go_simp; simp [IntKind.wrap_u8, IntKind.wrap_u32]; done)); intro gb121 hg w4 hbox hb; have n0_ := Aside0.mk (below_step (by repeat (first | (with_reducible first | exact HB.out | apply below_alloc | apply pw_below_drewN | apply below_drew1) | exact HB.out)) hb); have n1_ := Aside0.mk (hbox); have n2_ := Aside0.mk ((by rw [hg]; exact (below_size (by repeat (first | (with_reducible first | exact HB.out | apply below_alloc | apply pw_below_drewN | apply below_drew1) | exact HB.out))) : w.heap.size ≤ gb121)); have n3_ := Aside0.mk ((by rw [hg]; exact (below_size (by repeat (first | (with_reducible first | exact HB.out | apply below_alloc | apply pw_below_drewN | apply below_drew1) | exact HB.out))) : w.heap.size ≤ gb121)); clear HB; have HB := n0_; have BK121 := n1_; have GW121 := n2_; have GE121 := n3_; clear n0_ n1_ n2_ n3_; clear hb hbox hg) | ((with_reducible refine gate_dst (N := 3) rfl ?_); refine box_event ?hg (N := 3) ?hd (cs := #[.int .u32 a1_0, .int .i64 a1_1]) (t := 47) ?hr ?_; (case hd => rfl); (case hg => rfl); (case hr => first | (go_simp; done) | (go_simp; rfl) | (go_simp; simp [IntKind.wrap_u8, IntKind.wrap_u32]; done)); intro gb122 hg w5 hbox hb; have n0_ := Aside0.mk (blk_below (g := gb121) (o := .cells #[.int .u32 a0_0, .int .i64 a0_1] 47 (0, 0)) (by (with_reducible repeat (first | refine blk_drewN ?_ _ | refine blk_drew ?_ | refine blk_alloc ?_ _)); exact BK121.out) hb); have n1_ := Aside0.mk (below_step (by repeat (first | (with_reducible first | exact HB.out | apply below_alloc | apply pw_below_drewN | apply below_drew1 | refine below_set ?_ GE121.out) | exact HB.out)) hb); have n2_ := Aside0.mk (hbox); have n3_ := Aside0.mk ((by rw [hg]; exact (below_size (by repeat (first | (with_reducible first | exact HB.out | apply below_alloc | apply pw_below_drewN | apply below_drew1 | refine below_set ?_ GE121.out) | exact HB.out))) : w.heap.size ≤ gb122)); have n4_ := Aside0.mk ((by rw [hg]; exact (below_size (by repeat (first | (with_reducible first | exact HB.out | apply below_alloc | apply pw_below_drewN | apply below_drew1 | refine below_set ?_ GE121.out) | exact HB.out))) : w.heap.size ≤ gb122)); have n5_ := Aside0.mk ((by rw [hg]; exact Nat.ne_of_lt (blk_lt (g := gb121) (o := .cells #[.int .u32 a0_0, .int .i64 a0_1] 47 (0, 0)) (by (with_reducible repeat (first | refine blk_drewN ?_ _ | refine blk_drew ?_ | refine blk_alloc ?_ _)); exact BK121.out)) : gb121 ≠ gb122)); have n6_ := Aside0.mk ((by rw [hg]; exact Nat.ne_of_gt (blk_lt (g := gb121) (o := .cells #[.int .u32 a0_0, .int .i64 a0_1] 47 (0, 0)) (by (with_reducible repeat (first | refine blk_drewN ?_ _ | refine blk_drew ?_ | refine blk_alloc ?_ _)); exact BK121.out)) : gb122 ≠ gb121)); clear BK121; clear HB; have BK121 := n0_; have HB := n1_; have BK122 := n2_; have GW122 := n3_; have GE122 := n4_; have NB121_122 := n5_; have NB122_121 := n6_; clear n0_ n1_ n2_ n3_ n4_ n5_ n6_; clear hb hbox hg; have hnb6 := NB121_122.out; have hnc6 := NB122_121.out; have hcz7_0 : w5.cell? ⟨gb121, 0, none⟩ = some (.int .u32 a0_0) := (blk_cell BK121.out 0).trans rfl; have hcz7_1 : w5.cell? ⟨gb121, 1, none⟩ = some (.int .i64 a0_1) := (blk_cell BK121.out 1).trans rfl; have hfz7_0 := blk_frozen BK121.out 0; have hfz7_1 := blk_frozen BK121.out 1; have hcz8_0 : w5.cell? ⟨gb122, 0, none⟩ = some (.int .u32 a1_0) := (blk_cell BK122.out 0).trans rfl; have hcz8_1 : w5.cell? ⟨gb122, 1, none⟩ = some (.int .i64 a1_1) := (blk_cell BK122.out 1).trans rfl; have hfz8_0 := blk_frozen BK122.out 0; have hfz8_1 := blk_frozen BK122.out 1))
    go_ret
    exact ⟨by first | rfl | (simp [errW_none, errW_some] <;> rfl) | (simp [*, errW_none, errW_some] <;> rfl), by repeat (first | (with_reducible first | exact HB.out | apply below_alloc | apply pw_below_drewN | apply below_drew1 | refine below_set ?_ GE121.out | refine below_set ?_ GE122.out) | exact HB.out)⟩
  · rw [if_neg c3] at H
    have c3b0 : decide (a0_0 < a1_0) = false := decide_eq_false c3
    clear c3
    by_cases c9 : a0_0 = a1_0
    · rw [if_pos c9] at H
      have c9b0 : (a0_0 == a1_0) = true := beq_iff_eq.mpr c9
      have c9b1 : (a0_0 != a1_0) = false := bne_eq_false_iff_eq.mpr c9
      clear c9
      obtain rfl := Option.some.inj H
      go_enter Try.func22, Try.ntmps22
      go_wp2_with (first | ((with_reducible refine gate_dst (N := 2) rfl ?_); refine box_event ?hg (N := 2) ?hd (cs := #[.int .u32 a0_0, .int .i64 a0_1]) (t := 47) ?hr ?_; (case hd => rfl); (case hg => rfl); (case hr => first | (go_simp; done) | (go_simp; rfl) | (go_simp; simp [IntKind.wrap_u8, IntKind.wrap_u32]; done)); intro gb121 hg w10 hbox hb; have n0_ := Aside0.mk (below_step (by repeat (first | (with_reducible first | exact HB.out | apply below_alloc | apply pw_below_drewN | apply below_drew1) | exact HB.out)) hb); have n1_ := Aside0.mk (hbox); have n2_ := Aside0.mk ((by rw [hg]; exact (below_size (by repeat (first | (with_reducible first | exact HB.out | apply below_alloc | apply pw_below_drewN | apply below_drew1) | exact HB.out))) : w.heap.size ≤ gb121)); have n3_ := Aside0.mk ((by rw [hg]; exact (below_size (by repeat (first | (with_reducible first | exact HB.out | apply below_alloc | apply pw_below_drewN | apply below_drew1) | exact HB.out))) : w.heap.size ≤ gb121)); clear HB; have HB := n0_; have BK121 := n1_; have GW121 := n2_; have GE121 := n3_; clear n0_ n1_ n2_ n3_; clear hb hbox hg) | ((with_reducible refine gate_dst (N := 3) rfl ?_); refine box_event ?hg (N := 3) ?hd (cs := #[.int .u32 a1_0, .int .i64 a1_1]) (t := 47) ?hr ?_; (case hd => rfl); (case hg => rfl); (case hr => first | (go_simp; done) | (go_simp; rfl) | (go_simp; simp [IntKind.wrap_u8, IntKind.wrap_u32]; done)); intro gb122 hg w11 hbox hb; have n0_ := Aside0.mk (blk_below (g := gb121) (o := .cells #[.int .u32 a0_0, .int .i64 a0_1] 47 (0, 0)) (by (with_reducible repeat (first | refine blk_drewN ?_ _ | refine blk_drew ?_ | refine blk_alloc ?_ _)); exact BK121.out) hb); have n1_ := Aside0.mk (below_step (by repeat (first | (with_reducible first | exact HB.out | apply below_alloc | apply pw_below_drewN | apply below_drew1 | refine below_set ?_ GE121.out) | exact HB.out)) hb); have n2_ := Aside0.mk (hbox); have n3_ := Aside0.mk ((by rw [hg]; exact (below_size (by repeat (first | (with_reducible first | exact HB.out | apply below_alloc | apply pw_below_drewN | apply below_drew1 | refine below_set ?_ GE121.out) | exact HB.out))) : w.heap.size ≤ gb122)); have n4_ := Aside0.mk ((by rw [hg]; exact (below_size (by repeat (first | (with_reducible first | exact HB.out | apply below_alloc | apply pw_below_drewN | apply below_drew1 | refine below_set ?_ GE121.out) | exact HB.out))) : w.heap.size ≤ gb122)); have n5_ := Aside0.mk ((by rw [hg]; exact Nat.ne_of_lt (blk_lt (g := gb121) (o := .cells #[.int .u32 a0_0, .int .i64 a0_1] 47 (0, 0)) (by (with_reducible repeat (first | refine blk_drewN ?_ _ | refine blk_drew ?_ | refine blk_alloc ?_ _)); exact BK121.out)) : gb121 ≠ gb122)); have n6_ := Aside0.mk ((by rw [hg]; exact Nat.ne_of_gt (blk_lt (g := gb121) (o := .cells #[.int .u32 a0_0, .int .i64 a0_1] 47 (0, 0)) (by (with_reducible repeat (first | refine blk_drewN ?_ _ | refine blk_drew ?_ | refine blk_alloc ?_ _)); exact BK121.out)) : gb122 ≠ gb121)); clear BK121; clear HB; have BK121 := n0_; have HB := n1_; have BK122 := n2_; have GW122 := n3_; have GE122 := n4_; have NB121_122 := n5_; have NB122_121 := n6_; clear n0_ n1_ n2_ n3_ n4_ n5_ n6_; clear hb hbox hg; have hnb12 := NB121_122.out; have hnc12 := NB122_121.out; have hcz13_0 : w11.cell? ⟨gb121, 0, none⟩ = some (.int .u32 a0_0) := (blk_cell BK121.out 0).trans rfl; have hcz13_1 : w11.cell? ⟨gb121, 1, none⟩ = some (.int .i64 a0_1) := (blk_cell BK121.out 1).trans rfl; have hfz13_0 := blk_frozen BK121.out 0; have hfz13_1 := blk_frozen BK121.out 1; have hcz14_0 : w11.cell? ⟨gb122, 0, none⟩ = some (.int .u32 a1_0) := (blk_cell BK122.out 0).trans rfl; have hcz14_1 : w11.cell? ⟨gb122, 1, none⟩ = some (.int .i64 a1_1) := (blk_cell BK122.out 1).trans rfl; have hfz14_0 := blk_frozen BK122.out 0; have hfz14_1 := blk_frozen BK122.out 1))
      go_ret
      exact ⟨by first | rfl | (simp [errW_none, errW_some] <;> rfl) | (simp [*, errW_none, errW_some] <;> rfl), by repeat (first | (with_reducible first | exact HB.out | apply below_alloc | apply pw_below_drewN | apply below_drew1 | refine below_set ?_ GE121.out | refine below_set ?_ GE122.out) | exact HB.out)⟩
    · rw [if_neg c9] at H
      have c9b0 : (a0_0 == a1_0) = false := beq_eq_false_iff_ne.mpr c9
      have c9b1 : (a0_0 != a1_0) = true := bne_iff_ne.mpr c9
      obtain rfl := Option.some.inj H
      go_enter Try.func22, Try.ntmps22
      go_wp2_with (first | ((with_reducible refine gate_dst (N := 2) rfl ?_); refine box_event ?hg (N := 2) ?hd (cs := #[.int .u32 a0_0, .int .i64 a0_1]) (t := 47) ?hr ?_; (case hd => rfl); (case hg => rfl); (case hr => first | (go_simp; done) | (go_simp; rfl) | (go_simp; simp [IntKind.wrap_u8, IntKind.wrap_u32]; done)); intro gb121 hg w15 hbox hb; have n0_ := Aside0.mk (below_step (by repeat (first | (with_reducible first | exact HB.out | apply below_alloc | apply pw_below_drewN | apply below_drew1) | exact HB.out)) hb); have n1_ := Aside0.mk (hbox); have n2_ := Aside0.mk ((by rw [hg]; exact (below_size (by repeat (first | (with_reducible first | exact HB.out | apply below_alloc | apply pw_below_drewN | apply below_drew1) | exact HB.out))) : w.heap.size ≤ gb121)); have n3_ := Aside0.mk ((by rw [hg]; exact (below_size (by repeat (first | (with_reducible first | exact HB.out | apply below_alloc | apply pw_below_drewN | apply below_drew1) | exact HB.out))) : w.heap.size ≤ gb121)); clear HB; have HB := n0_; have BK121 := n1_; have GW121 := n2_; have GE121 := n3_; clear n0_ n1_ n2_ n3_; clear hb hbox hg) | ((with_reducible refine gate_dst (N := 3) rfl ?_); refine box_event ?hg (N := 3) ?hd (cs := #[.int .u32 a1_0, .int .i64 a1_1]) (t := 47) ?hr ?_; (case hd => rfl); (case hg => rfl); (case hr => first | (go_simp; done) | (go_simp; rfl) | (go_simp; simp [IntKind.wrap_u8, IntKind.wrap_u32]; done)); intro gb122 hg w16 hbox hb; have n0_ := Aside0.mk (blk_below (g := gb121) (o := .cells #[.int .u32 a0_0, .int .i64 a0_1] 47 (0, 0)) (by (with_reducible repeat (first | refine blk_drewN ?_ _ | refine blk_drew ?_ | refine blk_alloc ?_ _)); exact BK121.out) hb); have n1_ := Aside0.mk (below_step (by repeat (first | (with_reducible first | exact HB.out | apply below_alloc | apply pw_below_drewN | apply below_drew1 | refine below_set ?_ GE121.out) | exact HB.out)) hb); have n2_ := Aside0.mk (hbox); have n3_ := Aside0.mk ((by rw [hg]; exact (below_size (by repeat (first | (with_reducible first | exact HB.out | apply below_alloc | apply pw_below_drewN | apply below_drew1 | refine below_set ?_ GE121.out) | exact HB.out))) : w.heap.size ≤ gb122)); have n4_ := Aside0.mk ((by rw [hg]; exact (below_size (by repeat (first | (with_reducible first | exact HB.out | apply below_alloc | apply pw_below_drewN | apply below_drew1 | refine below_set ?_ GE121.out) | exact HB.out))) : w.heap.size ≤ gb122)); have n5_ := Aside0.mk ((by rw [hg]; exact Nat.ne_of_lt (blk_lt (g := gb121) (o := .cells #[.int .u32 a0_0, .int .i64 a0_1] 47 (0, 0)) (by (with_reducible repeat (first | refine blk_drewN ?_ _ | refine blk_drew ?_ | refine blk_alloc ?_ _)); exact BK121.out)) : gb121 ≠ gb122)); have n6_ := Aside0.mk ((by rw [hg]; exact Nat.ne_of_gt (blk_lt (g := gb121) (o := .cells #[.int .u32 a0_0, .int .i64 a0_1] 47 (0, 0)) (by (with_reducible repeat (first | refine blk_drewN ?_ _ | refine blk_drew ?_ | refine blk_alloc ?_ _)); exact BK121.out)) : gb122 ≠ gb121)); clear BK121; clear HB; have BK121 := n0_; have HB := n1_; have BK122 := n2_; have GW122 := n3_; have GE122 := n4_; have NB121_122 := n5_; have NB122_121 := n6_; clear n0_ n1_ n2_ n3_ n4_ n5_ n6_; clear hb hbox hg; have hnb17 := NB121_122.out; have hnc17 := NB122_121.out; have hcz18_0 : w16.cell? ⟨gb121, 0, none⟩ = some (.int .u32 a0_0) := (blk_cell BK121.out 0).trans rfl; have hcz18_1 : w16.cell? ⟨gb121, 1, none⟩ = some (.int .i64 a0_1) := (blk_cell BK121.out 1).trans rfl; have hfz18_0 := blk_frozen BK121.out 0; have hfz18_1 := blk_frozen BK121.out 1; have hcz19_0 : w16.cell? ⟨gb122, 0, none⟩ = some (.int .u32 a1_0) := (blk_cell BK122.out 0).trans rfl; have hcz19_1 : w16.cell? ⟨gb122, 1, none⟩ = some (.int .i64 a1_1) := (blk_cell BK122.out 1).trans rfl; have hfz19_0 := blk_frozen BK122.out 0; have hfz19_1 := blk_frozen BK122.out 1))
      go_ret
      exact ⟨by first | rfl | (simp [errW_none, errW_some] <;> rfl) | (simp [*, errW_none, errW_some] <;> rfl), by repeat (first | (with_reducible first | exact HB.out | apply below_alloc | apply pw_below_drewN | apply below_drew1 | refine below_set ?_ GE121.out | refine below_set ?_ GE122.out) | exact HB.out)⟩

/-! ### trie_Trie_Drop: function 23 -/
-- FN rounds=0 making=1
open Go.Proofs.Yteheclbneoodeaa.Trie Go.Proofs.Yteheclbneoodeaa.Pre in
def trie_Trie_Drop.f (s : Trie.TrieM) (a1_0 : Int) (a1_1 : Int) : Option (Bool × Trie.TrieM) :=
  if 0 ≤ a1_0 ∧ a1_0 < 4294967296 then (if Ok a1_0 a1_1 then some ((s (Trie.path a1_0 a1_1.toNat)).isSome, Trie.set s (Trie.path a1_0 a1_1.toNat) none) else some (false, s)) else none
theorem trie_set_none {s : Trie.TrieM} {π : List Bool} (h : s π = none) : Trie.set s π none = s := by
  funext ρ
  unfold Trie.set
  split
  · rename_i e
    rw [e, h]
  · rfl
set_option maxHeartbeats 2000000 in
open Go.Proofs.Yteheclbneoodeaa.Trie Go.Proofs.Yteheclbneoodeaa.Pre Go.Proofs.Yteheclbneoodeaa.Opq in
theorem trie_Trie_Drop.calls (g : Nat) (s0_0 : Trie.TrieM) (a1_0 : Int) (a1_1 : Int) (r1 : Bool) (r2 : Trie.TrieM) (w0 w : World) (hI : IsS75 w0 w g s0_0) (hB : Below w0.heap.size w0 w) (h : trie_Trie_Drop.f s0_0 a1_0 a1_1 = some (r1, r2)) :
    Calls Try.prog 23 #[.pointer (some ⟨g, 0, none⟩), .agg #[.int .u32 a1_0, .int .i64 a1_1]] w fun e w' => e = .returned (.bool r1) ∧ IsS75 w0 w' g r2 ∧ Below w0.heap.size w0 w' ∧ Go.Proofs.Yteheclbneoodeaa.Opq.KeepO ts75 w0.heap.size w w' := by
  have hu47 := Try.underlying47
  unfold trie_Trie_Drop.f at h
  split at h
  case isFalse => cases h
  case isTrue hu =>
  have HI := Aside0.mk hI
  have HB := Aside0.mk hB
  clear hB
  split at h
  case isFalse ho =>
    injection h with h
    injection h with h1 h2
    subst h1 h2
    have HX := Aside0.mk (show prefix_Right.f a1_0 a1_1 = some false by rw [trie_right_eq _ _ hu, decide_eq_false ho])
    clear hI hu ho
    go_enter Try.func23, Try.ntmps23
    go_wp2_with (go_at_call 28; refine (trie_at_wrong g a1_0 a1_1 false _ HX.out).mono ?_; rintro e w1 ⟨rfl, hb⟩; have HB1 := Aside0.mk (((below_alloc (Below.refl w.heap.size w) (.cells #[.int .u32 a1_0, .int .i64 a1_1] 47))).trans (hb.mono (by simp))); clear hb)
    go_ret
    exact ⟨rfl, HI.out.below HB1.out, below_weaken HB.out HB.out.size HB1.out, KeepO.of_below HB1.out⟩
  case isTrue ho =>
    obtain ⟨M, hM⟩ := hI
    have HX := trie_at_read g s0_0 M a1_0 a1_1 w0 (w.alloc (.cells #[.int .u32 a1_0, .int .i64 a1_1] 47)) (hM.below (below_alloc (Below.refl _ _) _)) hu ho
    cases hm : M (path a1_0 a1_1.toNat) with
    | none =>
      rw [hM.none_ _ hm, trie_set_none (hM.none_ _ hm)] at h
      injection h with h
      injection h with h1 h2
      subst h1 h2
      rw [hm, ptrB_none] at HX
      have HX := Aside0.mk HX
      clear hM hu ho hm
      go_enter Try.func23, Try.ntmps23
      go_wp2_with (go_at_call 28; refine HX.out.mono ?_; rintro e w1 ⟨rfl, hb⟩; have HB1 := Aside0.mk (((below_alloc (Below.refl w.heap.size w) (.cells #[.int .u32 a1_0, .int .i64 a1_1] 47))).trans (hb.mono (by simp))); clear hb)
      go_ret
      exact ⟨rfl, HI.out.below HB1.out, below_weaken HB.out HB.out.size HB1.out, KeepO.of_below HB1.out⟩
    | some b =>
      rw [hm, ptrB_some] at HX
      have HX := Aside0.mk HX
      have HM := Aside0.mk hM
      have HMb := Aside0.mk hm
      have HH := Aside0.mk h
      clear hM hu ho hm h
      go_enter Try.func23, Try.ntmps23
      go_wp2_with fail
      refine HX.out.mono ?_
      rintro e w1 ⟨rfl, hb⟩
      have HB1 := Aside0.mk (((below_alloc (Below.refl w.heap.size w) (.cells #[.int .u32 a1_0, .int .i64 a1_1] 47))).trans (hb.mono (by simp)))
      have hI1 := HM.out.below HB1.out
      have hcell := trie_cell2 hI1 HMb.out
      have hfz := blk_frozen (hI1.at_ _ _ HMb.out).2.2
      have HI1 := Aside0.mk hI1
      cases ho : s0_0 (path a1_0 a1_1.toNat) with
      | none =>
        rw [ho] at hcell
        have hc2 : w1.cell? ⟨b, 2, none⟩ = some (.int .i64 0) := hcell.1
        have hc3 : w1.cell? ⟨b, 3, none⟩ = some (.bool false) := hcell.2
        have HO := Aside0.mk ho
        clear hb hcell HX ho hI1
        go_wp2
        go_ret
        have h := HH.out
        rw [HO.out, trie_set_none HO.out] at h
        injection h with h
        injection h with h1 h2
        subst h1 h2
        exact ⟨rfl, HI.out.below HB1.out, below_weaken HB.out HB.out.size HB1.out, KeepO.of_below HB1.out⟩
      | some v =>
        rw [ho] at hcell
        have hc2 : w1.cell? ⟨b, 2, none⟩ = some (.int .i64 v) := hcell.1
        have hc3 : w1.cell? ⟨b, 3, none⟩ = some (.bool true) := hcell.2
        have HO := Aside0.mk ho
        clear hb hcell HX ho hI1
        go_wp2
        go_ret
        have h := HH.out
        rw [HO.out] at h
        injection h with h
        injection h with h1 h2
        subst h1 h2
        have hpr := HI1.out.priv HMb.out
        have hB2 := below_weaken HB.out HB.out.size HB1.out
        exact ⟨rfl, ⟨M, trie_put HI1.out HMb.out none⟩, Below.setCell (Below.setCell hB2 hpr.1 _) hpr.1 _, (KeepO.of_below HB1.out).trans (((KeepO.refl _ _ _).set (.inr hpr) _).set (.inr hpr) _)⟩


/-! ### trie_Trie_Get: function 24 -/
-- FN rounds=0 making=1
open Go.Proofs.Yteheclbneoodeaa.Trie Go.Proofs.Yteheclbneoodeaa.Pre in
def trie_Trie_Get.f (s : Trie.TrieM) (a1_0 : Int) (a1_1 : Int) : Option (Int × Bool × Trie.TrieM) :=
  if 0 ≤ a1_0 ∧ a1_0 < 4294967296 then (if Ok a1_0 a1_1 then some ((s (Trie.path a1_0 a1_1.toNat)).getD 0, (s (Trie.path a1_0 a1_1.toNat)).isSome, s) else some (0, false, s)) else none
set_option maxHeartbeats 2000000 in
open Go.Proofs.Yteheclbneoodeaa.Trie Go.Proofs.Yteheclbneoodeaa.Pre Go.Proofs.Yteheclbneoodeaa.Opq in
theorem trie_Trie_Get.calls (g : Nat) (s0_0 : Trie.TrieM) (a1_0 : Int) (a1_1 : Int) (r1 : Int) (r2 : Bool) (r3 : Trie.TrieM) (w0 w : World) (hI : IsS75 w0 w g s0_0) (hB : Below w0.heap.size w0 w) (h : trie_Trie_Get.f s0_0 a1_0 a1_1 = some (r1, r2, r3)) :
    Calls Try.prog 24 #[.pointer (some ⟨g, 0, none⟩), .agg #[.int .u32 a1_0, .int .i64 a1_1]] w fun e w' => e = .returned (.tuple #[.int .i64 r1, .bool r2]) ∧ IsS75 w0 w' g r3 ∧ Below w0.heap.size w0 w' ∧ Go.Proofs.Yteheclbneoodeaa.Opq.KeepO ts75 w0.heap.size w w' := by
  have hu47 := Try.underlying47
  unfold trie_Trie_Get.f at h
  split at h
  case isFalse => cases h
  case isTrue hu =>
  have HI := Aside0.mk hI
  have HB := Aside0.mk hB
  clear hB
  split at h
  case isFalse ho =>
    injection h with h
    injection h with h1 h
    injection h with h2 h3
    subst h1 h2 h3
    have HX := Aside0.mk (show prefix_Right.f a1_0 a1_1 = some false by rw [trie_right_eq _ _ hu, decide_eq_false ho])
    clear hI hu ho
    go_enter Try.func24, Try.ntmps24
    go_wp2_with (go_at_call 28; refine (trie_at_wrong g a1_0 a1_1 false _ HX.out).mono ?_; rintro e w1 ⟨rfl, hb⟩; have HB1 := Aside0.mk (((below_alloc (Below.refl w.heap.size w) (.cells #[.int .u32 a1_0, .int .i64 a1_1] 47))).trans (hb.mono (by simp))); clear hb)
    go_ret2
    exact ⟨rfl, HI.out.below HB1.out, below_weaken HB.out HB.out.size HB1.out, KeepO.of_below HB1.out⟩
  case isTrue ho =>
    obtain ⟨M, hM⟩ := hI
    have HX := trie_at_read g s0_0 M a1_0 a1_1 w0 (w.alloc (.cells #[.int .u32 a1_0, .int .i64 a1_1] 47)) (hM.below (below_alloc (Below.refl _ _) _)) hu ho
    cases hm : M (path a1_0 a1_1.toNat) with
    | none =>
      rw [hM.none_ _ hm] at h
      injection h with h
      injection h with h1 h
      injection h with h2 h3
      subst h1 h2 h3
      rw [hm, ptrB_none] at HX
      have HX := Aside0.mk HX
      clear hM hu ho hm
      go_enter Try.func24, Try.ntmps24
      go_wp2_with (go_at_call 28; refine HX.out.mono ?_; rintro e w1 ⟨rfl, hb⟩; have HB1 := Aside0.mk (((below_alloc (Below.refl w.heap.size w) (.cells #[.int .u32 a1_0, .int .i64 a1_1] 47))).trans (hb.mono (by simp))); clear hb)
      go_ret2
      exact ⟨rfl, HI.out.below HB1.out, below_weaken HB.out HB.out.size HB1.out, KeepO.of_below HB1.out⟩
    | some b =>
      rw [hm, ptrB_some] at HX
      have HX := Aside0.mk HX
      have HM := Aside0.mk hM
      have HMb := Aside0.mk hm
      have HH := Aside0.mk h
      clear hM hu ho hm h
      go_enter Try.func24, Try.ntmps24
      go_wp2_with fail
      refine HX.out.mono ?_
      rintro e w1 ⟨rfl, hb⟩
      have HB1 := Aside0.mk (((below_alloc (Below.refl w.heap.size w) (.cells #[.int .u32 a1_0, .int .i64 a1_1] 47))).trans (hb.mono (by simp)))
      have hcell := trie_cell2 (HM.out.below HB1.out) HMb.out
      cases ho : s0_0 (path a1_0 a1_1.toNat) with
      | none =>
        rw [ho] at hcell
        have hc2 : w1.cell? ⟨b, 2, none⟩ = some (.int .i64 0) := hcell.1
        have hc3 : w1.cell? ⟨b, 3, none⟩ = some (.bool false) := hcell.2
        have HO := Aside0.mk ho
        clear hb hcell HX ho
        go_wp2
        go_ret2
        have h := HH.out
        rw [HO.out] at h
        injection h with h
        injection h with h1 h
        injection h with h2 h3
        subst h1 h2 h3
        exact ⟨rfl, HI.out.below HB1.out, below_weaken HB.out HB.out.size HB1.out, KeepO.of_below HB1.out⟩
      | some v =>
        rw [ho] at hcell
        have hc2 : w1.cell? ⟨b, 2, none⟩ = some (.int .i64 v) := hcell.1
        have hc3 : w1.cell? ⟨b, 3, none⟩ = some (.bool true) := hcell.2
        have HO := Aside0.mk ho
        clear hb hcell HX ho
        go_wp2
        go_ret2
        have h := HH.out
        rw [HO.out] at h
        injection h with h
        injection h with h1 h
        injection h with h2 h3
        subst h1 h2 h3
        exact ⟨rfl, HI.out.below HB1.out, below_weaken HB.out HB.out.size HB1.out, KeepO.of_below HB1.out⟩


/-! ### interregnumref05_Bit: function 29 -/
def interregnumref05_Bit.f (a0 : Int) (a1 : Int) : Option (Int) := if 0 ≤ (IntKind.u64.wrap (wrap64 (31 - a1))) then (some (Int.tmod (shr .u32 a0 (IntKind.u64.wrap (wrap64 (31 - a1)))) 2)) else (none)
set_option maxHeartbeats 8000000 in
set_option maxRecDepth 100000 in
theorem interregnumref05_Bit.calls (a0 : Int) (a1 : Int) (r : Int) (w : World) (h : interregnumref05_Bit.f a0 a1 = some r) :
    Calls Try.prog 29 #[.int .u32 a0, .int .i64 a1] w fun e w' => e = .returned (.int .u32 r) ∧ Drawn0 w w' := by
  have H : (if 0 ≤ (IntKind.u64.wrap (wrap64 (31 - a1))) then (some (Int.tmod (shr .u32 a0 (IntKind.u64.wrap (wrap64 (31 - a1)))) 2)) else (none)) = some r := h
  clear h
  obtain ⟨ji3, hji3⟩ : ∃ j_ : Int, (IntKind.u64.wrap (wrap64 (31 - a1))) = j_ := ⟨_, rfl⟩
  replace H : (if 0 ≤ (ji3) then (some (Int.tmod (shr .u32 a0 (ji3)) 2)) else (none)) = some r := by first | (rw [hji3] at H; exact H) | (simp only [hji3] at H ⊢; exact H)
  by_cases c4 : 0 ≤ (ji3)
  · rw [if_pos c4] at H
    have c4b0 := eq_true c4
    have c4b1 : decide (0 ≤ (ji3)) = true := decide_eq_true c4
    clear c4
    obtain ⟨ji5, hji5⟩ : ∃ j_ : Int, (shr .u32 a0 (ji3)) = j_ := ⟨_, rfl⟩
    replace H : (some (Int.tmod (ji5) 2)) = some r := by first | (rw [hji5] at H; exact H) | (simp only [hji5] at H ⊢; exact H)
    have hji5_ : (a0 / 2 ^ min (ji3).toNat 32) = ji5 := hji5
    have hji5z : (ji3) ≤ 32 → (a0 / 2 ^ (ji3).toNat) = ji5 := shr_small hji5
    obtain rfl := Option.some.inj H
    go_enter Try.func29, Try.ntmps29
    go_wp2
    go_ret
    exact ⟨by first | rfl | (simp; done) | (simp only [← hji3, ← hji5] <;> (first | rfl | simp)) | (simp [*]; done), by repeat (first | exact Drawn0.refl _ | apply Drawn0.step)⟩
  · rw [if_neg c4] at H
    exact absurd H (by simp)

end Go.Proofs.Yteheclbneoodeaa.PTriePlays
