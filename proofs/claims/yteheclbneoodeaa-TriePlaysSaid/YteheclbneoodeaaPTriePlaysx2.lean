-- Lean text by a program of this repo (wip/tools/printx.py), out of Lean's own print of the translation
import Derived.Test.YteheclbneoodeaaMid
import Derived.BigQuiet
import Derived.Deep.QuietTactic
import Derived.Test.YteheclbneoodeaaTrie
import Derived.Test.YteheclbneoodeaaOpq
import Derived.Test.YteheclbneoodeaaPTriePlaysx0
namespace Go.Proofs.Yteheclbneoodeaa.PTriePlays
open Go.RowKit Go.Proofs.YteheclbneoodeaaW.PrintWords Go.Proofs.YteheclbneoodeaaW.PrintLast Go.Proofs.YteheclbneoodeaaW.PrintMore
attribute [local go_sem] max2_int min2_int max_two min_two max_three min_three max_four min_four   -- for this text's walks alone
set_option linter.unusedVariables false
set_option linter.unusedSimpArgs false

-- IMPORT Derived.Test.YteheclbneoodeaaOpq
abbrev ts75 : List Nat := [73, 75]
-- IMPORT Derived.Test.YteheclbneoodeaaTrie
def ptrB (o : Option Nat) : Value := .pointer (o.map fun b => ⟨b, 0, none⟩)
theorem ptrB_some (b : Nat) : ptrB (some b) = .pointer (some ⟨b, 0, none⟩) := rfl
theorem ptrB_none : ptrB none = .pointer none := rfl
def nodeCells (s : Trie.TrieM) (M : List Bool → Option Nat) (π : List Bool) : Array Value := #[ptrB (M (false :: π)), ptrB (M (true :: π)), .int .i64 ((s π).getD 0), .bool (s π).isSome]
def nodeT (π : List Bool) : Nat := if π = [] then 75 else 73
/-- A trie whose places lie where M says. -/
structure IsM (w0 W : World) (g : Nat) (s : Trie.TrieM) (M : List Bool → Option Nat) : Prop where
  top : M [] = some g
  at_ : ∀ π b, M π = some b → w0.heap.size ≤ b ∧ π.length ≤ 32 ∧ W.heap[b]? = some (.cells (nodeCells s M π) (nodeT π) (0, 0))
  up : ∀ x π, M π = none → M (x :: π) = none
  inj : ∀ π ρ b, M π = some b → M ρ = some b → π = ρ
  none_ : ∀ π, M π = none → s π = none
theorem nodeT_priv (π : List Bool) : nodeT π ∈ ts75 := by unfold nodeT; split <;> decide
def IsS75 (w0 W : World) (g : Nat) (s : Trie.TrieM) : Prop := ∃ M, IsM w0 W g s M
theorem IsS75.blk {w0 W : World} {g : Nat} {s : Trie.TrieM} (h : IsS75 w0 W g s) : ∃ cells, W.heap[g]? = some (.cells cells 75 (0, 0)) := by
  obtain ⟨M, h⟩ := h
  exact ⟨_, (h.at_ [] g h.top).2.2⟩
theorem IsS75.ge {w0 W : World} {g : Nat} {s : Trie.TrieM} (h : IsS75 w0 W g s) : w0.heap.size ≤ g := by
  obtain ⟨M, h⟩ := h
  exact (h.at_ [] g h.top).1
theorem IsM.frame {w0 W W1 : World} {g : Nat} {s : Trie.TrieM} {M : List Bool → Option Nat} (h : IsM w0 W g s M)
    (hk : ∀ k, w0.heap.size ≤ k → k < W.heap.size → Go.Proofs.Yteheclbneoodeaa.Opq.Priv ts75 W.heap[k]? → W1.heap[k]? = W.heap[k]?) : IsM w0 W1 g s M := by
  refine ⟨h.top, fun π b hb => ?_, h.up, h.inj, h.none_⟩
  obtain ⟨h1, h2, h3⟩ := h.at_ π b hb
  exact ⟨h1, h2, (hk b h1 (blk_lt h3) (by rw [h3]; exact nodeT_priv π)).trans h3⟩
theorem IsS75.frame {w0 W W1 : World} {g : Nat} {s : Trie.TrieM} (h : IsS75 w0 W g s)
    (hk : ∀ k, w0.heap.size ≤ k → k < W.heap.size → Go.Proofs.Yteheclbneoodeaa.Opq.Priv ts75 W.heap[k]? → W1.heap[k]? = W.heap[k]?) : IsS75 w0 W1 g s := by
  obtain ⟨M, h⟩ := h
  exact ⟨M, h.frame hk⟩
theorem IsS75.lt {w0 W : World} {g : Nat} {s : Trie.TrieM} (h : IsS75 w0 W g s) : g < W.heap.size := by
  obtain ⟨_, hb⟩ := h.blk
  exact blk_lt hb
theorem IsS75.fresh {w0 W : World} {g : Nat} {s : Trie.TrieM} (h : IsS75 w0 W g s) : ∀ k, W.heap.size ≤ k → k ≠ g := by
  obtain ⟨_, hb⟩ := h.blk
  exact Kd.freshB hb
theorem IsS75.grown {w0 W : World} {g : Nat} {s : Trie.TrieM} {W1 : World} {row : Option Nat} (h : IsS75 w0 W g s) (hw : W.grownBy W1 row) (hne : Go.Proofs.Yteheclbneoodeaa.Opq.NPr ts75 W row) : IsS75 w0 W1 g s := h.frame (Go.Proofs.Yteheclbneoodeaa.Opq.frame_grown hw hne)
theorem IsS75.below {w0 W : World} {g : Nat} {s : Trie.TrieM} {W1 : World} (h : IsS75 w0 W g s) (hw : Below W.heap.size W W1) : IsS75 w0 W1 g s := h.frame (fun k _ hk _ => hw.block k hk)
theorem IsS75.alloc {w0 W : World} {g : Nat} {s : Trie.TrieM} (h : IsS75 w0 W g s) (o : Obj) : IsS75 w0 (W.alloc o) g s := h.below (below_alloc (Below.refl _ _) o)
theorem IsS75.drewN {w0 W : World} {g : Nat} {s : Trie.TrieM} (h : IsS75 w0 W g s) (m : Nat) : IsS75 w0 (W.drewN m) g s := h.frame (fun _ _ _ _ => rfl)
theorem IsS75.drew {w0 W : World} {g : Nat} {s : Trie.TrieM} (h : IsS75 w0 W g s) : IsS75 w0 W.drew g s := h.frame (fun _ _ _ _ => rfl)
theorem IsS75.at_ {w0 W : World} {g : Nat} {s : Trie.TrieM} {w' : World} {m : Nat} (hq : W.drewN m = w') (h : IsS75 w0 W g s) : IsS75 w0 w' g s := by subst hq; exact IsS75.drewN h m
theorem IsS75.far {w0 W : World} {g : Nat} {s : Trie.TrieM} {p : Addr} (h : IsS75 w0 W g s) (hne : Go.Proofs.Yteheclbneoodeaa.Opq.NP ts75 W p.block) (u : Value) : IsS75 w0 (W.setCell p u) g s := h.frame (Go.Proofs.Yteheclbneoodeaa.Opq.frame_far hne u)
theorem IsS75.apart {w0 W : World} {g : Nat} {s : Trie.TrieM} {α : Type} {d : Kd α} {e : Nat} {base : Nat} {ok : Nat → Prop} {v : Value} {xs : List α} (h : IsS75 w0 W g s) (ho : d.R e W base ok v xs) (ht : ∀ q, q ∈ e :: d.E → q ≠ 75) : d.R e W base (fun k => ok k ∧ k ≠ g) v xs := by
  obtain ⟨_, hb⟩ := h.blk
  exact Kd.R_types ho hb ht
theorem IsS75.own_ne {w0 W : World} {g : Nat} {s : Trie.TrieM} {α : Type} {d : Kd α} {e : Nat} {base : Nat} {ok : Nat → Prop} {v : Value} {xs : List α} (h : IsS75 w0 W g s) (ho : d.R e W base ok v xs) (ht : e ≠ 75) : some g ≠ v.ownBlock := by
  obtain ⟨_, hb⟩ := h.blk
  exact Kd.R_ne ho hb ht
theorem IsS75.apartQ {w0 W : World} {g : Nat} {s : Trie.TrieM} {α : Type} {d : Kd α} {e : Nat} {base : Nat} {ok : Nat → Prop} {v : Value} {xs : List α} (h : IsS75 w0 W g s) (ho : d.Q e W base ok v xs) (ht : ∀ q, q ∈ e :: d.E → q ≠ 75) : d.Q e W base (fun k => ok k ∧ k ≠ g) v xs := by
  obtain ⟨_, hb⟩ := h.blk
  exact Kd.Q_types ho hb ht
theorem IsS75.own_neQ {w0 W : World} {g : Nat} {s : Trie.TrieM} {α : Type} {d : Kd α} {e : Nat} {base : Nat} {ok : Nat → Prop} {v : Value} {xs : List α} (h : IsS75 w0 W g s) (ho : d.Q e W base ok v xs) (ht : e ≠ 75) : some g ≠ v.ownBlock := by
  obtain ⟨_, hb⟩ := h.blk
  exact Kd.Q_ne ho hb ht
theorem IsS75.apartS {w0 W : World} {g : Nat} {s : Trie.TrieM} {α : Type} {d : Kd α} {e : Nat} {base : Nat} {ok : Nat → Prop} {v : Value} {xs : List α} (h : IsS75 w0 W g s) (ho : d.S e W base ok v xs) (ht : ∀ q, q ∈ e :: d.E → q ≠ 75) : d.S e W base (fun k => ok k ∧ k ≠ g) v xs := by
  obtain ⟨_, hb⟩ := h.blk
  exact Kd.S_types ho hb ht
theorem IsS75.own_neS {w0 W : World} {g : Nat} {s : Trie.TrieM} {α : Type} {d : Kd α} {e : Nat} {base : Nat} {ok : Nat → Prop} {v : Value} {xs : List α} (h : IsS75 w0 W g s) (ho : d.S e W base ok v xs) (ht : e ≠ 75) : some g ≠ v.ownBlock := by
  obtain ⟨_, hb⟩ := h.blk
  exact Kd.S_ne ho hb ht
theorem IsS75.own_neN {w0 W : World} {g : Nat} {s : Trie.TrieM} {α : Type} {d : Kd α} {e : Nat} {base : Nat} {ok : Nat → Prop} {v : Value} {xs : List α} (h : IsS75 w0 W g s) (ho : Kd.N d e W base ok v xs) (ht : e ≠ 75) : some g ≠ v.ownBlock := by
  obtain ⟨_, hb⟩ := h.blk
  exact Kd.N_ne ho hb ht
theorem IsS75.ne_blk {w0 W : World} {g : Nat} {s : Trie.TrieM} {a : Nat} {cs : Array Value} {t : TypeId} {fr : Nat × Nat} (h : IsS75 w0 W g s) (hb2 : W.heap[a]? = some (.cells cs t fr)) (ht : t ≠ 75) : g ≠ a := by
  obtain ⟨_, hb⟩ := h.blk
  rintro rfl
  rw [hb] at hb2
  injection hb2 with hb2
  injection hb2 with _ ht2
  exact ht ht2.symm

/-! ### trie_New: function 16 -/
-- FN rounds=0 making=1
def trie_New.f : Option Trie.TrieM := some Trie.new
set_option maxHeartbeats 2000000 in
theorem trie_New.calls (r : Trie.TrieM) (w0 w : World) (hB : Below w0.heap.size w0 w) (h : trie_New.f = some r) :
    Calls Try.prog 16 #[] w fun e w' => ∃ g_ : Nat, e = .returned (.pointer (some ⟨g_, 0, none⟩)) ∧ IsS75 w0 w' g_ r ∧ Below w0.heap.size w0 w' ∧ Below w.heap.size w w' := by
  obtain rfl := Option.some.inj h
  have HB := Aside0.mk hB
  have HS := Aside0.mk hB.size
  have hu75 := Try.underlying75
  clear h hB
  go_enter Try.func16, Try.ntmps16
  go_wp2
  go_ret
  refine ⟨_, rfl, ⟨fun π => if π = [] then some w.heap.size else none, ⟨rfl, fun π b hb => ?_, fun x π _ => rfl, fun π ρ b h1 h2 => ?_, fun π _ => rfl⟩⟩, ?_, ?_⟩
  · have hp : π = [] := by
      split at hb
      · assumption
      · cases hb
    subst hp
    obtain rfl : w.heap.size = b := Option.some.inj hb
    exact ⟨HS.out, by decide, heap_alloc_new w (.cells _ 75)⟩
  · split at h1
    · split at h2
      · rename_i e1 e2
        exact e1.trans e2.symm
      · cases h2
    · cases h1
  · exact below_weaken HB.out HS.out (below_alloc (Below.refl _ _) _)
  · exact below_alloc (Below.refl _ _) _


/-! ### trie_bit: function 31 -/
def trie_bit.f (a0 : Int) (a1 : Int) : Option (Int) := if 0 ≤ (wrap64 (31 - a1)) then (some (Go.bits .and .u32 (shr .u32 a0 (wrap64 (31 - a1))) 1)) else (none)
set_option maxHeartbeats 8000000 in
set_option maxRecDepth 100000 in
theorem trie_bit.calls (a0 : Int) (a1 : Int) (r : Int) (w : World) (h : trie_bit.f a0 a1 = some r) :
    Calls Try.prog 31 #[.int .u32 a0, .int .i64 a1] w fun e w' => e = .returned (.int .u32 r) ∧ Drawn0 w w' := by
  have H : (if 0 ≤ (wrap64 (31 - a1)) then (some (Go.bits .and .u32 (shr .u32 a0 (wrap64 (31 - a1))) 1)) else (none)) = some r := h
  clear h
  obtain ⟨ji3, hji3⟩ : ∃ j_ : Int, (wrap64 (31 - a1)) = j_ := ⟨_, rfl⟩
  replace H : (if 0 ≤ (ji3) then (some (Go.bits .and .u32 (shr .u32 a0 (ji3)) 1)) else (none)) = some r := by first | (rw [hji3] at H; exact H) | (simp only [hji3] at H ⊢; exact H)
  have hji3w : (IntKind.i64.wrap (31 - a1)) = ji3 := (i64_w _).trans hji3
  by_cases c4 : 0 ≤ (ji3)
  · rw [if_pos c4] at H
    have c4b0 := eq_true c4
    have c4b1 : decide (0 ≤ (ji3)) = true := decide_eq_true c4
    clear c4
    obtain ⟨ji5, hji5⟩ : ∃ j_ : Int, (shr .u32 a0 (ji3)) = j_ := ⟨_, rfl⟩
    replace H : (some (Go.bits .and .u32 (ji5) 1)) = some r := by first | (rw [hji5] at H; exact H) | (simp only [hji5] at H ⊢; exact H)
    have hji5_ : (a0 / 2 ^ min (ji3).toNat 32) = ji5 := hji5
    have hji5z : (ji3) ≤ 32 → (a0 / 2 ^ (ji3).toNat) = ji5 := shr_small hji5
    obtain rfl := Option.some.inj H
    go_enter Try.func31, Try.ntmps31
    go_wp2
    go_ret
    exact ⟨by first | rfl | (simp; done) | (simp only [← hji3, ← hji5] <;> (first | rfl | simp)) | (simp [*]; done), by repeat (first | exact Drawn0.refl _ | apply Drawn0.step)⟩
  · rw [if_neg c4] at H
    exact absurd H (by simp)

/-! ### prefix_mask: function 34 -/
def prefix_mask.f (a0 : Int) : Option (Int) := if 0 ≤ a0 then (some (Go.bits .xor .u32 4294967295 (shr .u32 4294967295 a0))) else (none)
set_option maxHeartbeats 8000000 in
set_option maxRecDepth 100000 in
theorem prefix_mask.calls (a0 : Int) (r : Int) (w : World) (h : prefix_mask.f a0 = some r) :
    Calls Try.prog 34 #[.int .i64 a0] w fun e w' => e = .returned (.int .u32 r) ∧ Drawn0 w w' := by
  have H : (if 0 ≤ a0 then (some (Go.bits .xor .u32 4294967295 (shr .u32 4294967295 a0))) else (none)) = some r := h
  clear h
  by_cases c2 : 0 ≤ a0
  · rw [if_pos c2] at H
    have c2b0 := eq_true c2
    have c2b1 : decide (0 ≤ a0) = true := decide_eq_true c2
    clear c2
    obtain ⟨ji3, hji3⟩ : ∃ j_ : Int, (shr .u32 4294967295 a0) = j_ := ⟨_, rfl⟩
    replace H : (some (Go.bits .xor .u32 4294967295 (ji3))) = some r := by first | (rw [hji3] at H; exact H) | (simp only [hji3] at H ⊢; exact H)
    have hji3_ : (4294967295 / 2 ^ min a0.toNat 32) = ji3 := hji3
    have hji3z : a0 ≤ 32 → (4294967295 / 2 ^ a0.toNat) = ji3 := shr_small hji3
    obtain rfl := Option.some.inj H
    go_enter Try.func34, Try.ntmps34
    go_wp2
    go_ret
    exact ⟨by first | rfl | (simp; done) | (simp only [← hji3] <;> (first | rfl | simp)) | (simp [*]; done), by repeat (first | exact Drawn0.refl _ | apply Drawn0.step)⟩
  · rw [if_neg c2] at H
    exact absurd H (by simp)

/-! ### prefix_right: function 35 -/
def prefix_right.f (a0_0 : Int) (a0_1 : Int) : Option (Bool) := if a0_1 ≥ 0 then (if a0_1 ≤ 32 then ((prefix_mask.f a0_1).bind fun t102 => (some ((Go.bits .andNot .u32 a0_0 t102) == 0))) else (some false)) else (some false)
set_option maxHeartbeats 8000000 in
set_option maxRecDepth 100000 in
theorem prefix_right.calls (a0_0 : Int) (a0_1 : Int) (r : Bool) (w : World) (h : prefix_right.f a0_0 a0_1 = some r) :
    Calls Try.prog 35 #[.agg #[.int .u32 a0_0, .int .i64 a0_1]] w fun e w' => e = .returned (.bool r) ∧ Below w.heap.size w w' := by
  have hu47 := Try.underlying47
  have HB := Aside0.mk (Below.refl w.heap.size w)
  have H : (if a0_1 ≥ 0 then (if a0_1 ≤ 32 then ((prefix_mask.f a0_1).bind fun t102 => (some ((Go.bits .andNot .u32 a0_0 t102) == 0))) else (some false)) else (some false)) = some r := h
  clear h
  by_cases c2 : a0_1 ≥ 0
  · rw [if_pos c2] at H
    have c2b0 : decide (0 ≤ a0_1) = true := decide_eq_true c2
    clear c2
    by_cases c3 : a0_1 ≤ 32
    · rw [if_pos c3] at H
      have c3b0 : decide (a0_1 ≤ 32) = true := decide_eq_true c3
      clear c3
      replace H := Option.bind_eq_some_iff.mp H
      obtain ⟨t102, A40, H⟩ := H
      replace H : (some ((Go.bits .andNot .u32 a0_0 t102) == 0)) = some r := H
      have A4 := Aside0.mk A40
      clear A40
      obtain rfl := Option.some.inj H
      go_enter Try.func35, Try.ntmps35
      go_wp2_with (first | ((with_reducible refine gate_dst (N := 1) rfl ?_); refine box_event ?hg (N := 1) ?hd (cs := #[.int .u32 a0_0, .int .i64 a0_1]) (t := 47) ?hr ?_; (case hd => rfl); (case hg => rfl); (case hr => first | (go_simp; done) | (go_simp; rfl) | (go_simp; simp [IntKind.wrap_u8, IntKind.wrap_u32]; done)); intro gb101 hg w5 hbox hb; have n0_ := Aside0.mk (below_step (by repeat (first | (with_reducible first | exact HB.out | apply below_alloc | apply pw_below_drewN | apply below_drew1) | exact HB.out)) hb); have n1_ := Aside0.mk (hbox); have n2_ := Aside0.mk ((by rw [hg]; exact (below_size (by repeat (first | (with_reducible first | exact HB.out | apply below_alloc | apply pw_below_drewN | apply below_drew1) | exact HB.out))) : w.heap.size ≤ gb101)); have n3_ := Aside0.mk ((by rw [hg]; exact (below_size (by repeat (first | (with_reducible first | exact HB.out | apply below_alloc | apply pw_below_drewN | apply below_drew1) | exact HB.out))) : w.heap.size ≤ gb101)); clear HB; have HB := n0_; have BK101 := n1_; have GW101 := n2_; have GE101 := n3_; clear n0_ n1_ n2_ n3_; clear hb hbox hg; have hcz6_0 : w5.cell? ⟨gb101, 0, none⟩ = some (.int .u32 a0_0) := (blk_cell BK101.out 0).trans rfl; have hcz6_1 : w5.cell? ⟨gb101, 1, none⟩ = some (.int .i64 a0_1) := (blk_cell BK101.out 1).trans rfl; have hfz6_0 := blk_frozen BK101.out 0; have hfz6_1 := blk_frozen BK101.out 1) | (go_at_call 34; (with_reducible refine (prefix_mask.calls a0_1 t102 _ A4.out).mono ?_); rintro e w' ⟨rfl, ⟨nd, rfl⟩⟩; (try first | exact ⟨rfl, _, World.drewN_drewN _ _ _⟩ | exact ⟨rfl, _, Eq.trans (World.drewN_drewN _ _ _) (congrArg (World.drewN _) (Nat.add_assoc _ _ _))⟩)))
      repeat (go_quiet (first | ((with_reducible refine gate_dst (N := 1) rfl ?_); refine box_event ?hg (N := 1) ?hd (cs := #[.int .u32 a0_0, .int .i64 a0_1]) (t := 47) ?hr ?_; (case hd => rfl); (case hg => rfl); (case hr => first | (go_simp; done) | (go_simp; rfl) | (go_simp; simp [IntKind.wrap_u8, IntKind.wrap_u32]; done)); intro gb101 hg w5 hbox hb; have n0_ := Aside0.mk (below_step (by repeat (first | (with_reducible first | exact HB.out | apply below_alloc | apply pw_below_drewN | apply below_drew1) | exact HB.out)) hb); have n1_ := Aside0.mk (hbox); have n2_ := Aside0.mk ((by rw [hg]; exact (below_size (by repeat (first | (with_reducible first | exact HB.out | apply below_alloc | apply pw_below_drewN | apply below_drew1) | exact HB.out))) : w.heap.size ≤ gb101)); have n3_ := Aside0.mk ((by rw [hg]; exact (below_size (by repeat (first | (with_reducible first | exact HB.out | apply below_alloc | apply pw_below_drewN | apply below_drew1) | exact HB.out))) : w.heap.size ≤ gb101)); clear HB; have HB := n0_; have BK101 := n1_; have GW101 := n2_; have GE101 := n3_; clear n0_ n1_ n2_ n3_; clear hb hbox hg; have hcz6_0 : w5.cell? ⟨gb101, 0, none⟩ = some (.int .u32 a0_0) := (blk_cell BK101.out 0).trans rfl; have hcz6_1 : w5.cell? ⟨gb101, 1, none⟩ = some (.int .i64 a0_1) := (blk_cell BK101.out 1).trans rfl; have hfz6_0 := blk_frozen BK101.out 0; have hfz6_1 := blk_frozen BK101.out 1) | (go_at_call 34; (with_reducible refine (prefix_mask.calls a0_1 t102 _ A4.out).mono ?_); rintro e w' ⟨rfl, ⟨nd, rfl⟩⟩; (try first | exact ⟨rfl, _, World.drewN_drewN _ _ _⟩ | exact ⟨rfl, _, Eq.trans (World.drewN_drewN _ _ _) (congrArg (World.drewN _) (Nat.add_assoc _ _ _))⟩))); try go_wp2_with (first | ((with_reducible refine gate_dst (N := 1) rfl ?_); refine box_event ?hg (N := 1) ?hd (cs := #[.int .u32 a0_0, .int .i64 a0_1]) (t := 47) ?hr ?_; (case hd => rfl); (case hg => rfl); (case hr => first | (go_simp; done) | (go_simp; rfl) | (go_simp; simp [IntKind.wrap_u8, IntKind.wrap_u32]; done)); intro gb101 hg w5 hbox hb; have n0_ := Aside0.mk (below_step (by repeat (first | (with_reducible first | exact HB.out | apply below_alloc | apply pw_below_drewN | apply below_drew1) | exact HB.out)) hb); have n1_ := Aside0.mk (hbox); have n2_ := Aside0.mk ((by rw [hg]; exact (below_size (by repeat (first | (with_reducible first | exact HB.out | apply below_alloc | apply pw_below_drewN | apply below_drew1) | exact HB.out))) : w.heap.size ≤ gb101)); have n3_ := Aside0.mk ((by rw [hg]; exact (below_size (by repeat (first | (with_reducible first | exact HB.out | apply below_alloc | apply pw_below_drewN | apply below_drew1) | exact HB.out))) : w.heap.size ≤ gb101)); clear HB; have HB := n0_; have BK101 := n1_; have GW101 := n2_; have GE101 := n3_; clear n0_ n1_ n2_ n3_; clear hb hbox hg; have hcz6_0 : w5.cell? ⟨gb101, 0, none⟩ = some (.int .u32 a0_0) := (blk_cell BK101.out 0).trans rfl; have hcz6_1 : w5.cell? ⟨gb101, 1, none⟩ = some (.int .i64 a0_1) := (blk_cell BK101.out 1).trans rfl; have hfz6_0 := blk_frozen BK101.out 0; have hfz6_1 := blk_frozen BK101.out 1) | (go_at_call 34; (with_reducible refine (prefix_mask.calls a0_1 t102 _ A4.out).mono ?_); rintro e w' ⟨rfl, ⟨nd, rfl⟩⟩; (try first | exact ⟨rfl, _, World.drewN_drewN _ _ _⟩ | exact ⟨rfl, _, Eq.trans (World.drewN_drewN _ _ _) (congrArg (World.drewN _) (Nat.add_assoc _ _ _))⟩))))
      go_ret
      exact ⟨by first | rfl | (simp [errW_none, errW_some] <;> rfl) | (simp [*, errW_none, errW_some] <;> rfl), by repeat (first | (with_reducible first | exact HB.out | apply below_alloc | apply pw_below_drewN | apply below_drew1 | refine below_set ?_ GE101.out) | exact HB.out)⟩
    · rw [if_neg c3] at H
      have c3b0 : decide (a0_1 ≤ 32) = false := decide_eq_false c3
      clear c3
      obtain rfl := Option.some.inj H
      go_enter Try.func35, Try.ntmps35
      go_wp2_with (first | ((with_reducible refine gate_dst (N := 1) rfl ?_); refine box_event ?hg (N := 1) ?hd (cs := #[.int .u32 a0_0, .int .i64 a0_1]) (t := 47) ?hr ?_; (case hd => rfl); (case hg => rfl); (case hr => first | (go_simp; done) | (go_simp; rfl) | (go_simp; simp [IntKind.wrap_u8, IntKind.wrap_u32]; done)); intro gb101 hg w7 hbox hb; have n0_ := Aside0.mk (below_step (by repeat (first | (with_reducible first | exact HB.out | apply below_alloc | apply pw_below_drewN | apply below_drew1) | exact HB.out)) hb); have n1_ := Aside0.mk (hbox); have n2_ := Aside0.mk ((by rw [hg]; exact (below_size (by repeat (first | (with_reducible first | exact HB.out | apply below_alloc | apply pw_below_drewN | apply below_drew1) | exact HB.out))) : w.heap.size ≤ gb101)); have n3_ := Aside0.mk ((by rw [hg]; exact (below_size (by repeat (first | (with_reducible first | exact HB.out | apply below_alloc | apply pw_below_drewN | apply below_drew1) | exact HB.out))) : w.heap.size ≤ gb101)); clear HB; have HB := n0_; have BK101 := n1_; have GW101 := n2_; have GE101 := n3_; clear n0_ n1_ n2_ n3_; clear hb hbox hg; have hcz8_0 : w7.cell? ⟨gb101, 0, none⟩ = some (.int .u32 a0_0) := (blk_cell BK101.out 0).trans rfl; have hcz8_1 : w7.cell? ⟨gb101, 1, none⟩ = some (.int .i64 a0_1) := (blk_cell BK101.out 1).trans rfl; have hfz8_0 := blk_frozen BK101.out 0; have hfz8_1 := blk_frozen BK101.out 1))
      repeat (go_quiet (first | ((with_reducible refine gate_dst (N := 1) rfl ?_); refine box_event ?hg (N := 1) ?hd (cs := #[.int .u32 a0_0, .int .i64 a0_1]) (t := 47) ?hr ?_; (case hd => rfl); (case hg => rfl); (case hr => first | (go_simp; done) | (go_simp; rfl) | (go_simp; simp [IntKind.wrap_u8, IntKind.wrap_u32]; done)); intro gb101 hg w7 hbox hb; have n0_ := Aside0.mk (below_step (by repeat (first | (with_reducible first | exact HB.out | apply below_alloc | apply pw_below_drewN | apply below_drew1) | exact HB.out)) hb); have n1_ := Aside0.mk (hbox); have n2_ := Aside0.mk ((by rw [hg]; exact (below_size (by repeat (first | (with_reducible first | exact HB.out | apply below_alloc | apply pw_below_drewN | apply below_drew1) | exact HB.out))) : w.heap.size ≤ gb101)); have n3_ := Aside0.mk ((by rw [hg]; exact (below_size (by repeat (first | (with_reducible first | exact HB.out | apply below_alloc | apply pw_below_drewN | apply below_drew1) | exact HB.out))) : w.heap.size ≤ gb101)); clear HB; have HB := n0_; have BK101 := n1_; have GW101 := n2_; have GE101 := n3_; clear n0_ n1_ n2_ n3_; clear hb hbox hg; have hcz8_0 : w7.cell? ⟨gb101, 0, none⟩ = some (.int .u32 a0_0) := (blk_cell BK101.out 0).trans rfl; have hcz8_1 : w7.cell? ⟨gb101, 1, none⟩ = some (.int .i64 a0_1) := (blk_cell BK101.out 1).trans rfl; have hfz8_0 := blk_frozen BK101.out 0; have hfz8_1 := blk_frozen BK101.out 1)); try go_wp2_with (first | ((with_reducible refine gate_dst (N := 1) rfl ?_); refine box_event ?hg (N := 1) ?hd (cs := #[.int .u32 a0_0, .int .i64 a0_1]) (t := 47) ?hr ?_; (case hd => rfl); (case hg => rfl); (case hr => first | (go_simp; done) | (go_simp; rfl) | (go_simp; simp [IntKind.wrap_u8, IntKind.wrap_u32]; done)); intro gb101 hg w7 hbox hb; have n0_ := Aside0.mk (below_step (by repeat (first | (with_reducible first | exact HB.out | apply below_alloc | apply pw_below_drewN | apply below_drew1) | exact HB.out)) hb); have n1_ := Aside0.mk (hbox); have n2_ := Aside0.mk ((by rw [hg]; exact (below_size (by repeat (first | (with_reducible first | exact HB.out | apply below_alloc | apply pw_below_drewN | apply below_drew1) | exact HB.out))) : w.heap.size ≤ gb101)); have n3_ := Aside0.mk ((by rw [hg]; exact (below_size (by repeat (first | (with_reducible first | exact HB.out | apply below_alloc | apply pw_below_drewN | apply below_drew1) | exact HB.out))) : w.heap.size ≤ gb101)); clear HB; have HB := n0_; have BK101 := n1_; have GW101 := n2_; have GE101 := n3_; clear n0_ n1_ n2_ n3_; clear hb hbox hg; have hcz8_0 : w7.cell? ⟨gb101, 0, none⟩ = some (.int .u32 a0_0) := (blk_cell BK101.out 0).trans rfl; have hcz8_1 : w7.cell? ⟨gb101, 1, none⟩ = some (.int .i64 a0_1) := (blk_cell BK101.out 1).trans rfl; have hfz8_0 := blk_frozen BK101.out 0; have hfz8_1 := blk_frozen BK101.out 1)))
      go_ret
      exact ⟨by first | rfl | (simp [errW_none, errW_some] <;> rfl) | (simp [*, errW_none, errW_some] <;> rfl), by repeat (first | (with_reducible first | exact HB.out | apply below_alloc | apply pw_below_drewN | apply below_drew1 | refine below_set ?_ GE101.out) | exact HB.out)⟩
  · rw [if_neg c2] at H
    have c2b0 : decide (0 ≤ a0_1) = false := decide_eq_false c2
    clear c2
    obtain rfl := Option.some.inj H
    go_enter Try.func35, Try.ntmps35
    go_wp2_with (first | ((with_reducible refine gate_dst (N := 1) rfl ?_); refine box_event ?hg (N := 1) ?hd (cs := #[.int .u32 a0_0, .int .i64 a0_1]) (t := 47) ?hr ?_; (case hd => rfl); (case hg => rfl); (case hr => first | (go_simp; done) | (go_simp; rfl) | (go_simp; simp [IntKind.wrap_u8, IntKind.wrap_u32]; done)); intro gb101 hg w9 hbox hb; have n0_ := Aside0.mk (below_step (by repeat (first | (with_reducible first | exact HB.out | apply below_alloc | apply pw_below_drewN | apply below_drew1) | exact HB.out)) hb); have n1_ := Aside0.mk (hbox); have n2_ := Aside0.mk ((by rw [hg]; exact (below_size (by repeat (first | (with_reducible first | exact HB.out | apply below_alloc | apply pw_below_drewN | apply below_drew1) | exact HB.out))) : w.heap.size ≤ gb101)); have n3_ := Aside0.mk ((by rw [hg]; exact (below_size (by repeat (first | (with_reducible first | exact HB.out | apply below_alloc | apply pw_below_drewN | apply below_drew1) | exact HB.out))) : w.heap.size ≤ gb101)); clear HB; have HB := n0_; have BK101 := n1_; have GW101 := n2_; have GE101 := n3_; clear n0_ n1_ n2_ n3_; clear hb hbox hg; have hcz10_0 : w9.cell? ⟨gb101, 0, none⟩ = some (.int .u32 a0_0) := (blk_cell BK101.out 0).trans rfl; have hcz10_1 : w9.cell? ⟨gb101, 1, none⟩ = some (.int .i64 a0_1) := (blk_cell BK101.out 1).trans rfl; have hfz10_0 := blk_frozen BK101.out 0; have hfz10_1 := blk_frozen BK101.out 1))
    repeat (go_quiet (first | ((with_reducible refine gate_dst (N := 1) rfl ?_); refine box_event ?hg (N := 1) ?hd (cs := #[.int .u32 a0_0, .int .i64 a0_1]) (t := 47) ?hr ?_; (case hd => rfl); (case hg => rfl); (case hr => first | (go_simp; done) | (go_simp; rfl) | (go_simp; simp [IntKind.wrap_u8, IntKind.wrap_u32]; done)); intro gb101 hg w9 hbox hb; have n0_ := Aside0.mk (below_step (by repeat (first | (with_reducible first | exact HB.out | apply below_alloc | apply pw_below_drewN | apply below_drew1) | exact HB.out)) hb); have n1_ := Aside0.mk (hbox); have n2_ := Aside0.mk ((by rw [hg]; exact (below_size (by repeat (first | (with_reducible first | exact HB.out | apply below_alloc | apply pw_below_drewN | apply below_drew1) | exact HB.out))) : w.heap.size ≤ gb101)); have n3_ := Aside0.mk ((by rw [hg]; exact (below_size (by repeat (first | (with_reducible first | exact HB.out | apply below_alloc | apply pw_below_drewN | apply below_drew1) | exact HB.out))) : w.heap.size ≤ gb101)); clear HB; have HB := n0_; have BK101 := n1_; have GW101 := n2_; have GE101 := n3_; clear n0_ n1_ n2_ n3_; clear hb hbox hg; have hcz10_0 : w9.cell? ⟨gb101, 0, none⟩ = some (.int .u32 a0_0) := (blk_cell BK101.out 0).trans rfl; have hcz10_1 : w9.cell? ⟨gb101, 1, none⟩ = some (.int .i64 a0_1) := (blk_cell BK101.out 1).trans rfl; have hfz10_0 := blk_frozen BK101.out 0; have hfz10_1 := blk_frozen BK101.out 1)); try go_wp2_with (first | ((with_reducible refine gate_dst (N := 1) rfl ?_); refine box_event ?hg (N := 1) ?hd (cs := #[.int .u32 a0_0, .int .i64 a0_1]) (t := 47) ?hr ?_; (case hd => rfl); (case hg => rfl); (case hr => first | (go_simp; done) | (go_simp; rfl) | (go_simp; simp [IntKind.wrap_u8, IntKind.wrap_u32]; done)); intro gb101 hg w9 hbox hb; have n0_ := Aside0.mk (below_step (by repeat (first | (with_reducible first | exact HB.out | apply below_alloc | apply pw_below_drewN | apply below_drew1) | exact HB.out)) hb); have n1_ := Aside0.mk (hbox); have n2_ := Aside0.mk ((by rw [hg]; exact (below_size (by repeat (first | (with_reducible first | exact HB.out | apply below_alloc | apply pw_below_drewN | apply below_drew1) | exact HB.out))) : w.heap.size ≤ gb101)); have n3_ := Aside0.mk ((by rw [hg]; exact (below_size (by repeat (first | (with_reducible first | exact HB.out | apply below_alloc | apply pw_below_drewN | apply below_drew1) | exact HB.out))) : w.heap.size ≤ gb101)); clear HB; have HB := n0_; have BK101 := n1_; have GW101 := n2_; have GE101 := n3_; clear n0_ n1_ n2_ n3_; clear hb hbox hg; have hcz10_0 : w9.cell? ⟨gb101, 0, none⟩ = some (.int .u32 a0_0) := (blk_cell BK101.out 0).trans rfl; have hcz10_1 : w9.cell? ⟨gb101, 1, none⟩ = some (.int .i64 a0_1) := (blk_cell BK101.out 1).trans rfl; have hfz10_0 := blk_frozen BK101.out 0; have hfz10_1 := blk_frozen BK101.out 1)))
    go_ret
    exact ⟨by first | rfl | (simp [errW_none, errW_some] <;> rfl) | (simp [*, errW_none, errW_some] <;> rfl), by repeat (first | (with_reducible first | exact HB.out | apply below_alloc | apply pw_below_drewN | apply below_drew1 | refine below_set ?_ GE101.out) | exact HB.out)⟩

/-! ### prefix_Right: function 33 -/
def prefix_Right.f (a0_0 : Int) (a0_1 : Int) : Option (Bool) := (prefix_right.f a0_0 a0_1).bind fun t104 => (some t104)
set_option maxHeartbeats 8000000 in
set_option maxRecDepth 100000 in
theorem prefix_Right.calls (a0_0 : Int) (a0_1 : Int) (r : Bool) (w : World) (h : prefix_Right.f a0_0 a0_1 = some r) :
    Calls Try.prog 33 #[.agg #[.int .u32 a0_0, .int .i64 a0_1]] w fun e w' => e = .returned (.bool r) ∧ Below w.heap.size w w' := by
  have hu47 := Try.underlying47
  have HB := Aside0.mk (Below.refl w.heap.size w)
  have H : ((prefix_right.f a0_0 a0_1).bind fun t104 => (some t104)) = some r := h
  clear h
  replace H := Option.bind_eq_some_iff.mp H
  obtain ⟨t104, A20, H⟩ := H
  replace H : (some t104) = some r := H
  have A2 := Aside0.mk A20
  clear A20
  obtain rfl := Option.some.inj H
  go_enter Try.func33, Try.ntmps33
  go_wp2_with (first | ((with_reducible refine gate_dst (N := 1) rfl ?_); refine box_event ?hg (N := 1) ?hd (cs := #[.int .u32 a0_0, .int .i64 a0_1]) (t := 47) ?hr ?_; (case hd => rfl); (case hg => rfl); (case hr => first | (go_simp; done) | (go_simp; rfl) | (go_simp; simp [IntKind.wrap_u8, IntKind.wrap_u32]; done)); intro gb103 hg w3 hbox hb; have n0_ := Aside0.mk (below_step (by repeat (first | (with_reducible first | exact HB.out | apply below_alloc | apply pw_below_drewN | apply below_drew1) | exact HB.out)) hb); have n1_ := Aside0.mk (hbox); have n2_ := Aside0.mk ((by rw [hg]; exact (below_size (by repeat (first | (with_reducible first | exact HB.out | apply below_alloc | apply pw_below_drewN | apply below_drew1) | exact HB.out))) : w.heap.size ≤ gb103)); have n3_ := Aside0.mk ((by rw [hg]; exact (below_size (by repeat (first | (with_reducible first | exact HB.out | apply below_alloc | apply pw_below_drewN | apply below_drew1) | exact HB.out))) : w.heap.size ≤ gb103)); clear HB; have HB := n0_; have BK103 := n1_; have GW103 := n2_; have GE103 := n3_; clear n0_ n1_ n2_ n3_; clear hb hbox hg; have hcz4_0 : w3.cell? ⟨gb103, 0, none⟩ = some (.int .u32 a0_0) := (blk_cell BK103.out 0).trans rfl; have hcz4_1 : w3.cell? ⟨gb103, 1, none⟩ = some (.int .i64 a0_1) := (blk_cell BK103.out 1).trans rfl; have hfz4_0 := blk_frozen BK103.out 0; have hfz4_1 := blk_frozen BK103.out 1) | ((with_reducible refine gate_callee (f := 35) rfl ?_); refine goesL_ (some 4) rfl rfl Try.func35 (by kernel_rfl) rfl #[.agg #[.int .u32 a0_0, .int .i64 a0_1]] rfl (by (try simp only [List.map_toArray, List.map_cons, List.map_nil]); first | done | rfl | (simp only [List.length_drop, List.length_take]; rfl)) ?_; (with_reducible refine (prefix_right.calls a0_0 a0_1 t104 _ A2.out).mono ?_); rintro e w5 ⟨rfl, hb⟩; refine ⟨_, rfl, ?_⟩; have n0_ := Aside0.mk (blk_below (g := gb103) (o := .cells #[.int .u32 a0_0, .int .i64 a0_1] 47 (0, 0)) (by (with_reducible repeat (first | refine blk_drewN ?_ _ | refine blk_drew ?_ | refine blk_alloc ?_ _)); exact BK103.out) hb); have n1_ := Aside0.mk (below_step (by repeat (first | (with_reducible first | exact HB.out | apply below_alloc | apply pw_below_drewN | apply below_drew1 | refine below_set ?_ GE103.out) | exact HB.out)) hb); clear BK103; clear HB; have BK103 := n0_; have HB := n1_; clear n0_ n1_; (try clear hb); (try clear hb2); (try clear hk); (try clear hi)))
  go_ret
  exact ⟨by first | rfl | (simp [errW_none, errW_some] <;> rfl) | (simp [*, errW_none, errW_some] <;> rfl), by repeat (first | (with_reducible first | exact HB.out | apply below_alloc | apply pw_below_drewN | apply below_drew1 | refine below_set ?_ GE103.out) | exact HB.out)⟩

/-! ### trie_Trie_at: function 28 -/
-- FN rounds=0 making=1
-- IMPORT Derived.Deep.QuietTactic
-- IMPORT Derived.BigQuiet
open Go.Proofs.Yteheclbneoodeaa.Pre in
theorem trie_right_eq (a n : Int) (ha : U32 a) : prefix_Right.f a n = some (decide (Ok a n)) := by
  unfold prefix_Right.f prefix_right.f Ok
  split
  · split
    · unfold prefix_mask.f
      rw [if_pos (by omega), mask_eq n (by omega) (by omega)]
      simp only [Option.bind_some]
      rw [andNot_mask a n ha (by omega) (by omega)]
      have h1 : 0 ≤ n := by omega
      have h2 : n ≤ 32 := by omega
      simp [h1, h2]
      rfl
    · have h2 : ¬ n ≤ 32 := by omega
      simp [h2]
  · have h2 : ¬ 0 ≤ n := by omega
    simp [h2]
open Go.Proofs.Yteheclbneoodeaa.Pre in
theorem trie_bit_eq (a : Int) (n : Nat) (ha : U32 a) (h : n < 32) : trie_bit.f a n = some (bit a n) := by
  unfold trie_bit.f
  rw [w64 _ (by omega) (by omega), if_pos (by omega)]
  congr 1
  have hq : 0 ≤ a / 2 ^ (31 - n) := Int.ediv_nonneg ha.1 (Int.le_of_lt (Int.pow_pos (by omega)))
  have hs : shr .u32 a (31 - (n : Int)) = a / 2 ^ (31 - n) := by
    unfold shr
    rw [show (31 - (n : Int)).toNat = 31 - n by omega, Nat.min_eq_left (by simp [IntKind.bits]; omega)]
  have hle : a / 2 ^ (31 - n) ≤ a := by
    refine Int.ediv_le_self _ ha.1
  have := bits_mask .u32 32 (by decide) (fun n h0 h1 => by rw [IntKind.wrap_u32]; omega) 1 (by omega) (a / 2 ^ (31 - n)) hq (by have := ha.2; omega)
  rw [hs]
  rw [show ((2 : Int) ^ 1 - 1) = 1 from rfl] at this
  rw [this, Go.Proofs.Yteheclbneoodeaa.Trie.bit_walk a n ha h |>.symm]
  rfl
theorem trie_at_nil (p0 p1 : Int) (mk : Bool) (w : World) :
    Calls Try.prog 28 #[.pointer none, .agg #[.int .u32 p0, .int .i64 p1], .bool mk] w fun e w' => e = .returned (.pointer none) ∧ Below w.heap.size w w' := by
  have hu47 := Try.underlying47
  go_enter Try.func28, Try.ntmps28
  go_wp2
  go_ret
  exact ⟨rfl, below_alloc (Below.refl _ _) _⟩
theorem trie_at_wrong (g : Nat) (p0 p1 : Int) (mk : Bool) (w : World) (h : prefix_Right.f p0 p1 = some false) :
    Calls Try.prog 28 #[.pointer (some ⟨g, 0, none⟩), .agg #[.int .u32 p0, .int .i64 p1], .bool mk] w fun e w' => e = .returned (.pointer none) ∧ Below w.heap.size w w' := by
  have hu47 := Try.underlying47
  have H := Aside0.mk h
  clear h
  go_enter Try.func28, Try.ntmps28
  go_wp2_with (go_at_call 33; refine (prefix_Right.calls p0 p1 false _ H.out).mono ?_; rintro e w1 ⟨rfl, hb⟩; have HB := Aside0.mk hb; clear hb)
  go_ret
  exact ⟨rfl, (below_alloc (Below.refl _ _) _).trans (HB.out.mono (by simp))⟩
open Go.Proofs.Yteheclbneoodeaa.Trie in
theorem trie_none_up {w0 W : World} {g : Nat} {s : Trie.TrieM} {M : List Bool → Option Nat} (h : IsM w0 W g s M) (a : Int) (k : Nat) (hk : M (path a k) = none) (d : Nat) : M (path a (k + d)) = none := by
  induction d with
  | zero => exact hk
  | succ d ih => exact h.up _ _ ih
open Go.Proofs.Yteheclbneoodeaa.Trie Go.Proofs.Yteheclbneoodeaa.Pre in
theorem trie_step {p0 : Int} {k : Nat} (x : Bool) (h : bit p0 k = if x = true then 1 else 0) : path p0 (k + 1) = x :: path p0 k := by
  show (bit p0 k == 1) :: path p0 k = x :: path p0 k
  rw [h]
  cases x <;> rfl
theorem trie_cell {w0 W : World} {g b : Nat} {s : Trie.TrieM} {M : List Bool → Option Nat} {π : List Bool} (h : IsM w0 W g s M) (hb : M π = some b) (x : Bool) : W.cell? ⟨b, if x = true then 1 else 0, none⟩ = some (ptrB (M (x :: π))) := by
  cases x
  · exact (blk_cell (h.at_ π b hb).2.2 0).trans rfl
  · exact (blk_cell (h.at_ π b hb).2.2 1).trans rfl
theorem trie_cell2 {w0 W : World} {g b : Nat} {s : Trie.TrieM} {M : List Bool → Option Nat} {π : List Bool} (h : IsM w0 W g s M) (hb : M π = some b) : W.cell? ⟨b, 2, none⟩ = some (.int .i64 ((s π).getD 0)) ∧ W.cell? ⟨b, 3, none⟩ = some (.bool (s π).isSome) :=
  ⟨(blk_cell (h.at_ π b hb).2.2 2).trans rfl, (blk_cell (h.at_ π b hb).2.2 3).trans rfl⟩
theorem IsM.below {w0 W W1 : World} {g : Nat} {s : Trie.TrieM} {M : List Bool → Option Nat} (h : IsM w0 W g s M) (hb : Below W.heap.size W W1) : IsM w0 W1 g s M := h.frame (fun k _ hk _ => hb.block k hk)
set_option maxHeartbeats 4000000 in
set_option maxRecDepth 100000 in
open Go.Proofs.Yteheclbneoodeaa.Trie Go.Proofs.Yteheclbneoodeaa.Pre in
theorem trie_at_read (g : Nat) (s : Trie.TrieM) (M : List Bool → Option Nat) (p0 p1 : Int) (w0 w : World) (hI : IsM w0 w g s M) (hu : U32 p0) (ho : Ok p0 p1) :
    Calls Try.prog 28 #[.pointer (some ⟨g, 0, none⟩), .agg #[.int .u32 p0, .int .i64 p1], .bool false] w fun e w' => e = .returned (ptrB (M (path p0 p1.toNat))) ∧ Below w.heap.size w w' := by
  have hu47 := Try.underlying47
  have hR : prefix_Right.f p0 p1 = some true := by rw [trie_right_eq p0 p1 hu, decide_eq_true ho]
  obtain ⟨N, rfl⟩ := Int.eq_ofNat_of_zero_le ho.1
  have HN := Aside0.mk (show N ≤ 32 by have := ho.2.1; omega)
  have HR := Aside0.mk hR
  have HI := Aside0.mk hI
  have HU := Aside0.mk hu
  rw [Int.toNat_natCast]
  obtain ⟨wa, hwa⟩ : ∃ wa, wa = w.alloc (.cells #[.int .u32 p0, .int .i64 (N : Int)] 47) := ⟨_, rfl⟩
  have HW := Aside0.mk hwa
  have HWB := Aside0.mk (show wa.heap[w.heap.size]? = some (.cells #[.int .u32 p0, .int .i64 (N : Int)] 47 (0, 0)) by rw [hwa]; exact heap_alloc_new w _)
  have HWS := Aside0.mk (show w.heap.size < wa.heap.size by rw [hwa]; simp)
  have HBA := Aside0.mk (show Below w.heap.size w wa by rw [hwa]; exact below_alloc (Below.refl _ _) _)
  clear hwa hR hI hu ho
  go_enter Try.func28, Try.ntmps28
  go_wp2_with (go_at_call 33; (rw [← HW.out]); refine (prefix_Right.calls p0 N true _ HR.out).mono ?_; rintro e w1 ⟨rfl, hb⟩; have HB := Aside0.mk hb; have hcz1 : w1.cell? ⟨w.heap.size, 1, none⟩ = some (.int .i64 (N : Int)) := (blk_cell ((hb.block _ HWS.out).trans HWB.out) 1).trans rfl; clear hb)
  clear hcz1
  go_loopg [7, 22] (N + 1) (fun kq v7 v22 wr => ∃ k b : Nat, v22 = .int .i64 k ∧ v7 = .pointer (some ⟨b, 0, none⟩) ∧ Aside0 (k ≤ N ∧ k + kq = N + 1 ∧ M (path p0 k) = some b) ∧ Aside0 (Below wa.heap.size wa wr))
  case atStart => exact ⟨0, g, rfl, rfl, ⟨by omega, by omega, HI.out.top⟩, HB⟩
  case round =>
    obtain ⟨k, b, rfl, rfl, HK, HBr⟩ := hrel
    have hcz0 : wr.cell? ⟨w.heap.size, 0, none⟩ = some (.int .u32 p0) := (blk_cell ((HBr.out.block _ HWS.out).trans HWB.out) 0).trans rfl
    have HIr := Aside0.mk ((HI.out.below HBA.out).below HBr.out)
    by_cases hlt : k < N
    · have HL := Aside0.mk hlt
      have hk32 : k < 32 := by have := HN.out; omega
      have hbit := trie_bit_eq p0 k HU.out hk32
      obtain ⟨x, hx⟩ : ∃ x : Bool, bit p0 k = if x = true then 1 else 0 := by
        rcases bit_01 p0 k with e | e
        · exact ⟨false, e⟩
        · exact ⟨true, e⟩
      have HX := Aside0.mk (trie_step x hx)
      have hc := trie_cell HIr.out HK.out.2.2 x
      rw [hx] at hbit
      have hcz1 : wr.cell? ⟨w.heap.size, 1, none⟩ = some (.int .i64 (N : Int)) := (blk_cell ((HBr.out.block _ HWS.out).trans HWB.out) 1).trans rfl
      have HBIT := Aside0.mk hbit
      clear hbit hx hk32 hlt
      have d0 : decide (k < N) = true := decide_eq_true HL.out
      cases gk with
      | zero => exact absurd HK.out.2.1 (by have := HL.out; omega)
      | succ k1 =>
      cases hm : M (x :: path p0 k) with
      | none =>
        have HM := Aside0.mk hm
        rw [hm, ptrB_none] at hc
        clear hm
        cases x
        all_goals
          simp only [if_true, if_false, Bool.false_eq_true] at hc
          go_wp2
          go_quiet (first | (go_at_call 31; (with_reducible refine (trie_bit.calls p0 k _ _ HBIT.out).mono ?_); rintro e w' ⟨rfl, ⟨nd, rfl⟩⟩; (try first | exact ⟨rfl, _, World.drewN_drewN _ _ _⟩ | exact ⟨rfl, _, Eq.trans (World.drewN_drewN _ _ _) (congrArg (World.drewN _) (Nat.add_assoc _ _ _))⟩)))
          go_wp2
          go_ret
          exact ⟨by rw [show N = (k + 1) + (N - (k + 1)) by have := HL.out; omega, trie_none_up HIr.out p0 (k + 1) (by rw [HX.out]; exact HM.out)]; rfl, pw_below_drewN (HBA.out.trans (HBr.out.mono (Nat.le_of_lt HWS.out))) _⟩
      | some b1 =>
        have HM := Aside0.mk hm
        rw [hm, ptrB_some] at hc
        clear hm
        cases x
        all_goals
          simp only [if_true, if_false, Bool.false_eq_true] at hc
          go_wp2
          go_quiet (first | (go_at_call 31; (with_reducible refine (trie_bit.calls p0 k _ _ HBIT.out).mono ?_); rintro e w' ⟨rfl, ⟨nd, rfl⟩⟩; (try first | exact ⟨rfl, _, World.drewN_drewN _ _ _⟩ | exact ⟨rfl, _, Eq.trans (World.drewN_drewN _ _ _) (congrArg (World.drewN _) (Nat.add_assoc _ _ _))⟩)))
          go_wp2
          go_roundg k1
          case measure => omega
          case rel => exact ⟨k + 1, b1, (by have hw : wrap64 ((k : Int) + 1) = ((k + 1 : Nat) : Int) := (by have := HN.out; have := HL.out; unfold wrap64; omega); first | rfl | (simp [hw]; done)), rfl, ⟨by have := HL.out; omega, by have := HK.out.2.1; omega, by rw [HX.out]; exact HM.out⟩, ⟨pw_below_drewN HBr.out _⟩⟩
    · have d0 : decide (k < N) = false := decide_eq_false hlt
      have HL := Aside0.mk hlt
      clear hlt
      go_wp2
      go_ret
      exact ⟨by rw [show N = k by have := HK.out.1; have := HL.out; omega, HK.out.2.2]; rfl, HBA.out.trans (HBr.out.mono (Nat.le_of_lt HWS.out))⟩
theorem trie_grow {w0 W : World} {g b : Nat} {s : Trie.TrieM} {M : List Bool → Option Nat} {π : List Bool} (h : IsM w0 W g s M) (hb : M π = some b) (x : Bool) (hn : M (x :: π) = none) (hl : π.length < 32) (hw : w0.heap.size ≤ W.heap.size) :
    IsM w0 ((W.alloc (.cells #[.pointer none, .pointer none, .int .i64 0, .bool false] 73)).setCell ⟨b, if x = true then 1 else 0, none⟩ (.pointer (some ⟨W.heap.size, 0, none⟩))) g s (fun ρ => if ρ = x :: π then some W.heap.size else M ρ) := by
  have hbl := blk_lt (h.at_ π b hb).2.2
  refine ⟨by rw [if_neg (by simp)]; exact h.top, fun ρ c hc => ?_, fun y ρ hy => ?_, fun ρ σ c h1 h2 => ?_, fun ρ hρ => ?_⟩
  · split at hc
    · rename_i e
      subst e
      obtain rfl := Option.some.inj hc
      refine ⟨hw, by rw [List.length_cons]; omega, ?_⟩
      have h1 : nodeCells s (fun ρ => if ρ = x :: π then some W.heap.size else M ρ) (x :: π) = #[.pointer none, .pointer none, .int .i64 0, .bool false] := by
        unfold nodeCells
        dsimp only
        rw [if_neg (by simp), if_neg (by simp), h.up false _ hn, h.up true _ hn, h.none_ _ hn]
        rfl
      rw [h1, Below.heap_setCell _ _ _ _ (Ne.symm (Nat.ne_of_lt hbl))]
      have h2 : nodeT (x :: π) = 73 := by unfold nodeT; rw [if_neg (by simp)]
      rw [h2]
      exact heap_alloc_new W _
    · rename_i e
      obtain ⟨h1, h2, h3⟩ := h.at_ ρ c hc
      refine ⟨h1, h2, ?_⟩
      have h4 : (W.alloc (.cells #[.pointer none, .pointer none, .int .i64 0, .bool false] 73)).heap[c]? = some (.cells (nodeCells s M ρ) (nodeT ρ) (0, 0)) := ((below_alloc (Below.refl _ W) _).block c (blk_lt h3)).trans h3
      by_cases e2 : ρ = π
      · subst e2
        obtain rfl := Option.some.inj (hb.symm.trans hc)
        have := blk_set h4 (if x = true then 1 else 0) (.pointer (some ⟨W.heap.size, 0, none⟩))
        rw [this]
        congr 2
        unfold nodeCells
        dsimp only
        cases x
        · rw [if_pos rfl, if_neg (by simp)]
          rfl
        · rw [if_pos rfl, if_neg (show ¬ (false :: ρ = true :: ρ) by simp), if_pos rfl]
          rfl
      · have e3 : c ≠ b := fun e3 => e2 (h.inj _ _ _ hc (e3 ▸ hb))
        rw [Below.heap_setCell _ _ _ _ e3, h4]
        congr 2
        unfold nodeCells
        dsimp only
        rw [if_neg (by simp [e2]), if_neg (by simp [e2])]
  · split at hy
    · cases hy
    · rename_i e
      have h1 := h.up y ρ hy
      rw [if_neg (fun e2 => by injection e2 with _ e2; subst e2; rw [hb] at hy; cases hy)]
      exact h1
  · split at h1
    · rename_i e1
      split at h2
      · rename_i e2
        exact e1.trans e2.symm
      · obtain rfl := Option.some.inj h1
        have := blk_lt (h.at_ σ _ h2).2.2
        omega
    · split at h2
      · obtain rfl := Option.some.inj h2
        have := blk_lt (h.at_ ρ _ h1).2.2
        omega
      · exact h.inj _ _ _ h1 h2
  · split at hρ
    · cases hρ
    · exact h.none_ ρ hρ
theorem IsM.drewN {w0 W : World} {g : Nat} {s : Trie.TrieM} {M : List Bool → Option Nat} (h : IsM w0 W g s M) (m : Nat) : IsM w0 (W.drewN m) g s M := h.frame (fun _ _ _ _ => rfl)
theorem IsM.priv {w0 W : World} {g b : Nat} {s : Trie.TrieM} {M : List Bool → Option Nat} {π : List Bool} (h : IsM w0 W g s M) (hb : M π = some b) : w0.heap.size ≤ b ∧ Go.Proofs.Yteheclbneoodeaa.Opq.Priv ts75 W.heap[b]? := by
  obtain ⟨h1, _, h3⟩ := h.at_ π b hb
  exact ⟨h1, by rw [h3]; exact nodeT_priv π⟩
set_option maxHeartbeats 4000000 in
set_option maxRecDepth 100000 in
open Go.Proofs.Yteheclbneoodeaa.Trie Go.Proofs.Yteheclbneoodeaa.Pre Go.Proofs.Yteheclbneoodeaa.Opq in
theorem trie_at_make (g : Nat) (s : Trie.TrieM) (M : List Bool → Option Nat) (p0 p1 : Int) (w0 w : World) (hI : IsM w0 w g s M) (hBB : Below w0.heap.size w0 w) (hu : U32 p0) (ho : Ok p0 p1) :
    Calls Try.prog 28 #[.pointer (some ⟨g, 0, none⟩), .agg #[.int .u32 p0, .int .i64 p1], .bool true] w fun e w' => ∃ (b : Nat) (M2 : List Bool → Option Nat), e = .returned (.pointer (some ⟨b, 0, none⟩)) ∧ IsM w0 w' g s M2 ∧ M2 (path p0 p1.toNat) = some b ∧ Below w0.heap.size w0 w' ∧ KeepO ts75 w0.heap.size w w' := by
  have hu47 := Try.underlying47
  have hu73 := Try.underlying73
  have hR : prefix_Right.f p0 p1 = some true := by rw [trie_right_eq p0 p1 hu, decide_eq_true ho]
  obtain ⟨N, rfl⟩ := Int.eq_ofNat_of_zero_le ho.1
  have HN := Aside0.mk (show N ≤ 32 by have := ho.2.1; omega)
  have HR := Aside0.mk hR
  have HI := Aside0.mk hI
  have HU := Aside0.mk hu
  have HBB := Aside0.mk hBB
  rw [Int.toNat_natCast]
  obtain ⟨wa, hwa⟩ : ∃ wa, wa = w.alloc (.cells #[.int .u32 p0, .int .i64 (N : Int)] 47) := ⟨_, rfl⟩
  have HW := Aside0.mk hwa
  have HWB := Aside0.mk (show wa.heap[w.heap.size]? = some (.cells #[.int .u32 p0, .int .i64 (N : Int)] 47 (0, 0)) by rw [hwa]; exact heap_alloc_new w _)
  have HWS := Aside0.mk (show w.heap.size < wa.heap.size by rw [hwa]; simp)
  have HBA := Aside0.mk (show Below w.heap.size w wa by rw [hwa]; exact below_alloc (Below.refl _ _) _)
  clear hwa hR hI hu ho hBB
  go_enter Try.func28, Try.ntmps28
  go_wp2_with (go_at_call 33; (rw [← HW.out]); refine (prefix_Right.calls p0 N true _ HR.out).mono ?_; rintro e w1 ⟨rfl, hb⟩; have HB := Aside0.mk hb; have hcz1 : w1.cell? ⟨w.heap.size, 1, none⟩ = some (.int .i64 (N : Int)) := (blk_cell ((hb.block _ HWS.out).trans HWB.out) 1).trans rfl; clear hb)
  clear hcz1
  go_loopg [7, 22] (N + 1) (fun kq v7 v22 wr => ∃ (k b : Nat) (M1 : List Bool → Option Nat), v22 = .int .i64 k ∧ v7 = .pointer (some ⟨b, 0, none⟩) ∧ Aside0 (k ≤ N ∧ k + kq = N + 1 ∧ M1 (path p0 k) = some b) ∧ Aside0 (IsM w0 wr g s M1) ∧ Aside0 (Below w0.heap.size w0 wr) ∧ Aside0 (KeepO ts75 w0.heap.size wa wr))
  case atStart => exact ⟨0, g, M, rfl, rfl, ⟨by omega, by omega, HI.out.top⟩, ⟨(HI.out.below HBA.out).below HB.out⟩, ⟨below_weaken HBB.out HBB.out.size (HBA.out.trans (HB.out.mono (Nat.le_of_lt HWS.out)))⟩, ⟨KeepO.of_below HB.out⟩⟩
  case round =>
    obtain ⟨k, b, M1, rfl, rfl, HK, HIr, HBr, HKr⟩ := hrel
    have hbox := HKr.out.blk HWB.out (by decide)
    have hcz0 : wr.cell? ⟨w.heap.size, 0, none⟩ = some (.int .u32 p0) := (blk_cell hbox 0).trans rfl
    have hcz1 : wr.cell? ⟨w.heap.size, 1, none⟩ = some (.int .i64 (N : Int)) := (blk_cell hbox 1).trans rfl
    clear hbox
    by_cases hlt : k < N
    · have HL := Aside0.mk hlt
      have hk32 : k < 32 := by have := HN.out; omega
      have hbit := trie_bit_eq p0 k HU.out hk32
      obtain ⟨x, hx⟩ : ∃ x : Bool, bit p0 k = if x = true then 1 else 0 := by
        rcases bit_01 p0 k with e | e
        · exact ⟨false, e⟩
        · exact ⟨true, e⟩
      have HX := Aside0.mk (trie_step x hx)
      have hc := trie_cell HIr.out HK.out.2.2 x
      rw [hx] at hbit
      have HBIT := Aside0.mk hbit
      clear hbit hx hk32 hlt
      have d0 : decide (k < N) = true := decide_eq_true HL.out
      cases gk with
      | zero => exact absurd HK.out.2.1 (by have := HL.out; omega)
      | succ k1 =>
      cases hm : M1 (x :: path p0 k) with
      | none =>
        have HM := Aside0.mk hm
        rw [hm, ptrB_none] at hc
        clear hm
        have hbl : b < wr.heap.size := blk_lt (HIr.out.at_ _ _ HK.out.2.2).2.2
        cases x
        all_goals
          simp only [if_true, if_false, Bool.false_eq_true] at hc
          go_wp2
          go_quiet (first | (go_at_call 31; (with_reducible refine (trie_bit.calls p0 k _ _ HBIT.out).mono ?_); rintro e w' ⟨rfl, ⟨nd, rfl⟩⟩; (try first | exact ⟨rfl, _, World.drewN_drewN _ _ _⟩ | exact ⟨rfl, _, Eq.trans (World.drewN_drewN _ _ _) (congrArg (World.drewN _) (Nat.add_assoc _ _ _))⟩)))
          have hA := ((below_alloc (Below.refl _ (wr.drewN nq)) (.cells #[.pointer none, .pointer none, .int .i64 0, .bool false] 73)).block b hbl).trans (HIr.out.at_ _ _ HK.out.2.2).2.2
          have hfa := blk_frozen hA
          have hca : ((wr.drewN nq).alloc (.cells #[.pointer none, .pointer none, .int .i64 0, .bool false] 73)).cell? ⟨b, _, none⟩ = some (.pointer none) := ((below_alloc (Below.refl _ (wr.drewN nq)) (.cells #[.pointer none, .pointer none, .int .i64 0, .bool false] 73)).cell (p := ⟨b, _, none⟩) hbl).trans hc
          have HA := Aside0.mk hA
          clear hA
          go_wp2
          go_roundg k1
          case measure => omega
          case rel =>
            have hpr := (HIr.out.drewN nq).below (below_alloc (Below.refl _ _) (.cells #[.pointer none, .pointer none, .int .i64 0, .bool false] 73)) |>.priv HK.out.2.2
            exact ⟨k + 1, wr.heap.size, _, (by have hw : wrap64 ((k : Int) + 1) = ((k + 1 : Nat) : Int) := (by have := HN.out; have := HL.out; unfold wrap64; omega); first | rfl | (simp [hw]; done)), rfl, ⟨by have := HL.out; omega, by have := HK.out.2.1; omega, by rw [HX.out]; exact if_pos rfl⟩,
              ⟨trie_grow (HIr.out.drewN nq) HK.out.2.2 _ HM.out (by rw [path_length]; have := HN.out; have := HL.out; omega) HBr.out.size⟩, ⟨Below.setCell (below_alloc (pw_below_drewN HBr.out _) _) hpr.1 _⟩, ⟨(HKr.out.drewN.alloc).trans (KeepO.set (KeepO.refl _ _ _) (.inr hpr) _)⟩⟩
      | some b1 =>
        have HM := Aside0.mk hm
        rw [hm, ptrB_some] at hc
        clear hm
        cases x
        all_goals
          simp only [if_true, if_false, Bool.false_eq_true] at hc
          go_wp2
          go_quiet (first | (go_at_call 31; (with_reducible refine (trie_bit.calls p0 k _ _ HBIT.out).mono ?_); rintro e w' ⟨rfl, ⟨nd, rfl⟩⟩; (try first | exact ⟨rfl, _, World.drewN_drewN _ _ _⟩ | exact ⟨rfl, _, Eq.trans (World.drewN_drewN _ _ _) (congrArg (World.drewN _) (Nat.add_assoc _ _ _))⟩)))
          go_wp2
          go_roundg k1
          case measure => omega
          case rel => exact ⟨k + 1, b1, M1, (by have hw : wrap64 ((k : Int) + 1) = ((k + 1 : Nat) : Int) := (by have := HN.out; have := HL.out; unfold wrap64; omega); first | rfl | (simp [hw]; done)), rfl, ⟨by have := HL.out; omega, by have := HK.out.2.1; omega, by rw [HX.out]; exact HM.out⟩, ⟨HIr.out.drewN _⟩, ⟨pw_below_drewN HBr.out _⟩, ⟨HKr.out.drewN⟩⟩
    · have d0 : decide (k < N) = false := decide_eq_false hlt
      have HL := Aside0.mk hlt
      clear hlt
      go_wp2
      go_ret
      exact ⟨b, M1, rfl, HIr.out, by rw [show N = k by have := HK.out.1; have := HL.out; omega]; exact HK.out.2.2, HBr.out, (KeepO.of_below HBA.out).trans HKr.out⟩


/-! ### trie_Trie_Set: function 17 -/
-- FN rounds=0 making=1
open Go.Proofs.Yteheclbneoodeaa.Trie Go.Proofs.Yteheclbneoodeaa.Pre in
def trie_Trie_Set.f (s : Trie.TrieM) (a1_0 : Int) (a1_1 : Int) (a2 : Int) : Option (Bool × Trie.TrieM) :=
  if 0 ≤ a1_0 ∧ a1_0 < 4294967296 then (if Ok a1_0 a1_1 then some (true, Trie.set s (Trie.path a1_0 a1_1.toNat) (some a2)) else some (false, s)) else none
theorem trie_put {w0 W : World} {g b : Nat} {s : Trie.TrieM} {M : List Bool → Option Nat} {π : List Bool} (h : IsM w0 W g s M) (hb : M π = some b) (o : Option Int) :
    IsM w0 ((W.setCell ⟨b, 2, none⟩ (.int .i64 (o.getD 0))).setCell ⟨b, 3, none⟩ (.bool o.isSome)) g (Trie.set s π o) M := by
  refine ⟨h.top, fun ρ c hc => ?_, h.up, h.inj, fun ρ hρ => ?_⟩
  · obtain ⟨h1, h2, h3⟩ := h.at_ ρ c hc
    refine ⟨h1, h2, ?_⟩
    by_cases e : ρ = π
    · subst e
      obtain rfl := Option.some.inj (hb.symm.trans hc)
      have := blk_set (blk_set h3 2 (.int .i64 (o.getD 0))) 3 (.bool o.isSome)
      rw [this]
      congr 2
      unfold nodeCells Trie.set
      rw [if_pos rfl]
      rfl
    · have e3 : c ≠ b := fun e3 => e (h.inj _ _ _ hc (e3 ▸ hb))
      rw [Below.heap_setCell _ _ _ _ e3, Below.heap_setCell _ _ _ _ e3, h3]
      congr 2
      unfold nodeCells Trie.set
      rw [if_neg e]
  · unfold Trie.set
    rw [if_neg (fun e => by subst e; rw [hb] at hρ; cases hρ)]
    exact h.none_ ρ hρ
set_option maxHeartbeats 2000000 in
open Go.Proofs.Yteheclbneoodeaa.Trie Go.Proofs.Yteheclbneoodeaa.Pre Go.Proofs.Yteheclbneoodeaa.Opq in
theorem trie_Trie_Set.calls (g : Nat) (s0_0 : Trie.TrieM) (a1_0 : Int) (a1_1 : Int) (a2 : Int) (r1 : Bool) (r2 : Trie.TrieM) (w0 w : World) (hI : IsS75 w0 w g s0_0) (hB : Below w0.heap.size w0 w) (h : trie_Trie_Set.f s0_0 a1_0 a1_1 a2 = some (r1, r2)) :
    Calls Try.prog 17 #[.pointer (some ⟨g, 0, none⟩), .agg #[.int .u32 a1_0, .int .i64 a1_1], .int .i64 a2] w fun e w' => e = .returned (.bool r1) ∧ IsS75 w0 w' g r2 ∧ Below w0.heap.size w0 w' ∧ Go.Proofs.Yteheclbneoodeaa.Opq.KeepO ts75 w0.heap.size w w' := by
  have hu47 := Try.underlying47
  unfold trie_Trie_Set.f at h
  split at h
  case isFalse => cases h
  case isTrue hu =>
  split at h
  case isFalse ho =>
    injection h with h
    injection h with h1 h2
    subst h1 h2
    have HX := Aside0.mk (show prefix_Right.f a1_0 a1_1 = some false by rw [trie_right_eq _ _ hu, decide_eq_false ho])
    have HI := Aside0.mk hI
    have HB := Aside0.mk hB
    clear hI hB hu ho
    go_enter Try.func17, Try.ntmps17
    go_wp2_with (go_at_call 28; refine (trie_at_wrong g a1_0 a1_1 true _ HX.out).mono ?_; rintro e w1 ⟨rfl, hb⟩; have HB1 := Aside0.mk (((below_alloc (Below.refl w.heap.size w) (.cells #[.int .u32 a1_0, .int .i64 a1_1] 47))).trans (hb.mono (by simp))); clear hb)
    go_ret
    exact ⟨rfl, HI.out.below HB1.out, below_weaken HB.out HB.out.size HB1.out, KeepO.of_below HB1.out⟩
  case isTrue ho =>
    injection h with h
    injection h with h1 h2
    subst h1 h2
    obtain ⟨M, hM⟩ := hI
    have HB0 := Aside0.mk hB
    have HX := Aside0.mk (trie_at_make g s0_0 M a1_0 a1_1 w0 (w.alloc (.cells #[.int .u32 a1_0, .int .i64 a1_1] 47)) (hM.below (below_alloc (Below.refl _ _) _)) (below_weaken hB hB.size (below_alloc (Below.refl _ _) _)) hu ho)
    clear hM hB hu ho
    go_enter Try.func17, Try.ntmps17
    go_wp2_with fail
    refine HX.out.mono ?_
    rintro e w1 ⟨b, M2, rfl, hI1, hb, hB1, hK1⟩
    have hcell := trie_cell2 hI1 hb
    have hc2 := hcell.1
    have hc3 := hcell.2
    have hfz := blk_frozen (hI1.at_ _ _ hb).2.2
    have HI1 := Aside0.mk hI1
    have HB1 := Aside0.mk hB1
    have HK1 := Aside0.mk hK1
    have HM := Aside0.mk hb
    clear hI1 hB1 hK1 hb hcell HX
    go_wp2
    go_ret
    have hpr := HI1.out.priv HM.out
    have hI2 := trie_put HI1.out HM.out (some a2)
    exact ⟨rfl, ⟨M2, hI2⟩, Below.setCell (Below.setCell HB1.out hpr.1 _) hpr.1 _, ((KeepO.of_below (below_alloc (Below.refl _ _) _)).trans HK1.out).trans (((KeepO.refl _ _ _).set (.inr hpr) _).set (.inr hpr) _)⟩


/-! ### prefix_Make: function 30 -/
def prefix_Make.f (a0 : Int) (a1 : Int) : Option (Int × Int × Bool) := if a1 < 0 then (some (0, 0, false)) else (if a1 > 32 then (some (0, 0, false)) else ((prefix_mask.f a1).bind fun t106 => (some (Go.bits .and .u32 a0 t106, a1, true))))
set_option maxHeartbeats 8000000 in
set_option maxRecDepth 100000 in
theorem prefix_Make.calls (a0 : Int) (a1 : Int) (r1 : Int) (r2 : Int) (r3 : Bool) (w : World) (h : prefix_Make.f a0 a1 = some (r1, r2, r3)) :
    Calls Try.prog 30 #[.int .u32 a0, .int .i64 a1] w fun e w' => e = .returned (.tuple #[.agg #[.int .u32 r1, .int .i64 r2], .bool r3]) ∧ Below w.heap.size w w' := by
  have hu47 := Try.underlying47
  have HB := Aside0.mk (Below.refl w.heap.size w)
  have H : (if a1 < 0 then (some (0, 0, false)) else (if a1 > 32 then (some (0, 0, false)) else ((prefix_mask.f a1).bind fun t106 => (some (Go.bits .and .u32 a0 t106, a1, true))))) = some (r1, r2, r3) := h
  clear h
  by_cases c3 : a1 < 0
  · rw [if_pos c3] at H
    have c3b0 : decide (a1 < 0) = true := decide_eq_true c3
    clear c3
    simp only [Option.some.injEq, Prod.mk.injEq] at H
    obtain ⟨rfl, rfl, rfl⟩ := H
    go_enter Try.func30, Try.ntmps30
    go_wp2_with (first | ((with_reducible refine gate_dst (N := 4) rfl ?_); refine box_event ?hg (N := 4) ?hd (cs := #[.int .u32 0, .int .i64 0]) (t := 47) ?hr ?_; (case hd => rfl); (case hg => rfl); (case hr => first | (go_simp; done) | (go_simp; rfl) | (go_simp; simp [IntKind.wrap_u8, IntKind.wrap_u32]; done)); intro gb105 hg w4 hbox hb; have n0_ := Aside0.mk (below_step (by repeat (first | (with_reducible first | exact HB.out | apply below_alloc | apply pw_below_drewN | apply below_drew1) | exact HB.out)) hb); have n1_ := Aside0.mk (hbox); have n2_ := Aside0.mk ((by rw [hg]; exact (below_size (by repeat (first | (with_reducible first | exact HB.out | apply below_alloc | apply pw_below_drewN | apply below_drew1) | exact HB.out))) : w.heap.size ≤ gb105)); have n3_ := Aside0.mk ((by rw [hg]; exact (below_size (by repeat (first | (with_reducible first | exact HB.out | apply below_alloc | apply pw_below_drewN | apply below_drew1) | exact HB.out))) : w.heap.size ≤ gb105)); clear HB; have HB := n0_; have BK105 := n1_; have GW105 := n2_; have GE105 := n3_; clear n0_ n1_ n2_ n3_; clear hb hbox hg; have hcz5_0 : w4.cell? ⟨gb105, 0, none⟩ = some (.int .u32 0) := (blk_cell BK105.out 0).trans rfl; have hcz5_1 : w4.cell? ⟨gb105, 1, none⟩ = some (.int .i64 0) := (blk_cell BK105.out 1).trans rfl; have hfz5_0 := blk_frozen BK105.out 0; have hfz5_1 := blk_frozen BK105.out 1))
    refine bodyPost_ret (results_ct rfl _ _ gb105 47 #[.int .u32 0, .int .i64 0] (0, 0) _ rfl (by (with_reducible repeat (first | refine blk_drewN ?_ _ | refine blk_drew ?_ | refine blk_alloc ?_ _)); refine blk_put (cs := #[.int .u32 0, .int .i64 0]) ?_ 1 _ rfl; (with_reducible repeat (first | refine blk_drewN ?_ _ | refine blk_drew ?_ | refine blk_alloc ?_ _)); refine blk_put (cs := #[.int .u32 0, .int .i64 0]) ?_ 0 _ rfl; (with_reducible repeat (first | refine blk_drewN ?_ _ | refine blk_drew ?_ | refine blk_alloc ?_ _)); exact BK105.out) Try.underlying47 rfl (by kernel_rfl)) rfl ?_
    exact ⟨by first | rfl | (simp [errW_none, errW_some] <;> rfl) | (simp [*, errW_none, errW_some] <;> rfl), by repeat (first | (with_reducible first | exact HB.out | apply below_alloc | apply pw_below_drewN | apply below_drew1 | refine below_set ?_ GE105.out) | exact HB.out)⟩
  · rw [if_neg c3] at H
    have c3b0 : decide (a1 < 0) = false := decide_eq_false c3
    clear c3
    by_cases c6 : a1 > 32
    · rw [if_pos c6] at H
      have c6b0 : decide (32 < a1) = true := decide_eq_true c6
      clear c6
      simp only [Option.some.injEq, Prod.mk.injEq] at H
      obtain ⟨rfl, rfl, rfl⟩ := H
      go_enter Try.func30, Try.ntmps30
      go_wp2_with (first | ((with_reducible refine gate_dst (N := 4) rfl ?_); refine box_event ?hg (N := 4) ?hd (cs := #[.int .u32 0, .int .i64 0]) (t := 47) ?hr ?_; (case hd => rfl); (case hg => rfl); (case hr => first | (go_simp; done) | (go_simp; rfl) | (go_simp; simp [IntKind.wrap_u8, IntKind.wrap_u32]; done)); intro gb105 hg w7 hbox hb; have n0_ := Aside0.mk (below_step (by repeat (first | (with_reducible first | exact HB.out | apply below_alloc | apply pw_below_drewN | apply below_drew1) | exact HB.out)) hb); have n1_ := Aside0.mk (hbox); have n2_ := Aside0.mk ((by rw [hg]; exact (below_size (by repeat (first | (with_reducible first | exact HB.out | apply below_alloc | apply pw_below_drewN | apply below_drew1) | exact HB.out))) : w.heap.size ≤ gb105)); have n3_ := Aside0.mk ((by rw [hg]; exact (below_size (by repeat (first | (with_reducible first | exact HB.out | apply below_alloc | apply pw_below_drewN | apply below_drew1) | exact HB.out))) : w.heap.size ≤ gb105)); clear HB; have HB := n0_; have BK105 := n1_; have GW105 := n2_; have GE105 := n3_; clear n0_ n1_ n2_ n3_; clear hb hbox hg; have hcz8_0 : w7.cell? ⟨gb105, 0, none⟩ = some (.int .u32 0) := (blk_cell BK105.out 0).trans rfl; have hcz8_1 : w7.cell? ⟨gb105, 1, none⟩ = some (.int .i64 0) := (blk_cell BK105.out 1).trans rfl; have hfz8_0 := blk_frozen BK105.out 0; have hfz8_1 := blk_frozen BK105.out 1))
      refine bodyPost_ret (results_ct rfl _ _ gb105 47 #[.int .u32 0, .int .i64 0] (0, 0) _ rfl (by (with_reducible repeat (first | refine blk_drewN ?_ _ | refine blk_drew ?_ | refine blk_alloc ?_ _)); refine blk_put (cs := #[.int .u32 0, .int .i64 0]) ?_ 1 _ rfl; (with_reducible repeat (first | refine blk_drewN ?_ _ | refine blk_drew ?_ | refine blk_alloc ?_ _)); refine blk_put (cs := #[.int .u32 0, .int .i64 0]) ?_ 0 _ rfl; (with_reducible repeat (first | refine blk_drewN ?_ _ | refine blk_drew ?_ | refine blk_alloc ?_ _)); exact BK105.out) Try.underlying47 rfl (by kernel_rfl)) rfl ?_
      exact ⟨by first | rfl | (simp [errW_none, errW_some] <;> rfl) | (simp [*, errW_none, errW_some] <;> rfl), by repeat (first | (with_reducible first | exact HB.out | apply below_alloc | apply pw_below_drewN | apply below_drew1 | refine below_set ?_ GE105.out) | exact HB.out)⟩
    · rw [if_neg c6] at H
      have c6b0 : decide (32 < a1) = false := decide_eq_false c6
      clear c6
      replace H := Option.bind_eq_some_iff.mp H
      obtain ⟨t106, A90, H⟩ := H
      replace H : (some (Go.bits .and .u32 a0 t106, a1, true)) = some (r1, r2, r3) := H
      have A9 := Aside0.mk A90
      clear A90
      simp only [Option.some.injEq, Prod.mk.injEq] at H
      obtain ⟨rfl, rfl, rfl⟩ := H
      go_enter Try.func30, Try.ntmps30
      go_wp2_with (first | ((with_reducible refine gate_dst (N := 4) rfl ?_); refine box_event ?hg (N := 4) ?hd (cs := #[.int .u32 0, .int .i64 0]) (t := 47) ?hr ?_; (case hd => rfl); (case hg => rfl); (case hr => first | (go_simp; done) | (go_simp; rfl) | (go_simp; simp [IntKind.wrap_u8, IntKind.wrap_u32]; done)); intro gb105 hg w10 hbox hb; have n0_ := Aside0.mk (below_step (by repeat (first | (with_reducible first | exact HB.out | apply below_alloc | apply pw_below_drewN | apply below_drew1) | exact HB.out)) hb); have n1_ := Aside0.mk (hbox); have n2_ := Aside0.mk ((by rw [hg]; exact (below_size (by repeat (first | (with_reducible first | exact HB.out | apply below_alloc | apply pw_below_drewN | apply below_drew1) | exact HB.out))) : w.heap.size ≤ gb105)); have n3_ := Aside0.mk ((by rw [hg]; exact (below_size (by repeat (first | (with_reducible first | exact HB.out | apply below_alloc | apply pw_below_drewN | apply below_drew1) | exact HB.out))) : w.heap.size ≤ gb105)); clear HB; have HB := n0_; have BK105 := n1_; have GW105 := n2_; have GE105 := n3_; clear n0_ n1_ n2_ n3_; clear hb hbox hg) | ((with_reducible refine gate_callee (f := 34) rfl ?_); refine goesL_ (some 15) rfl rfl Try.func34 (by kernel_rfl) rfl #[.int .i64 a1] rfl (by (try simp only [List.map_toArray, List.map_cons, List.map_nil]); first | done | rfl | (simp only [List.length_drop, List.length_take]; rfl)) ?_; (with_reducible refine (prefix_mask.calls a1 t106 _ A9.out).mono ?_); rintro e w' ⟨rfl, ⟨nd, rfl⟩⟩; refine ⟨_, rfl, ?_⟩; (try (rw [drewN_self w10]; generalize hq_ : World.drewN w10 _ = w10; have n0_ : Aside0 (w10.heap[gb105]? = some (.cells #[.int .u32 0, .int .i64 0] 47 (0, 0))) := ⟨by rw [← hq_]; exact (by (with_reducible repeat (first | refine blk_drewN ?_ _ | refine blk_drew ?_ | refine blk_alloc ?_ _)); exact BK105.out)⟩; have n1_ : Aside0 (Below w.heap.size w w10) := ⟨by rw [← hq_]; exact (by repeat (first | (with_reducible first | exact HB.out | apply below_alloc | apply pw_below_drewN | apply below_drew1 | refine below_set ?_ GE105.out) | exact HB.out))⟩; clear BK105 HB hq_; have BK105 := n0_; have HB := n1_; clear n0_ n1_)); have hcz11_0 : w10.cell? ⟨gb105, 0, none⟩ = some (.int .u32 0) := (blk_cell BK105.out 0).trans rfl; have hcz11_1 : w10.cell? ⟨gb105, 1, none⟩ = some (.int .i64 0) := (blk_cell BK105.out 1).trans rfl; have hfz11_0 := blk_frozen BK105.out 0; have hfz11_1 := blk_frozen BK105.out 1))
      refine bodyPost_ret (results_ct rfl _ _ gb105 47 #[.int .u32 (Go.bits .and .u32 a0 t106), .int .i64 a1] (0, 0) _ rfl (by (with_reducible repeat (first | refine blk_drewN ?_ _ | refine blk_drew ?_ | refine blk_alloc ?_ _)); refine blk_put (cs := #[.int .u32 (Go.bits .and .u32 a0 t106), .int .i64 0]) ?_ 1 _ rfl; (with_reducible repeat (first | refine blk_drewN ?_ _ | refine blk_drew ?_ | refine blk_alloc ?_ _)); refine blk_put (cs := #[.int .u32 0, .int .i64 0]) ?_ 0 _ rfl; (with_reducible repeat (first | refine blk_drewN ?_ _ | refine blk_drew ?_ | refine blk_alloc ?_ _)); exact BK105.out) Try.underlying47 rfl (by kernel_rfl)) rfl ?_
      exact ⟨by first | rfl | (simp [errW_none, errW_some] <;> rfl) | (simp [*, errW_none, errW_some] <;> rfl), by repeat (first | (with_reducible first | exact HB.out | apply below_alloc | apply pw_below_drewN | apply below_drew1 | refine below_set ?_ GE105.out) | exact HB.out)⟩

/-! ### trie_Trie_Find: function 19 -/
-- FN rounds=0 making=1
-- IMPORT Derived.Test.YteheclbneoodeaaMid
open Go.Proofs.Yteheclbneoodeaa.Trie Go.Proofs.Yteheclbneoodeaa.Pre in
def trie_Trie_Find.f (s : Trie.TrieM) (a1 : Int) : Option (Int × Int × Int × Bool × Trie.TrieM) :=
  if 0 ≤ a1 ∧ a1 < 4294967296 then (match Trie.best s a1 32 with
    | none => some (0, 0, 0, false, s)
    | some q => some (top a1 q.1, q.1, q.2, true, s)) else none
open Go.Proofs.Yteheclbneoodeaa.Trie Go.Proofs.Yteheclbneoodeaa.Pre in
/-- what is found of the first k paths -/
def trie_lt (s : Trie.TrieM) (a : Int) : Nat → Option (Nat × Int)
  | 0 => none
  | k + 1 => Trie.best s a k
open Go.Proofs.Yteheclbneoodeaa.Trie Go.Proofs.Yteheclbneoodeaa.Pre in
theorem trie_lt_none {s : Trie.TrieM} {a : Int} {k : Nat} (h : s (path a k) = none) : trie_lt s a (k + 1) = trie_lt s a k := by
  cases k with
  | zero =>
    have h : s [] = none := h
    show (s []).map _ = none
    rw [h]
    rfl
  | succ k =>
    show Trie.best s a (k + 1) = Trie.best s a k
    conv => lhs; unfold Trie.best
    rw [h]
open Go.Proofs.Yteheclbneoodeaa.Trie Go.Proofs.Yteheclbneoodeaa.Pre in
theorem trie_lt_some {s : Trie.TrieM} {a v : Int} {k : Nat} (h : s (path a k) = some v) : trie_lt s a (k + 1) = some (k, v) := by
  cases k with
  | zero =>
    have h : s [] = some v := h
    show (s []).map _ = _
    rw [h]
    rfl
  | succ k =>
    show Trie.best s a (k + 1) = _
    unfold Trie.best
    rw [h]
open Go.Proofs.Yteheclbneoodeaa.Trie Go.Proofs.Yteheclbneoodeaa.Pre in
theorem trie_lt_top {w0 W : World} {g : Nat} {s : Trie.TrieM} {M : List Bool → Option Nat} (h : IsM w0 W g s M) (a : Int) (k : Nat) (hk : M (path a (k + 1)) = none) (d : Nat) : trie_lt s a (k + 1 + d) = trie_lt s a (k + 1) := by
  induction d with
  | zero => rfl
  | succ d ih => exact (trie_lt_none (h.none_ _ (trie_none_up h a (k + 1) hk d))).trans ih
open Go.Proofs.Yteheclbneoodeaa.Pre in
def trie_p0 (a : Int) (o : Option (Nat × Int)) : Int := match o with
  | none => 0
  | some q => top a q.1
def trie_p1 (o : Option (Nat × Int)) : Int := match o with
  | none => 0
  | some q => q.1
def trie_v (o : Option (Nat × Int)) : Int := match o with
  | none => 0
  | some q => q.2
open Go.Proofs.Yteheclbneoodeaa.Trie Go.Proofs.Yteheclbneoodeaa.Pre in
theorem trie_make_eq (a : Int) (n : Nat) (ha : U32 a) (h : n ≤ 32) : prefix_Make.f a n = some (top a n, (n : Int), true) := by
  unfold prefix_Make.f
  rw [if_neg (by omega), if_neg (by omega)]
  unfold prefix_mask.f
  rw [if_pos (by omega), mask_eq n (by omega) (by omega)]
  simp only [Option.bind_some]
  rw [and_mask a n ha (by omega) (by omega)]
set_option maxHeartbeats 4000000 in
set_option maxRecDepth 100000 in
open Go.Proofs.Yteheclbneoodeaa.Trie Go.Proofs.Yteheclbneoodeaa.Pre Go.Proofs.Yteheclbneoodeaa.Opq Go.Proofs.Yteheclbneoodeaa.Mid in
theorem trie_Trie_Find.calls (g : Nat) (s0_0 : Trie.TrieM) (a1 : Int) (r1 : Int) (r2 : Int) (r3 : Int) (r4 : Bool) (r5 : Trie.TrieM) (w0 w : World) (hI : IsS75 w0 w g s0_0) (hB : Below w0.heap.size w0 w) (h : trie_Trie_Find.f s0_0 a1 = some (r1, r2, r3, r4, r5)) :
    Calls Try.prog 19 #[.pointer (some ⟨g, 0, none⟩), .int .u32 a1] w fun e w' => e = .returned (.tuple #[.agg #[.int .u32 r1, .int .i64 r2], .int .i64 r3, .bool r4]) ∧ IsS75 w0 w' g r5 ∧ Below w0.heap.size w0 w' ∧ Go.Proofs.Yteheclbneoodeaa.Opq.KeepO ts75 w0.heap.size w w' := by
  have hu47 := Try.underlying47
  unfold trie_Trie_Find.f at h
  split at h
  case isFalse => cases h
  case isTrue hu =>
  have h : some (trie_p0 a1 (trie_lt s0_0 a1 33), trie_p1 (trie_lt s0_0 a1 33), trie_v (trie_lt s0_0 a1 33), (trie_lt s0_0 a1 33).isSome, s0_0) = some (r1, r2, r3, r4, r5) := by
    rw [← h]
    show _ = match trie_lt s0_0 a1 33 with | none => _ | some q => _
    cases trie_lt s0_0 a1 33 <;> rfl
  injection h with h
  injection h with h1 h
  injection h with h2 h
  injection h with h3 h
  injection h with h4 h5
  subst h1 h2 h3 h4 h5
  obtain ⟨M, hM⟩ := hI
  have HI := Aside0.mk hM
  have HB := Aside0.mk hB
  have HU := Aside0.mk (show U32 a1 from hu)
  clear hu hM hB
  go_enter Try.func19, Try.ntmps19
  go_wp2
  go_loopg [5, 6, 7, 8] 33 (fun kq v5 v6 v7 v8 wr => ∃ k b : Nat, v5 = .int .i64 (trie_v (trie_lt s0_0 a1 k)) ∧ v6 = .bool (trie_lt s0_0 a1 k).isSome ∧ v7 = .pointer (some ⟨b, 0, none⟩) ∧ v8 = .int .i64 k ∧ Aside0 (k + kq = 33 ∧ M (path a1 k) = some b) ∧ Aside0 (Below w.heap.size w wr) ∧
    Aside0 (wr.heap[w.heap.size]? = some (.cells #[.int .u32 (trie_p0 a1 (trie_lt s0_0 a1 k)), .int .i64 (trie_p1 (trie_lt s0_0 a1 k))] 47 (0, 0))))
  case atStart => exact ⟨0, g, rfl, rfl, rfl, rfl, ⟨rfl, HI.out.top⟩, ⟨below_alloc (Below.refl _ _) _⟩, ⟨heap_alloc_new w _⟩⟩
  case round =>
    obtain ⟨k, b, rfl, rfl, rfl, rfl, HK, HBr, HBX⟩ := hrel
    have HIr := Aside0.mk (HI.out.below HBr.out)
    have hc3 := (trie_cell2 HIr.out HK.out.2).2
    have HK32 := Aside0.mk (HIr.out.at_ _ _ HK.out.2).2.1
    cases gk with
    | zero => exact absurd HK.out.1 (by have := HK32.out; rw [path_length] at this; omega)
    | succ k1 =>
    cases hs : s0_0 (path a1 k) with
    | some v =>
      rw [hs] at hc3
      have hc2 := (trie_cell2 HIr.out HK.out.2).1
      rw [hs] at hc2
      have HS := Aside0.mk hs
      have HMK := Aside0.mk (trie_make_eq a1 k HU.out (by have := HK32.out; rwa [path_length] at this))
      clear hs
      have HL1 := Aside0.mk (trie_lt_some HS.out)
      go_wp2_with fail
      refine (prefix_Make.calls a1 k _ _ _ _ HMK.out).mono ?_
      rintro e w1 ⟨rfl, hb1⟩
      have hbx1 := (hb1.block _ (blk_lt HBX.out)).trans HBX.out
      have HB1 := Aside0.mk (HBr.out.trans (hb1.mono HBr.out.size))
      clear hb1
      go_wp2_with ((with_reducible refine gate_store (t := 47) (p := 4) rfl ?_); refine store_new rfl 47 (.tmp 4) (.tmp 25) rfl [.int .u32 (top a1 k), .int .i64 k] (by rfl) (by rfl) hbx1 (by rfl) (by kernel_rfl) (by intro v hv; simp only [List.mem_cons, List.not_mem_nil, or_false] at hv; rcases hv with rfl | rfl <;> rfl) ?_; intro w6 hx6 hg6 hs6; have HXW := Aside0.mk hx6; have HBW := Aside0.mk (HB1.out.grown hg6 HB1.out.size (fun k e => by injection e with e; omega)); have hcv := (trie_cell2 (HI.out.below HBW.out) HK.out.2).1; rw [HS.out] at hcv; clear hx6 hg6 hs6)
      have HXW := Aside0.mk (show w6.heap[w.heap.size]? = some (.cells #[.int .u32 (trie_p0 a1 (trie_lt s0_0 a1 (k + 1))), .int .i64 (trie_p1 (trie_lt s0_0 a1 (k + 1)))] 47 (0, 0)) by rw [HL1.out]; exact HXW.out)
      by_cases h32 : k = 32
      · have d0 : ((k : Int) == 32) = true := beq_iff_eq.2 (by omega)
        have HEQ := Aside0.mk (show trie_lt s0_0 a1 33 = trie_lt s0_0 a1 (k + 1) by rw [h32])
        clear h32
        go_quiet (fail)
        have hz0 : World.cell? _ ⟨w.heap.size, 0, none⟩ = some (.int .u32 (trie_p0 a1 (trie_lt s0_0 a1 (k + 1)))) := (blk_cell HXW.out 0).trans rfl
        have hz1 : World.cell? _ ⟨w.heap.size, 1, none⟩ = some (.int .i64 (trie_p1 (trie_lt s0_0 a1 (k + 1)))) := (blk_cell HXW.out 1).trans rfl
        go_wp2_with (first | ((with_reducible refine gate_store (t := 47) (p := 4) rfl ?_); refine store_new rfl 47 (.tmp 4) (.tmp 44) rfl [.int .u32 (trie_p0 a1 (trie_lt s0_0 a1 (k + 1))), .int .i64 (trie_p1 (trie_lt s0_0 a1 (k + 1)))] (by rfl) (by rfl) HXW.out (by rfl) (by kernel_rfl) (by intro v hv; simp only [List.mem_cons, List.not_mem_nil, or_false] at hv; rcases hv with rfl | rfl <;> rfl) ?_; intro w7 hx7 hg7 hs7; have HX7 := Aside0.mk hx7; have HB7 := Aside0.mk ((pw_below_drewN HBW.out _).grown hg7 HBW.out.size (fun k e => by injection e with e; omega)); clear hx7 hg7 hs7))
        refine bodyPost_ret (results_ctt rfl _ _ w.heap.size 47 #[.int .u32 (trie_p0 a1 (trie_lt s0_0 a1 (k + 1))), .int .i64 (trie_p1 (trie_lt s0_0 a1 (k + 1)))] (0, 0) _ rfl HX7.out Try.underlying47 rfl (by kernel_rfl)) rfl ?_
        refine ⟨?_, ⟨M, HI.out.below HB7.out⟩, below_weaken HB.out HB.out.size HB7.out, KeepO.of_below HB7.out⟩
        rw [show trie_lt s0_0 a1 33 = trie_lt s0_0 a1 (k + 1) from HEQ.out]
        first | rfl | (simp only [HL1.out]; rfl)
      · have d0 : ((k : Int) == 32) = false := beq_eq_false_iff_ne.2 (by omega)
        have HL32 := Aside0.mk (show k < 32 by have := HK32.out; rw [path_length] at this; omega)
        clear h32
        have hbit := trie_bit_eq a1 k HU.out HL32.out
        obtain ⟨x, hx⟩ : ∃ x : Bool, bit a1 k = if x = true then 1 else 0 := by
          rcases bit_01 a1 k with e | e
          · exact ⟨false, e⟩
          · exact ⟨true, e⟩
        have HX := Aside0.mk (trie_step x hx)
        have hc := trie_cell (HI.out.below HBW.out) HK.out.2 x
        rw [hx] at hbit
        have HBIT := Aside0.mk hbit
        clear hbit hx
        cases hm : M (x :: path a1 k) with
        | none =>
          have HEQ := Aside0.mk (show trie_lt s0_0 a1 33 = trie_lt s0_0 a1 (k + 1) by
            have := trie_lt_top HI.out a1 k (by rw [HX.out]; exact hm) (33 - (k + 1))
            rwa [show k + 1 + (33 - (k + 1)) = 33 by have := HL32.out; omega] at this)
          rw [hm, ptrB_none] at hc
          clear hm
          cases x
          all_goals
            simp only [if_true, if_false, Bool.false_eq_true] at hc
            go_quiet (first | (go_at_call 31; (with_reducible refine (trie_bit.calls a1 k _ _ HBIT.out).mono ?_); rintro e w' ⟨rfl, ⟨nd, rfl⟩⟩; (try first | exact ⟨rfl, _, World.drewN_drewN _ _ _⟩ | exact ⟨rfl, _, Eq.trans (World.drewN_drewN _ _ _) (congrArg (World.drewN _) (Nat.add_assoc _ _ _))⟩)))
            have hz0 : World.cell? _ ⟨w.heap.size, 0, none⟩ = some (.int .u32 (trie_p0 a1 (trie_lt s0_0 a1 (k + 1)))) := (blk_cell HXW.out 0).trans rfl
            have hz1 : World.cell? _ ⟨w.heap.size, 1, none⟩ = some (.int .i64 (trie_p1 (trie_lt s0_0 a1 (k + 1)))) := (blk_cell HXW.out 1).trans rfl
            go_wp2_with (first | ((with_reducible refine gate_store (t := 47) (p := 4) rfl ?_); refine store_new rfl 47 (.tmp 4) (.tmp 44) rfl [.int .u32 (trie_p0 a1 (trie_lt s0_0 a1 (k + 1))), .int .i64 (trie_p1 (trie_lt s0_0 a1 (k + 1)))] (by rfl) (by rfl) HXW.out (by rfl) (by kernel_rfl) (by intro v hv; simp only [List.mem_cons, List.not_mem_nil, or_false] at hv; rcases hv with rfl | rfl <;> rfl) ?_; intro w7 hx7 hg7 hs7; have HX7 := Aside0.mk hx7; have HB7 := Aside0.mk ((pw_below_drewN HBW.out _).grown hg7 HBW.out.size (fun k e => by injection e with e; omega)); clear hx7 hg7 hs7))
            refine bodyPost_ret (results_ctt rfl _ _ w.heap.size 47 #[.int .u32 (trie_p0 a1 (trie_lt s0_0 a1 (k + 1))), .int .i64 (trie_p1 (trie_lt s0_0 a1 (k + 1)))] (0, 0) _ rfl HX7.out Try.underlying47 rfl (by kernel_rfl)) rfl ?_
            refine ⟨?_, ⟨M, HI.out.below HB7.out⟩, below_weaken HB.out HB.out.size HB7.out, KeepO.of_below HB7.out⟩
            rw [show trie_lt s0_0 a1 33 = trie_lt s0_0 a1 (k + 1) from HEQ.out]
            first | rfl | (simp only [HL1.out]; rfl)
        | some b1 =>
          have HM := Aside0.mk hm
          rw [hm, ptrB_some] at hc
          clear hm
          cases x
          all_goals
            simp only [if_true, if_false, Bool.false_eq_true] at hc
            go_quiet (first | (go_at_call 31; (with_reducible refine (trie_bit.calls a1 k _ _ HBIT.out).mono ?_); rintro e w' ⟨rfl, ⟨nd, rfl⟩⟩; (try first | exact ⟨rfl, _, World.drewN_drewN _ _ _⟩ | exact ⟨rfl, _, Eq.trans (World.drewN_drewN _ _ _) (congrArg (World.drewN _) (Nat.add_assoc _ _ _))⟩)))
            go_wp2
            go_quiet (first | (go_at_call 31; (with_reducible refine (trie_bit.calls a1 k _ _ HBIT.out).mono ?_); rintro e w' ⟨rfl, ⟨nd, rfl⟩⟩; (try first | exact ⟨rfl, _, World.drewN_drewN _ _ _⟩ | exact ⟨rfl, _, Eq.trans (World.drewN_drewN _ _ _) (congrArg (World.drewN _) (Nat.add_assoc _ _ _))⟩)))
            go_wp2
            go_roundg k1
            case measure => have := HK.out.1; omega
            case rel =>
              refine ⟨k + 1, b1, ?_, ?_, rfl, (by have hw : wrap64 ((k : Int) + 1) = ((k + 1 : Nat) : Int) := (by have := HL32.out; unfold wrap64; omega); first | rfl | (simp [hw]; done)), ⟨by have := HK.out.1; omega, by rw [HX.out]; exact HM.out⟩, ⟨pw_below_drewN HBW.out _⟩, ⟨HXW.out⟩⟩
              all_goals (first | rfl | (simp only [HL1.out]; rfl) | (rw [HL1.out]; rfl))
    | none =>
      rw [hs] at hc3
      have HS := Aside0.mk hs
      clear hs
      have HBW := HBr
      have HXW := HBX
      rw [← trie_lt_none HS.out] at HXW ⊢
      have HL1 := Aside0.mk (show trie_lt s0_0 a1 (k + 1) = trie_lt s0_0 a1 (k + 1) from rfl)
      go_wp2
      by_cases h32 : k = 32
      · have d0 : ((k : Int) == 32) = true := beq_iff_eq.2 (by omega)
        have HEQ := Aside0.mk (show trie_lt s0_0 a1 33 = trie_lt s0_0 a1 (k + 1) by rw [h32])
        clear h32
        go_quiet (fail)
        have hz0 : World.cell? _ ⟨w.heap.size, 0, none⟩ = some (.int .u32 (trie_p0 a1 (trie_lt s0_0 a1 (k + 1)))) := (blk_cell HXW.out 0).trans rfl
        have hz1 : World.cell? _ ⟨w.heap.size, 1, none⟩ = some (.int .i64 (trie_p1 (trie_lt s0_0 a1 (k + 1)))) := (blk_cell HXW.out 1).trans rfl
        go_wp2_with (first | ((with_reducible refine gate_store (t := 47) (p := 4) rfl ?_); refine store_new rfl 47 (.tmp 4) (.tmp 44) rfl [.int .u32 (trie_p0 a1 (trie_lt s0_0 a1 (k + 1))), .int .i64 (trie_p1 (trie_lt s0_0 a1 (k + 1)))] (by rfl) (by rfl) HXW.out (by rfl) (by kernel_rfl) (by intro v hv; simp only [List.mem_cons, List.not_mem_nil, or_false] at hv; rcases hv with rfl | rfl <;> rfl) ?_; intro w7 hx7 hg7 hs7; have HX7 := Aside0.mk hx7; have HB7 := Aside0.mk ((pw_below_drewN HBW.out _).grown hg7 HBW.out.size (fun k e => by injection e with e; omega)); clear hx7 hg7 hs7))
        refine bodyPost_ret (results_ctt rfl _ _ w.heap.size 47 #[.int .u32 (trie_p0 a1 (trie_lt s0_0 a1 (k + 1))), .int .i64 (trie_p1 (trie_lt s0_0 a1 (k + 1)))] (0, 0) _ rfl HX7.out Try.underlying47 rfl (by kernel_rfl)) rfl ?_
        refine ⟨?_, ⟨M, HI.out.below HB7.out⟩, below_weaken HB.out HB.out.size HB7.out, KeepO.of_below HB7.out⟩
        rw [show trie_lt s0_0 a1 33 = trie_lt s0_0 a1 (k + 1) from HEQ.out]
        first | rfl | (simp only [HL1.out]; rfl)
      · have d0 : ((k : Int) == 32) = false := beq_eq_false_iff_ne.2 (by omega)
        have HL32 := Aside0.mk (show k < 32 by have := HK32.out; rw [path_length] at this; omega)
        clear h32
        have hbit := trie_bit_eq a1 k HU.out HL32.out
        obtain ⟨x, hx⟩ : ∃ x : Bool, bit a1 k = if x = true then 1 else 0 := by
          rcases bit_01 a1 k with e | e
          · exact ⟨false, e⟩
          · exact ⟨true, e⟩
        have HX := Aside0.mk (trie_step x hx)
        have hc := trie_cell (HI.out.below HBW.out) HK.out.2 x
        rw [hx] at hbit
        have HBIT := Aside0.mk hbit
        clear hbit hx
        cases hm : M (x :: path a1 k) with
        | none =>
          have HEQ := Aside0.mk (show trie_lt s0_0 a1 33 = trie_lt s0_0 a1 (k + 1) by
            have := trie_lt_top HI.out a1 k (by rw [HX.out]; exact hm) (33 - (k + 1))
            rwa [show k + 1 + (33 - (k + 1)) = 33 by have := HL32.out; omega] at this)
          rw [hm, ptrB_none] at hc
          clear hm
          cases x
          all_goals
            simp only [if_true, if_false, Bool.false_eq_true] at hc
            go_quiet (first | (go_at_call 31; (with_reducible refine (trie_bit.calls a1 k _ _ HBIT.out).mono ?_); rintro e w' ⟨rfl, ⟨nd, rfl⟩⟩; (try first | exact ⟨rfl, _, World.drewN_drewN _ _ _⟩ | exact ⟨rfl, _, Eq.trans (World.drewN_drewN _ _ _) (congrArg (World.drewN _) (Nat.add_assoc _ _ _))⟩)))
            have hz0 : World.cell? _ ⟨w.heap.size, 0, none⟩ = some (.int .u32 (trie_p0 a1 (trie_lt s0_0 a1 (k + 1)))) := (blk_cell HXW.out 0).trans rfl
            have hz1 : World.cell? _ ⟨w.heap.size, 1, none⟩ = some (.int .i64 (trie_p1 (trie_lt s0_0 a1 (k + 1)))) := (blk_cell HXW.out 1).trans rfl
            go_wp2_with (first | ((with_reducible refine gate_store (t := 47) (p := 4) rfl ?_); refine store_new rfl 47 (.tmp 4) (.tmp 44) rfl [.int .u32 (trie_p0 a1 (trie_lt s0_0 a1 (k + 1))), .int .i64 (trie_p1 (trie_lt s0_0 a1 (k + 1)))] (by rfl) (by rfl) HXW.out (by rfl) (by kernel_rfl) (by intro v hv; simp only [List.mem_cons, List.not_mem_nil, or_false] at hv; rcases hv with rfl | rfl <;> rfl) ?_; intro w7 hx7 hg7 hs7; have HX7 := Aside0.mk hx7; have HB7 := Aside0.mk ((pw_below_drewN HBW.out _).grown hg7 HBW.out.size (fun k e => by injection e with e; omega)); clear hx7 hg7 hs7))
            refine bodyPost_ret (results_ctt rfl _ _ w.heap.size 47 #[.int .u32 (trie_p0 a1 (trie_lt s0_0 a1 (k + 1))), .int .i64 (trie_p1 (trie_lt s0_0 a1 (k + 1)))] (0, 0) _ rfl HX7.out Try.underlying47 rfl (by kernel_rfl)) rfl ?_
            refine ⟨?_, ⟨M, HI.out.below HB7.out⟩, below_weaken HB.out HB.out.size HB7.out, KeepO.of_below HB7.out⟩
            rw [show trie_lt s0_0 a1 33 = trie_lt s0_0 a1 (k + 1) from HEQ.out]
            first | rfl | (simp only [HL1.out]; rfl)
        | some b1 =>
          have HM := Aside0.mk hm
          rw [hm, ptrB_some] at hc
          clear hm
          cases x
          all_goals
            simp only [if_true, if_false, Bool.false_eq_true] at hc
            go_quiet (first | (go_at_call 31; (with_reducible refine (trie_bit.calls a1 k _ _ HBIT.out).mono ?_); rintro e w' ⟨rfl, ⟨nd, rfl⟩⟩; (try first | exact ⟨rfl, _, World.drewN_drewN _ _ _⟩ | exact ⟨rfl, _, Eq.trans (World.drewN_drewN _ _ _) (congrArg (World.drewN _) (Nat.add_assoc _ _ _))⟩)))
            go_wp2
            go_quiet (first | (go_at_call 31; (with_reducible refine (trie_bit.calls a1 k _ _ HBIT.out).mono ?_); rintro e w' ⟨rfl, ⟨nd, rfl⟩⟩; (try first | exact ⟨rfl, _, World.drewN_drewN _ _ _⟩ | exact ⟨rfl, _, Eq.trans (World.drewN_drewN _ _ _) (congrArg (World.drewN _) (Nat.add_assoc _ _ _))⟩)))
            go_wp2
            go_roundg k1
            case measure => have := HK.out.1; omega
            case rel =>
              refine ⟨k + 1, b1, ?_, ?_, rfl, (by have hw : wrap64 ((k : Int) + 1) = ((k + 1 : Nat) : Int) := (by have := HL32.out; unfold wrap64; omega); first | rfl | (simp [hw]; done)), ⟨by have := HK.out.1; omega, by rw [HX.out]; exact HM.out⟩, ⟨pw_below_drewN HBW.out _⟩, ⟨HXW.out⟩⟩
              all_goals (first | rfl | (simp only [HL1.out]; rfl) | (rw [HL1.out]; rfl))


end Go.Proofs.Yteheclbneoodeaa.PTriePlays
