-- Lean text by a program of this repo (wip/tools/printx.py), out of Lean's own print of the translation
import Derived.Laws.MakeOwn
import Derived.Deep.AppendLies
import Derived.Deep.RegionHeld3
import Derived.Laws.CopyOwn
import Derived.Deep.MidRow
import Derived.Test.YtjaibpphlbddoaaMid
import Derived.Test.YtjaibpphlbddoaaDisk
import Derived.Test.YtjaibpphlbddoaaOpq
import Derived.Test.YtjaibpphlbddoaaPRegionCleanx0
namespace Go.Proofs.Ytjaibpphlbddoaa.PRegionClean
open Go.RowKit Go.Proofs.YtjaibpphlbddoaaW.PrintWords Go.Proofs.YtjaibpphlbddoaaW.PrintLast Go.Proofs.YtjaibpphlbddoaaW.PrintMore
attribute [local go_sem] max2_int min2_int max_two min_two max_three min_three max_four min_four   -- for this text's walks alone
set_option linter.unusedVariables false
set_option linter.unusedSimpArgs false

-- IMPORT Derived.Test.YtjaibpphlbddoaaOpq
abbrev ts67 : List Nat := [67, 69, 71]
-- IMPORT Derived.Test.YtjaibpphlbddoaaDisk
def IsS67 (w0 W : World) (g : Nat) (s : Disk.DiskM) : Prop :=
  ∃ (gl : Nat) (vo : Value), W.heap[g]? = some (.cells #[.slice (some ⟨gl, 0, none⟩) (s.lasts.length / 64) (s.lasts.length / 64), vo, .int .i64 s.fuse, .bool s.down] 67 (0, 0)) ∧ w0.heap.size ≤ g ∧ w0.heap.size ≤ gl ∧
    W.heap[gl]? = some (.cells (Disk.bytes s.lasts).toArray 69 (0, 0)) ∧ W.ownsRow w0.heap.size 71 65 vo s.loose.length (Disk.flat s.loose) ∧ Disk.Ok s
theorem IsS67.blk {w0 W : World} {g : Nat} {s : Disk.DiskM} (h : IsS67 w0 W g s) : ∃ cells, W.heap[g]? = some (.cells cells 67 (0, 0)) := by
  obtain ⟨gl, vo, hg, _⟩ := h
  exact ⟨_, hg⟩
theorem IsS67.ge {w0 W : World} {g : Nat} {s : Disk.DiskM} (h : IsS67 w0 W g s) : w0.heap.size ≤ g := by
  obtain ⟨gl, vo, _, h, _⟩ := h
  exact h
theorem IsS67.frame {w0 W W1 : World} {g : Nat} {s : Disk.DiskM} (h : IsS67 w0 W g s)
    (hk : ∀ k, w0.heap.size ≤ k → k < W.heap.size → Go.Proofs.Ytjaibpphlbddoaa.Opq.Priv ts67 W.heap[k]? → W1.heap[k]? = W.heap[k]?) : IsS67 w0 W1 g s := by
  obtain ⟨gl, vo, hg, h1, h2, hl, ⟨ho1, ho2⟩, hok⟩ := h
  refine ⟨gl, vo, (hk g h1 (blk_lt hg) (by rw [hg]; show _ ∈ ts67; decide)).trans hg, h1, h2, (hk gl h2 (blk_lt hl) (by rw [hl]; show _ ∈ ts67; decide)).trans hl, ⟨ho1, ?_⟩, hok⟩
  rcases ho2 with ho2 | ⟨g2, cap, cur, hv, hb, hh, r⟩
  · exact .inl ho2
  · exact .inr ⟨g2, cap, cur, hv, hb, (hk g2 hb (blk_lt hh) (by rw [hh]; show _ ∈ ts67; decide)).trans hh, r⟩
theorem IsS67.lt {w0 W : World} {g : Nat} {s : Disk.DiskM} (h : IsS67 w0 W g s) : g < W.heap.size := by
  obtain ⟨_, hb⟩ := h.blk
  exact blk_lt hb
theorem IsS67.fresh {w0 W : World} {g : Nat} {s : Disk.DiskM} (h : IsS67 w0 W g s) : ∀ k, W.heap.size ≤ k → k ≠ g := by
  obtain ⟨_, hb⟩ := h.blk
  exact Kd.freshB hb
theorem IsS67.grown {w0 W : World} {g : Nat} {s : Disk.DiskM} {W1 : World} {row : Option Nat} (h : IsS67 w0 W g s) (hw : W.grownBy W1 row) (hne : Go.Proofs.Ytjaibpphlbddoaa.Opq.NPr ts67 W row) : IsS67 w0 W1 g s := h.frame (Go.Proofs.Ytjaibpphlbddoaa.Opq.frame_grown hw hne)
theorem IsS67.below {w0 W : World} {g : Nat} {s : Disk.DiskM} {W1 : World} (h : IsS67 w0 W g s) (hw : Below W.heap.size W W1) : IsS67 w0 W1 g s := h.frame (fun k _ hk _ => hw.block k hk)
theorem IsS67.alloc {w0 W : World} {g : Nat} {s : Disk.DiskM} (h : IsS67 w0 W g s) (o : Obj) : IsS67 w0 (W.alloc o) g s := h.below (below_alloc (Below.refl _ _) o)
theorem IsS67.drewN {w0 W : World} {g : Nat} {s : Disk.DiskM} (h : IsS67 w0 W g s) (m : Nat) : IsS67 w0 (W.drewN m) g s := h.frame (fun _ _ _ _ => rfl)
theorem IsS67.drew {w0 W : World} {g : Nat} {s : Disk.DiskM} (h : IsS67 w0 W g s) : IsS67 w0 W.drew g s := h.frame (fun _ _ _ _ => rfl)
theorem IsS67.at_ {w0 W : World} {g : Nat} {s : Disk.DiskM} {w' : World} {m : Nat} (hq : W.drewN m = w') (h : IsS67 w0 W g s) : IsS67 w0 w' g s := by subst hq; exact IsS67.drewN h m
theorem IsS67.far {w0 W : World} {g : Nat} {s : Disk.DiskM} {p : Addr} (h : IsS67 w0 W g s) (hne : Go.Proofs.Ytjaibpphlbddoaa.Opq.NP ts67 W p.block) (u : Value) : IsS67 w0 (W.setCell p u) g s := h.frame (Go.Proofs.Ytjaibpphlbddoaa.Opq.frame_far hne u)
theorem IsS67.apart {w0 W : World} {g : Nat} {s : Disk.DiskM} {α : Type} {d : Kd α} {e : Nat} {base : Nat} {ok : Nat → Prop} {v : Value} {xs : List α} (h : IsS67 w0 W g s) (ho : d.R e W base ok v xs) (ht : ∀ q, q ∈ e :: d.E → q ≠ 67) : d.R e W base (fun k => ok k ∧ k ≠ g) v xs := by
  obtain ⟨_, hb⟩ := h.blk
  exact Kd.R_types ho hb ht
theorem IsS67.own_ne {w0 W : World} {g : Nat} {s : Disk.DiskM} {α : Type} {d : Kd α} {e : Nat} {base : Nat} {ok : Nat → Prop} {v : Value} {xs : List α} (h : IsS67 w0 W g s) (ho : d.R e W base ok v xs) (ht : e ≠ 67) : some g ≠ v.ownBlock := by
  obtain ⟨_, hb⟩ := h.blk
  exact Kd.R_ne ho hb ht
theorem IsS67.apartQ {w0 W : World} {g : Nat} {s : Disk.DiskM} {α : Type} {d : Kd α} {e : Nat} {base : Nat} {ok : Nat → Prop} {v : Value} {xs : List α} (h : IsS67 w0 W g s) (ho : d.Q e W base ok v xs) (ht : ∀ q, q ∈ e :: d.E → q ≠ 67) : d.Q e W base (fun k => ok k ∧ k ≠ g) v xs := by
  obtain ⟨_, hb⟩ := h.blk
  exact Kd.Q_types ho hb ht
theorem IsS67.own_neQ {w0 W : World} {g : Nat} {s : Disk.DiskM} {α : Type} {d : Kd α} {e : Nat} {base : Nat} {ok : Nat → Prop} {v : Value} {xs : List α} (h : IsS67 w0 W g s) (ho : d.Q e W base ok v xs) (ht : e ≠ 67) : some g ≠ v.ownBlock := by
  obtain ⟨_, hb⟩ := h.blk
  exact Kd.Q_ne ho hb ht
theorem IsS67.apartS {w0 W : World} {g : Nat} {s : Disk.DiskM} {α : Type} {d : Kd α} {e : Nat} {base : Nat} {ok : Nat → Prop} {v : Value} {xs : List α} (h : IsS67 w0 W g s) (ho : d.S e W base ok v xs) (ht : ∀ q, q ∈ e :: d.E → q ≠ 67) : d.S e W base (fun k => ok k ∧ k ≠ g) v xs := by
  obtain ⟨_, hb⟩ := h.blk
  exact Kd.S_types ho hb ht
theorem IsS67.own_neS {w0 W : World} {g : Nat} {s : Disk.DiskM} {α : Type} {d : Kd α} {e : Nat} {base : Nat} {ok : Nat → Prop} {v : Value} {xs : List α} (h : IsS67 w0 W g s) (ho : d.S e W base ok v xs) (ht : e ≠ 67) : some g ≠ v.ownBlock := by
  obtain ⟨_, hb⟩ := h.blk
  exact Kd.S_ne ho hb ht
theorem IsS67.own_neN {w0 W : World} {g : Nat} {s : Disk.DiskM} {α : Type} {d : Kd α} {e : Nat} {base : Nat} {ok : Nat → Prop} {v : Value} {xs : List α} (h : IsS67 w0 W g s) (ho : Kd.N d e W base ok v xs) (ht : e ≠ 67) : some g ≠ v.ownBlock := by
  obtain ⟨_, hb⟩ := h.blk
  exact Kd.N_ne ho hb ht
theorem IsS67.ne_blk {w0 W : World} {g : Nat} {s : Disk.DiskM} {a : Nat} {cs : Array Value} {t : TypeId} {fr : Nat × Nat} (h : IsS67 w0 W g s) (hb2 : W.heap[a]? = some (.cells cs t fr)) (ht : t ≠ 67) : g ≠ a := by
  obtain ⟨_, hb⟩ := h.blk
  rintro rfl
  rw [hb] at hb2
  injection hb2 with hb2
  injection hb2 with _ ht2
  exact ht ht2.symm

/-! ### sector_New: function 13 -/
-- FN rounds=0 making=1
def sector_New.f (a0 : Int) : Option (Disk.DiskM) := some (Disk.new a0)
theorem new_cells (n : Nat) : madeCells (Array.replicate 64 (.int .u8 0)) (n * 64) = (Disk.bytes (List.replicate (n * 64) 0)).toArray := by
  apply Array.ext
  · simp [madeCells, Disk.bytes]
  · intro i h1 h2
    have hi : i % 64 < 64 := Nat.mod_lt _ (by decide)
    simp [madeCells, Disk.bytes, hi]
theorem new_make (w : World) (v : Int) (h0 : 0 ≤ v) (h1 : v ≤ 1024) : ∃ C : Array Value, C = (Disk.bytes (List.replicate (v.toNat * 64) 0)).toArray ∧
    (Instr.makeSlice 64 (.int .i64 v) (.int .i64 v)).run Try.prog w = .ok (.slice (some ⟨w.heap.size, 0, none⟩) v.toNat v.toNat) (w.alloc (.cells C 69)) := by
  have hi : (Try.prog.info? 69).map (fun i => (i.zero, i.size, i.bytes)) = some (some (.agg (Array.replicate 64 (.int .u8 0))), 64, 64) := by kernel_rfl
  cases he : Try.prog.info? 69 with
  | none => rw [he] at hi; cases hi
  | some i =>
    rw [he] at hi
    injection hi with hi
    injection hi with hz hi
    injection hi with hs hb
    have h := run_make (P := Try.prog) w 64 69 i _ Try.underlying64 he hz .i64 .i64 v v h0 (Int.le_refl _) (by rw [hb]; omega) (by omega)
    refine ⟨_, rfl, ?_⟩
    rw [h, hs]
    congr 3
    exact new_cells v.toNat
theorem new_is {w0 w : World} {a0 : Int} {m : Nat} {C : Array Value} (hs : w0.heap.size ≤ w.heap.size) (hm : (min (max a0 0) 1024).toNat = m) (h1 : m ≤ 1024) (hC : C = (Disk.bytes (List.replicate (m * 64) 0)).toArray) :
    IsS67 w0 ((w.alloc (.cells C 69)).alloc (.cells #[.slice (some ⟨w.heap.size, 0, none⟩) m m, .slice none 0 0, .int .i64 (-1), .bool false] 67)) (w.heap.size + 1) (Disk.new a0) := by
  subst hC
  have hl : (Disk.new a0).lasts = List.replicate (m * 64) 0 := by unfold Disk.new; rw [hm]
  have hl2 : (Disk.new a0).lasts.length = m * 64 := by rw [hl, List.length_replicate]
  have hd : m * 64 / 64 = m := Nat.mul_div_cancel m (by decide)
  refine ⟨w.heap.size, .slice none 0 0, ?_, by omega, hs, ?_, ⟨rfl, .inl ⟨rfl, rfl⟩⟩, ⟨m, h1, hl2⟩, fun p hp => by cases hp⟩
  · have := heap_alloc_new (w.alloc (.cells (Disk.bytes (List.replicate (m * 64) 0)).toArray 69)) (.cells #[.slice (some ⟨w.heap.size, 0, none⟩) m m, .slice none 0 0, .int .i64 (-1), .bool false] 67)
    rw [hl2, hd]
    rw [show (w.alloc (.cells (Disk.bytes (List.replicate (m * 64) 0)).toArray 69)).heap.size = w.heap.size + 1 from by simp] at this
    exact this
  · rw [hl]
    have h2 := heap_alloc_new w (.cells (Disk.bytes (List.replicate (m * 64) 0)).toArray 69)
    exact (below_alloc (Below.refl _ (w.alloc (.cells (Disk.bytes (List.replicate (m * 64) 0)).toArray 69))) _).block _ (by simp) |>.trans h2
set_option maxHeartbeats 4000000 in
open Go.Proofs.Ytjaibpphlbddoaa.Opq in
theorem sector_New.calls (a0 : Int) (r : Disk.DiskM) (w0 w : World) (hB : Below w0.heap.size w0 w) (h : sector_New.f a0 = some r) :
    Calls Try.prog 13 #[.int .i64 a0] w fun e w' => ∃ g_ : Nat, e = .returned (.pointer (some ⟨g_, 0, none⟩)) ∧ IsS67 w0 w' g_ r ∧ Below w0.heap.size w0 w' ∧ Below w.heap.size w w' := by
  obtain rfl := Option.some.inj h
  have HB := Aside0.mk hB
  have HS := Aside0.mk hB.size
  clear h hB
  by_cases hr : 0 ≤ a0 ∧ a0 ≤ 1024
  · obtain ⟨C, hC, hmk2⟩ := new_make w a0 hr.1 hr.2
    have HC := Aside0.mk hC
    clear hC
    go_enter Try.func13, Try.ntmps13
    go_wp2
    go_ret
    exact ⟨_, rfl, new_is HS.out (by omega) (by omega) HC.out, below_weaken HB.out HS.out (below_alloc (below_alloc (Below.refl _ _) _) _), below_alloc (below_alloc (Below.refl _ _) _) _⟩
  · by_cases hn : a0 < 0
    · obtain ⟨C, hC, hmk⟩ := new_make w 0 (by decide) (by decide)
      have HC := Aside0.mk hC
      clear hC hr
      go_enter Try.func13, Try.ntmps13
      go_wp2
      go_ret
      exact ⟨_, rfl, new_is (m := 0) HS.out (by omega) (by omega) HC.out, below_weaken HB.out HS.out (below_alloc (below_alloc (Below.refl _ _) _) _), below_alloc (below_alloc (Below.refl _ _) _) _⟩
    · have hr2 : a0 > 1024 := by omega
      obtain ⟨C, hC, hmk⟩ := new_make w 1024 (by decide) (by decide)
      have HC := Aside0.mk hC
      clear hC hr hn
      go_enter Try.func13, Try.ntmps13
      go_wp2
      go_ret
      exact ⟨_, rfl, new_is (m := 1024) HS.out (by omega) (by omega) HC.out, below_weaken HB.out HS.out (below_alloc (below_alloc (Below.refl _ _) _) _), below_alloc (below_alloc (Below.refl _ _) _) _⟩


/-! ### sector_Disk_Len: function 23 -/
-- FN rounds=0 making=1
def sector_Disk_Len.f (s : Disk.DiskM)  : Option (Int × Disk.DiskM) := some (Disk.len s, s)
theorem sector_Disk_Len.calls0 (g : Nat) (s : Disk.DiskM) (w0 w : World) (hI : IsS67 w0 w g s) :
    Calls Try.prog 23 #[.pointer (some ⟨g, 0, none⟩)] w fun e w' => e = .returned (.int .i64 (Disk.len s)) ∧ w = w' := by
  obtain ⟨gl, vo, hg, _⟩ := hI
  have hcell : w.cell? ⟨g, 0, none⟩ = some (.slice (some ⟨gl, 0, none⟩) (s.lasts.length / 64) (s.lasts.length / 64)) := (blk_cell hg 0).trans rfl
  clear hg
  go_enter Try.func23, Try.ntmps23
  go_wp2
  go_ret
  exact ⟨rfl, rfl⟩
theorem sector_Disk_Len.calls (g : Nat) (s0_0 : Disk.DiskM)  (r1 : Int) (r2 : Disk.DiskM) (w0 w : World) (hI : IsS67 w0 w g s0_0) (hB : Below w0.heap.size w0 w) (h : sector_Disk_Len.f s0_0  = some (r1, r2)) :
    Calls Try.prog 23 #[.pointer (some ⟨g, 0, none⟩)] w fun e w' => e = .returned (.int .i64 r1) ∧ IsS67 w0 w' g r2 ∧ Below w0.heap.size w0 w' ∧ Go.Proofs.Ytjaibpphlbddoaa.Opq.KeepO ts67 w0.heap.size w w' := by
  have h := Option.some.inj h
  injection h with h1 h2
  subst h1 h2
  refine (sector_Disk_Len.calls0 g s0_0 w0 w hI).mono ?_
  rintro e w' ⟨rfl, rfl⟩
  exact ⟨rfl, hI, hB, Go.Proofs.Ytjaibpphlbddoaa.Opq.KeepO.refl _ _ _⟩


/-! ### sector_Disk_there: function 34 -/
-- FN rounds=0 making=1
def sector_Disk_there.f (s : Disk.DiskM) (a1 : Int) : Option (Bool × Disk.DiskM) := some (Disk.there s a1, s)
theorem sector_Disk_there.calls0 (g : Nat) (s : Disk.DiskM) (a1 : Int) (w0 w : World) (hI : IsS67 w0 w g s) :
    Calls Try.prog 34 #[.pointer (some ⟨g, 0, none⟩), .int .i64 a1] w fun e w' => e = .returned (.bool (Disk.there s a1)) ∧ w = w' := by
  have HI := Aside0.mk hI
  have HD := Aside0.mk (show Disk.there s a1 = (decide (0 ≤ a1) && decide (a1 < Disk.len s)) from rfl)
  clear hI
  by_cases h0 : 0 ≤ a1
  · have d0 : decide (0 ≤ a1) = true := decide_eq_true h0
    have H0 := Aside0.mk d0
    clear h0
    go_enter Try.func34, Try.ntmps34
    go_wp2_with (go_at_call 23; refine (sector_Disk_Len.calls0 g s w0 _ HI.out).mono ?_; rintro e w' ⟨rfl, rfl⟩)
    go_ret
    exact ⟨by rw [HD.out, H0.out]; rfl, rfl⟩
  · have d0 : decide (0 ≤ a1) = false := decide_eq_false h0
    have H0 := Aside0.mk d0
    clear h0
    go_enter Try.func34, Try.ntmps34
    go_wp2
    go_ret
    exact ⟨by rw [HD.out, H0.out]; rfl, rfl⟩


/-! ### sector_Disk_burn: function 35 -/
-- FN rounds=0 making=1
-- IMPORT Derived.Test.YtjaibpphlbddoaaMid
-- IMPORT Derived.Deep.MidRow
def sector_Disk_burn.f (s : Disk.DiskM) : Option (Bool × Disk.DiskM) := some (!(Disk.burn s).down, Disk.burn s)
open Go.Proofs.Ytjaibpphlbddoaa.Opq in
theorem disk_turned {w0 w W : World} {g gl : Nat} {vo : Value} {s s' : Disk.DiskM} (hI : w.heap[g]? = some (.cells #[.slice (some ⟨gl, 0, none⟩) (s.lasts.length / 64) (s.lasts.length / 64), vo, .int .i64 s.fuse, .bool s.down] 67 (0, 0)) ∧ w0.heap.size ≤ g ∧ w0.heap.size ≤ gl ∧
    w.heap[gl]? = some (.cells (Disk.bytes s.lasts).toArray 69 (0, 0)) ∧ w.ownsRow w0.heap.size 71 65 vo s.loose.length (Disk.flat s.loose) ∧ Disk.Ok s)
    (hs : s'.lasts = s.lasts ∧ s'.loose = s.loose) (hg : W.heap[g]? = some (.cells #[.slice (some ⟨gl, 0, none⟩) (s.lasts.length / 64) (s.lasts.length / 64), vo, .int .i64 s'.fuse, .bool s'.down] 67 (0, 0)))
    (hk : ∀ k, k < w.heap.size → k ≠ g → W.heap[k]? = w.heap[k]?) (hz : w.heap.size ≤ W.heap.size) : IsS67 w0 W g s' ∧ KeepO ts67 w0.heap.size w W := by
  obtain ⟨h0, h1, h2, h3, h4, h5⟩ := hI
  have hpr : Priv ts67 w.heap[g]? := by rw [h0]; show _ ∈ ts67; decide
  refine ⟨⟨gl, vo, by rw [hs.1]; exact hg, h1, h2, ?_, ?_, ⟨by rw [hs.1]; exact h5.size, by rw [hs.2]; unfold Disk.len; rw [hs.1]; exact h5.loose⟩⟩, hz, fun k hk' hp => hk k hk' (fun e => ?_)⟩
  · rw [hs.1]
    refine (hk gl (blk_lt h3) (fun e => ?_)).trans h3
    subst e
    rw [h0] at h3
    injection h3 with h3
    injection h3 with _ h3
    exact absurd h3 (by decide)
  · rw [hs.2]
    obtain ⟨ho1, ho2⟩ := h4
    refine ⟨ho1, ?_⟩
    rcases ho2 with ho2 | ⟨g2, cap, cur, hv, hb, hh, r⟩
    · exact .inl ho2
    · refine .inr ⟨g2, cap, cur, hv, hb, (hk g2 (blk_lt hh) (fun e => ?_)).trans hh, r⟩
      subst e
      rw [h0] at hh
      injection hh with hh
      injection hh with _ hh
      exact absurd hh (by decide)
  · subst e
    rcases hp with hp | hp
    · omega
    · exact hp hpr
/-- A loose write's cells, in whatever world the disk's blocks still are. -/
theorem disk_loose {w0 w : World} {vo : Value} {s : Disk.DiskM} (ho : w.ownsRow w0.heap.size 71 65 vo s.loose.length (Disk.flat s.loose)) (hok : Disk.Ok s) (hn : 0 < s.loose.length) :
    ∃ go cap cur, vo = .slice (some ⟨go, 0, none⟩) s.loose.length cap ∧ w0.heap.size ≤ go ∧ w.heap[go]? = some (.cells cur 71 (0, 0)) ∧ s.loose.length ≤ cap ∧
      ∀ (k : Nat) (hk : k < s.loose.length) j v, (Value.int .i64 (s.loose[k]).1 :: Disk.bytes (s.loose[k]).2)[j]? = some v → cur.toList[k * 65 + j]? = some v := by
  obtain ⟨h1, h2⟩ := ho
  rcases h2 with ⟨_, h2⟩ | ⟨g2, cap, cur, hv, hb, hh, hc, _, _, ht⟩
  · omega
  · refine ⟨g2, cap, cur, hv, hb, hh, hc, fun k hk j v hj => ?_⟩
    have h3 := Mid.flat_get (fun p hp => (hok.loose p hp).2.2) hk j v hj
    rw [← ht, List.getElem?_take] at h3
    split at h3
    · exact h3
    · cases h3
theorem disk_loose_nil {w0 w : World} {vo : Value} {s : Disk.DiskM} (ho : w.ownsRow w0.heap.size 71 65 vo s.loose.length (Disk.flat s.loose)) : ∃ A c, vo = .slice A s.loose.length c ∧ s.loose.length ≤ 9223372036854775807 := by
  obtain ⟨h1, h2⟩ := ho
  rcases h2 with ⟨hv, h2⟩ | ⟨g2, cap, cur, hv, hb, hh, hc, hm, _, ht⟩
  · exact ⟨none, 0, by rw [h2]; exact hv, by omega⟩
  · exact ⟨_, _, hv, by unfold maxLen at hm; omega⟩
theorem own_below {w w' : World} {base e size n : Nat} {v : Value} {xs : List Value} (h : w.ownsRow base e size v n xs) (hb : Below w.heap.size w w') : w'.ownsRow base e size v n xs := by
  obtain ⟨h1, h2⟩ := h
  refine ⟨h1, ?_⟩
  rcases h2 with h2 | ⟨g2, cap, cur, hv, hB, hh, r⟩
  · exact .inl h2
  · exact .inr ⟨g2, cap, cur, hv, hB, (hb.block g2 (blk_lt hh)).trans hh, r⟩
theorem own_typed {w : World} {base e size n : Nat} {v : Value} {xs : List Value} (h : w.ownsRow base e size v n xs) : ∀ k, v.ownBlock = some k → base ≤ k ∧ ∃ cells, w.heap[k]? = some (.cells cells e (0, 0)) := by
  obtain ⟨h1, h2⟩ := h
  intro k hk
  rcases h2 with ⟨rfl, _⟩ | ⟨g2, cap, cur, rfl, hB, hh, r⟩
  · simp [Value.ownBlock] at hk
  · simp [Value.ownBlock] at hk
    subst hk
    exact ⟨hB, _, hh⟩
theorem own_far {w : World} {base e size n : Nat} {v : Value} {xs : List Value} {p : Addr} {u : Value} (h : w.ownsRow base e size v n xs) (hp : v.ownBlock ≠ some p.block) : (w.setCell p u).ownsRow base e size v n xs := by
  obtain ⟨h1, h2⟩ := h
  refine ⟨h1, ?_⟩
  rcases h2 with h2 | ⟨g2, cap, cur, rfl, hB, hh, r⟩
  · exact .inl h2
  · exact .inr ⟨g2, cap, cur, rfl, hB, (Below.heap_setCell _ _ _ _ (fun e => hp (by rw [← e]; simp [Value.ownBlock]))).trans hh, r⟩
theorem disk_ne {w : World} {g gl : Nat} {a b : Array Value} (h0 : w.heap[g]? = some (.cells a 67 (0, 0))) (h3 : w.heap[gl]? = some (.cells b 69 (0, 0))) : g ≠ gl := fun e => by
  subst e
  rw [h0] at h3
  injection h3 with hc
  injection hc with _ hc
  exact absurd hc (by decide)
open Go.Proofs.Ytjaibpphlbddoaa.Mid in
theorem disk_step {w : World} {g gl gb n m : Nat} {vo vf vd : Value} {L b : List Int} {bb : List Value}
    (hg : w.heap[g]? = some (.cells #[.slice (some ⟨gl, 0, none⟩) n n, vo, vf, vd] 67 (0, 0))) (hL : w.heap[gl]? = some (.cells (Disk.bytes L).toArray 69 (0, 0)))
    (hx : w.heap[gb]? = some (.cells (Value.int .i64 (m : Int) :: Disk.bytes b).toArray 71 (0, 0))) (hbb : bb = Disk.bytes b) (ho : m * 64 + 64 ≤ L.length) (hne : g ≠ gl) (hnb : gb ≠ gl) (hbl : bb.length = 64) :
    (w.cell? ⟨g, 0, none⟩ = some (.slice (some ⟨gl, 0, none⟩) n n) ∧ w.cell? ⟨gb, 0, none⟩ = some (.int .i64 (m : Int)) ∧ w.rangeAt gb 1 bb ∧ w.there gl (m * 64) bb.length) ∧
    ((w.setCells gl (m * 64) bb).cell? ⟨g, 0, none⟩ = some (.slice (some ⟨gl, 0, none⟩) n n) ∧ (w.setCells gl (m * 64) bb).cell? ⟨gb, 0, none⟩ = some (.int .i64 (m : Int)) ∧ (w.setCells gl (m * 64) bb).rangeAt gb 1 bb ∧ (w.setCells gl (m * 64) bb).there gl (m * 64) bb.length) := by
  have hr : w.rangeAt gb 1 bb := range_of_block hx (fun j v hv => by rw [hbb] at hv; rw [show 1 + j = j + 1 by omega]; simpa using hv)
  have ht : w.there gl (m * 64) bb.length := there_of_block hL (by rw [hbl]; simpa [Disk.bytes_length] using ho)
  have hg2 : (w.setCells gl (m * 64) bb).heap[g]? = _ := (setCells_far bb (m * 64) g hne).trans hg
  have hx2 : (w.setCells gl (m * 64) bb).heap[gb]? = _ := (setCells_far bb (m * 64) gb hnb).trans hx
  exact ⟨⟨(blk_cell hg 0).trans rfl, (blk_cell hx 0).trans rfl, hr, ht⟩, (blk_cell hg2 0).trans rfl, (blk_cell hx2 0).trans rfl, World.rangeAt_setCells_apart hr _ _ _ (.inl hnb), World.there_setCells ht _ _ _⟩
theorem grown_below {w1 w w' : World} {r : Option Nat} (h : w1.grownBy w r) (hb : Below w.heap.size w w') : w1.grownBy w' r :=
  ⟨hb.os.trans h.os, hb.tape.trans h.tape, hb.output.trans h.output, Nat.le_trans h.size hb.size, fun k hk hne => (hb.block k (Nat.lt_of_lt_of_le hk h.size)).trans (h.block k hk hne)⟩
theorem grown_row {w1 w w' : World} {r : Option Nat} (h : w1.grownBy w r) (hb : w.grownBy w' r) : w1.grownBy w' r :=
  ⟨hb.os.trans h.os, hb.tape.trans h.tape, hb.output.trans h.output, Nat.le_trans h.size hb.size, fun k hk hne => (hb.block k (Nat.lt_of_lt_of_le hk h.size) hne).trans (h.block k hk hne)⟩
theorem put_world {w : World} {gl off : Nat} {l b : List Int} {t : TypeId} (hb : w.heap[gl]? = some (.cells (Disk.bytes l).toArray t (0, 0))) (h : off + b.length ≤ l.length) :
    (w.setCells gl off (Disk.bytes b)).heap[gl]? = some (.cells (Disk.bytes (Disk.put l off b)).toArray t (0, 0)) := by
  obtain ⟨cur', hb', _, he⟩ := setCells_row (Disk.bytes b) off w (Disk.bytes l).toArray hb (by simpa [Disk.bytes_length] using h)
  rw [hb']
  have : cur' = (Disk.bytes (Disk.put l off b)).toArray := by
    apply Array.toList_inj.1
    rw [he]
    simp [Disk.put, Disk.bytes]
  rw [this]
theorem put_length {l b : List Int} {off : Nat} (h : off + b.length ≤ l.length) : (Disk.put l off b).length = l.length := by
  unfold Disk.put
  simp
  omega
theorem settle_snoc (r : List (Int × List Int)) (p : Int × List Int) (l : List Int) : Disk.settle (r ++ [p]) l = Disk.put (Disk.settle r l) (p.1.toNat * 64) p.2 := by
  induction r generalizing l with
  | nil => rfl
  | cons q r ih => exact ih _
theorem settle_length {r : List (Int × List Int)} {l : List Int} (h : ∀ p ∈ r, p.1.toNat * 64 + 64 ≤ l.length ∧ p.2.length = 64) : (Disk.settle r l).length = l.length := by
  induction r generalizing l with
  | nil => rfl
  | cons p r ih =>
    obtain ⟨h1, h2⟩ := h p List.mem_cons_self
    have h3 := put_length (l := l) (b := p.2) (off := p.1.toNat * 64) (by omega)
    unfold Disk.settle
    rw [ih (fun q hq => by rw [h3]; exact h q (List.mem_cons_of_mem _ hq)), h3]
open Go.Proofs.Ytjaibpphlbddoaa.Opq in
theorem disk_landed {w0 w1 wr W : World} {g gl : Nat} {vo : Value} {s : Disk.DiskM} {L : List Int} {f : Int} {dn : Bool}
    (hI : w1.heap[g]? = some (.cells #[.slice (some ⟨gl, 0, none⟩) (s.lasts.length / 64) (s.lasts.length / 64), vo, .int .i64 s.fuse, .bool s.down] 67 (0, 0)) ∧ w0.heap.size ≤ g ∧ w0.heap.size ≤ gl ∧
    w1.heap[gl]? = some (.cells (Disk.bytes s.lasts).toArray 69 (0, 0)) ∧ w1.ownsRow w0.heap.size 71 65 vo s.loose.length (Disk.flat s.loose) ∧ Disk.Ok s)
    (hB : Below w0.heap.size w0 w1) (hgr : w1.grownBy wr (some gl)) (hL : wr.heap[gl]? = some (.cells (Disk.bytes L).toArray 69 (0, 0))) (hl : L.length = s.lasts.length)
    (hW : W.heap[g]? = some (.cells #[.slice (some ⟨gl, 0, none⟩) (s.lasts.length / 64) (s.lasts.length / 64), .slice none 0 0, .int .i64 f, .bool dn] 67 (0, 0)))
    (hk : ∀ k, k ≠ g → W.heap[k]? = wr.heap[k]?) (hz : W.heap.size = wr.heap.size) (hos : W.os = wr.os ∧ W.tape = wr.tape ∧ W.output = wr.output) :
    IsS67 w0 W g ⟨L, [], f, dn⟩ ∧ Below w0.heap.size w0 W ∧ KeepO ts67 w0.heap.size w1 W := by
  obtain ⟨h0, h1, h2, h3, h4, h5⟩ := hI
  have hgl : gl ≠ g := fun e => by
    subst e
    rw [h0] at h3
    injection h3 with hc
    injection hc with _ hc
    exact absurd hc (by decide)
  refine ⟨⟨gl, .slice none 0 0, ?_, h1, h2, ?_, ⟨rfl, .inl ⟨rfl, rfl⟩⟩, ?_⟩, ?_, ?_⟩
  · rw [hl]; exact hW
  · exact (hk gl hgl).trans hL
  · refine ⟨?_, fun p hp => by cases hp⟩
    obtain ⟨n, hn, hs⟩ := h5.size
    exact ⟨n, hn, hl.trans hs⟩
  · refine ⟨hos.1.trans (hgr.os.trans hB.os), hos.2.1.trans (hgr.tape.trans hB.tape), hos.2.2.trans (hgr.output.trans hB.output), ?_, fun k hkk => ?_⟩
    · rw [hz]; exact Nat.le_trans hB.size hgr.size
    · exact (hk k (by omega)).trans ((hgr.block k (Nat.lt_of_lt_of_le hkk hB.size) (fun e => by injection e with e; omega)).trans (hB.block k hkk))
  · refine ⟨by rw [hz]; exact hgr.size, fun k hkk hp => ?_⟩
    have hpg : Priv ts67 w1.heap[g]? := by rw [h0]; show _ ∈ ts67; decide
    have hpl : Priv ts67 w1.heap[gl]? := by rw [h3]; show _ ∈ ts67; decide
    have n1 : k ≠ g := fun e => by
      rcases hp with hp | hp
      · omega
      · exact hp (e ▸ hpg)
    have n2 : k ≠ gl := fun e => by
      rcases hp with hp | hp
      · omega
      · exact hp (e ▸ hpl)
    exact (hk k n1).trans (hgr.block k hkk (fun e => by injection e with e; exact n2 e))
set_option maxHeartbeats 2000000 in
open Go.Proofs.Ytjaibpphlbddoaa.Opq in
theorem sector_Disk_burn.calls (g : Nat) (s0_0 : Disk.DiskM) (r1 : Bool) (r2 : Disk.DiskM) (w0 w : World) (hI : IsS67 w0 w g s0_0) (hB : Below w0.heap.size w0 w) (h : sector_Disk_burn.f s0_0 = some (r1, r2)) :
    Calls Try.prog 35 #[.pointer (some ⟨g, 0, none⟩)] w fun e w' => e = .returned (.bool r1) ∧ IsS67 w0 w' g r2 ∧ Below w0.heap.size w0 w' ∧ KeepO ts67 w0.heap.size w w' := by
  have h := Option.some.inj h
  injection h with h1 h2
  subst h1 h2
  obtain ⟨gl, vo, hI⟩ := hI
  have hg := hI.1
  have HGE := Aside0.mk hI.2.1
  have hcell2 : w.cell? ⟨g, 2, none⟩ = some (.int .i64 s0_0.fuse) := (blk_cell hg 2).trans rfl
  have hcell3 : w.cell? ⟨g, 3, none⟩ = some (.bool s0_0.down) := (blk_cell hg 3).trans rfl
  have hf2 : w.frozen? ⟨g, 2, none⟩ = false := blk_frozen hg 2
  have hf3 : w.frozen? ⟨g, 3, none⟩ = false := blk_frozen hg 3
  have HI := Aside0.mk hI
  have HG := Aside0.mk hg
  have HB := Aside0.mk hB
  clear hI hB hg
  by_cases k0 : s0_0.fuse = 0
  · have d0 : (s0_0.fuse == 0) = true := beq_iff_eq.2 k0
    have d1 : decide (0 < s0_0.fuse) = false := decide_eq_false (by omega)
    have HS := Aside0.mk (show Disk.burn s0_0 = ⟨s0_0.lasts, s0_0.loose, s0_0.fuse, true⟩ by unfold Disk.burn; rw [decide_eq_true k0, if_neg (by omega)]; simp)
    clear k0
    go_enter Try.func35, Try.ntmps35
    go_wp2
    go_ret
    have h2 := disk_turned (W := w.setCell ⟨g, 3, none⟩ (.bool true)) (s' := ⟨s0_0.lasts, s0_0.loose, s0_0.fuse, true⟩) HI.out ⟨rfl, rfl⟩ (by simpa using blk_set HG.out 3 (.bool true)) (fun k _ hk => Below.heap_setCell _ _ _ _ hk) (by simp [World.setCell])
    rw [HS.out]
    exact ⟨rfl, h2.1, HB.out.setCell HGE.out _, h2.2⟩
  · have d0 : (s0_0.fuse == 0) = false := beq_eq_false_iff_ne.2 k0
    by_cases k1 : 0 < s0_0.fuse
    · have d1 : decide (0 < s0_0.fuse) = true := decide_eq_true k1
      have HS := Aside0.mk (show Disk.burn s0_0 = ⟨s0_0.lasts, s0_0.loose, wrap64 (s0_0.fuse - 1), s0_0.down⟩ by unfold Disk.burn; rw [decide_eq_false k0, if_pos k1]; simp)
      clear k0 k1
      go_enter Try.func35, Try.ntmps35
      go_wp2
      go_ret
      have h2 := disk_turned (W := w.setCell ⟨g, 2, none⟩ (.int .i64 (wrap64 (s0_0.fuse - 1)))) (s' := ⟨s0_0.lasts, s0_0.loose, wrap64 (s0_0.fuse - 1), s0_0.down⟩) HI.out ⟨rfl, rfl⟩ (by simpa using blk_set HG.out 2 (.int .i64 (wrap64 (s0_0.fuse - 1)))) (fun k _ hk => Below.heap_setCell _ _ _ _ hk) (by simp [World.setCell])
      rw [HS.out]
      exact ⟨rfl, h2.1, HB.out.setCell HGE.out _, h2.2⟩
    · have d1 : decide (0 < s0_0.fuse) = false := decide_eq_false k1
      have HS := Aside0.mk (show Disk.burn s0_0 = s0_0 by unfold Disk.burn; rw [decide_eq_false k0, if_neg k1]; simp)
      clear k0 k1
      go_enter Try.func35, Try.ntmps35
      go_wp2
      go_ret
      rw [HS.out]
      exact ⟨rfl, ⟨gl, vo, HI.out⟩, HB.out, KeepO.refl _ _ _⟩


/-! ### sector_Disk_Write: function 14 -/
-- FN rounds=0 making=1
-- IMPORT Derived.Test.YtjaibpphlbddoaaMid
-- IMPORT Derived.Laws.CopyOwn
-- IMPORT Derived.Deep.RegionHeld3
-- IMPORT Derived.Deep.AppendLies
def sector_Disk_Write.f (s : Disk.DiskM) (a1 : Int) (l2 : List Int) : Option (Int × Disk.DiskM) := if s.loose.length < 1000000 then some (Disk.write s a1 l2) else none
theorem splice_fill {a : Int} {b : List Int} (h : b.length ≤ 64) : splice (Value.int .i64 a :: Disk.bytes (List.replicate 64 0)) 1 (Disk.bytes b) = Value.int .i64 a :: Disk.bytes (Disk.fill b) := by
  unfold splice Disk.fill Disk.bytes
  simp only [List.take_succ_cons, List.take_zero, List.cons_append, List.nil_append, List.map_append, List.map_replicate, List.length_map]
  rw [show 1 + b.length = b.length + 1 by omega, List.drop_succ_cons, List.drop_replicate]
theorem info_write : (Try.prog.info? 71).map (fun i => (i.zero, i.size, i.bytes)) = some (some (.agg (Value.int .i64 0 :: Disk.bytes (List.replicate 64 0)).toArray), 65, 72) := by kernel_rfl
theorem copy_cells {w : World} {A : Option Addr} {n : Nat} {l : List Int} (h : Kd.C (Kd.int .u8) w A n l) (hp : 0 < l.length) : ∃ ad, A = some ad ∧ ∀ (j : Nat) v, (Disk.bytes l)[j]? = some v → w.cell? (ad.add j) = some v := by
  obtain ⟨hl, _, h⟩ := Kd.reads_of_C (d := (0 : Int)) h
  obtain ⟨ad, he, hc⟩ := h (by omega)
  refine ⟨ad, he, fun j v hv => ?_⟩
  have hj : j < l.length := by have := (List.getElem?_eq_some_iff.1 hv).1; rwa [Disk.bytes_length] at this
  rw [Disk.bytes_get hj] at hv
  injection hv with hv
  rw [← hv]
  exact hc j (by omega)
open Go.Proofs.Ytjaibpphlbddoaa.Opq in
theorem disk_written {w0 w1 w7 w8 : World} {g gl gg cap H : Nat} {vo : Value} {s : Disk.DiskM} {a : Int} {b : List Int} {cs : List Value}
    (hI : w1.heap[g]? = some (.cells #[.slice (some ⟨gl, 0, none⟩) (s.lasts.length / 64) (s.lasts.length / 64), vo, .int .i64 s.fuse, .bool s.down] 67 (0, 0)) ∧ w0.heap.size ≤ g ∧ w0.heap.size ≤ gl ∧
    w1.heap[gl]? = some (.cells (Disk.bytes s.lasts).toArray 69 (0, 0)) ∧ w1.ownsRow w0.heap.size 71 65 vo s.loose.length (Disk.flat s.loose) ∧ Disk.Ok s)
    (hB : Below w0.heap.size w0 w1) (h7 : Below w1.heap.size w1 w7) (hgrow : w7.grownBy w8 vo.ownBlock) (hown8 : w8.ownsRow w0.heap.size 71 65 (.slice (some ⟨gg, 0, none⟩) (s.loose.length + 1) cap) (s.loose.length + 1) (Disk.flat s.loose ++ cs))
    (hat : vo.ownBlock = some gg ∨ gg = H) (hH : w1.heap.size ≤ H) (hcs : cs = Value.int .i64 a :: Disk.bytes b) (hb : b.length = 64) (ha : Disk.there s a = true) :
    IsS67 w0 (w8.setCell ⟨g, 1, none⟩ (.slice (some ⟨gg, 0, none⟩) (s.loose.length + 1) cap)) g { s with loose := s.loose ++ [(a, b)] } ∧ Below w0.heap.size w0 (w8.setCell ⟨g, 1, none⟩ (.slice (some ⟨gg, 0, none⟩) (s.loose.length + 1) cap)) ∧ KeepO ts67 w0.heap.size w1 (w8.setCell ⟨g, 1, none⟩ (.slice (some ⟨gg, 0, none⟩) (s.loose.length + 1) cap)) := by
  obtain ⟨h0, h1, h2, h3, h4, h5⟩ := hI
  have hty := own_typed h4
  have hng : vo.ownBlock ≠ some g := fun e => by
    obtain ⟨_, cells, hc⟩ := hty g e
    rw [h0] at hc
    injection hc with hc
    injection hc with _ hc
    exact absurd hc (by decide)
  have hngl : vo.ownBlock ≠ some gl := fun e => by
    obtain ⟨_, cells, hc⟩ := hty gl e
    rw [h3] at hc
    injection hc with hc
    injection hc with _ hc
    exact absurd hc (by decide)
  have hgl : g ≠ gl := fun e => by
    subst e
    rw [h0] at h3
    injection h3 with hc
    injection hc with _ hc
    exact absurd hc (by decide)
  have hk8 : ∀ k, k < w1.heap.size → vo.ownBlock ≠ some k → w8.heap[k]? = w1.heap[k]? := fun k hk hne => (hgrow.block k (Nat.lt_of_lt_of_le hk h7.size) (fun e => hne e.symm)).trans (h7.block k hk)
  have hggg : gg ≠ g := fun e => by
    subst e
    rcases hat with h | h
    · exact hng h
    · have := blk_lt h0; omega
  have hs8 : w1.heap.size ≤ w8.heap.size := Nat.le_trans h7.size hgrow.size
  have hl := Disk.there_in h5 ha
  refine ⟨⟨gl, .slice (some ⟨gg, 0, none⟩) (s.loose.length + 1) cap, ?_, h1, h2, ?_, ?_, ?_⟩, ?_, ?_⟩
  · have := blk_set ((hk8 g (blk_lt h0) hng).trans h0) 1 (.slice (some ⟨gg, 0, none⟩) (s.loose.length + 1) cap)
    simpa using this
  · exact (Below.heap_setCell _ _ _ _ (Ne.symm hgl)).trans ((hk8 gl (blk_lt h3) hngl).trans h3)
  · have := own_far (p := ⟨g, 1, none⟩) (u := .slice (some ⟨gg, 0, none⟩) (s.loose.length + 1) cap) hown8 (by simpa [Value.ownBlock] using hggg)
    simpa [Disk.flat, hcs] using this
  · refine ⟨h5.size, fun p hp => ?_⟩
    rcases List.mem_append.1 hp with hp | hp
    · exact h5.loose p hp
    · obtain rfl := List.mem_singleton.1 hp
      exact ⟨hl.1, hl.2.1, hb⟩
  · refine Below.setCell ?_ h1 _
    exact ⟨hgrow.os.trans (h7.os.trans hB.os), hgrow.tape.trans (h7.tape.trans hB.tape), hgrow.output.trans (h7.output.trans hB.output), Nat.le_trans hB.size hs8, fun k hk => (hk8 k (Nat.lt_of_lt_of_le hk hB.size) (fun e => by have := (hty k e).1; omega)).trans (hB.block k hk)⟩
  · refine ⟨by simpa [World.setCell] using hs8, fun k hk hp => ?_⟩
    have hpr : Priv ts67 w1.heap[g]? := by rw [h0]; show _ ∈ ts67; decide
    refine (Below.heap_setCell _ _ _ _ (fun e => ?_)).trans (hk8 k hk (fun e => ?_))
    · subst e
      rcases hp with hp | hp
      · have : _ < w0.heap.size := hp
        omega
      · exact hp hpr
    · obtain ⟨hb2, cells, hc⟩ := hty k e
      rcases hp with hp | hp
      · omega
      · exact hp (by rw [hc]; show _ ∈ ts67; decide)
set_option maxHeartbeats 8000000 in
set_option maxRecDepth 100000 in
open Go.Proofs.Ytjaibpphlbddoaa.Opq Go.Proofs.Ytjaibpphlbddoaa.Mid in
theorem sector_Disk_Write.calls (g : Nat) (s0_0 : Disk.DiskM) (a1 : Int) (A2 : Option Addr) (c2 : Nat) (l2 : List Int) (r1 : Int) (r2 : Disk.DiskM) (w0 w : World) (hI : IsS67 w0 w g s0_0) (hB : Below w0.heap.size w0 w) (hr2 : ∀ W_, Go.Proofs.Ytjaibpphlbddoaa.Opq.KeepO ts67 w0.heap.size w W_ → Kd.C (Kd.int .u8) W_ A2 l2.length l2) (hc2 : l2.length ≤ c2) (h : sector_Disk_Write.f s0_0 a1 l2 = some (r1, r2)) :
    Calls Try.prog 14 #[.pointer (some ⟨g, 0, none⟩), .int .i64 a1, .slice A2 l2.length c2] w fun e w' => e = .returned (.int .i64 r1) ∧ IsS67 w0 w' g r2 ∧ Below w0.heap.size w0 w' ∧ Go.Proofs.Ytjaibpphlbddoaa.Opq.KeepO ts67 w0.heap.size w w' := by
  unfold sector_Disk_Write.f at h
  split at h
  case isFalse => cases h
  case isTrue hlen =>
  have h := Option.some.inj h
  have HI := Aside0.mk hI
  have HB := Aside0.mk hB
  have HL := Aside0.mk hlen
  have HR := Aside0.mk hr2
  clear hI hlen hB hr2
  cases ht : Disk.there s0_0 a1 with
  | false =>
    unfold Disk.write at h
    rw [if_pos (.inl ht)] at h
    injection h with h1 h2
    subst h1 h2
    have HT := Aside0.mk ht
    clear ht
    go_enter Try.func14, Try.ntmps14
    go_wp2_with (go_at_call 34; refine (sector_Disk_there.calls0 g s0_0 a1 w0 _ HI.out).mono ?_; rw [HT.out]; rintro e w' ⟨rfl, rfl⟩)
    go_ret
    exact ⟨rfl, HI.out, HB.out, KeepO.refl _ _ _⟩
  | true =>
  have HT := Aside0.mk ht
  by_cases hl : l2.length > 64
  · unfold Disk.write at h
    rw [if_pos (.inr hl)] at h
    injection h with h1 h2
    subst h1 h2
    have d0 : decide ((l2.length : Int) > 64) = true := decide_eq_true (by omega)
    clear ht hl
    go_enter Try.func14, Try.ntmps14
    go_wp2_with (go_at_call 34; refine (sector_Disk_there.calls0 g s0_0 a1 w0 _ HI.out).mono ?_; rw [HT.out]; rintro e w' ⟨rfl, rfl⟩)
    go_ret
    exact ⟨rfl, HI.out, HB.out, KeepO.refl _ _ _⟩
  have d0 : decide ((l2.length : Int) > 64) = false := decide_eq_false (by omega)
  unfold Disk.write at h
  rw [if_neg (by rw [ht]; simp; omega)] at h
  cases hd : (Disk.burn s0_0).down with
  | true =>
    rw [if_pos hd] at h
    injection h with h1 h2
    subst h1 h2
    have HX := Aside0.mk (sector_Disk_burn.calls g s0_0 false (Disk.burn s0_0) w0 w HI.out HB.out (by unfold sector_Disk_burn.f; rw [hd]; rfl))
    clear ht hl hd
    go_enter Try.func14, Try.ntmps14
    go_wp2_with (first | (go_at_call 34; refine (sector_Disk_there.calls0 g s0_0 a1 w0 _ HI.out).mono ?_; rw [HT.out]; rintro e w' ⟨rfl, rfl⟩) | (go_at_call 35; refine HX.out.mono ?_; rintro e w1 ⟨rfl, hr⟩; have HR1 := Aside0.mk hr; clear hr))
    go_ret
    exact ⟨rfl, HR1.out⟩
  | false =>
    rw [if_neg (by rw [hd]; simp)] at h
    injection h with h1 h2
    subst h1 h2
    have HX := Aside0.mk (sector_Disk_burn.calls g s0_0 true (Disk.burn s0_0) w0 w HI.out HB.out (by unfold sector_Disk_burn.f; rw [hd]; rfl))
    have HLE := Aside0.mk hl
    clear ht hl hd
    go_enter Try.func14, Try.ntmps14
    go_wp2_with (first
      | (go_at_call 34; refine (sector_Disk_there.calls0 g s0_0 a1 w0 _ HI.out).mono ?_; rw [HT.out]; rintro e w' ⟨rfl, rfl⟩)
      | (go_at_call 35; refine HX.out.mono ?_; rintro e w1 ⟨rfl, hr⟩; have HR1 := Aside0.mk hr; have HR2 := Aside0.mk (fun W hk => HR.out W (hr.2.2.trans hk)); clear hr)
      | ((with_reducible refine gate_store (t := 71) (p := 7) rfl ?_); refine store_new rfl 71 (.tmp 7) (.tmp 21) rfl (Value.int .i64 a1 :: Disk.bytes (List.replicate 64 0)) (by rfl) (by rfl) (heap_alloc_new w1 _) (by rfl) (by kernel_rfl) (elem_one (a1, List.replicate 64 0)) ?_; intro w6 hx6 hg6 hs6; have HB6 := Aside0.mk (show Below w1.heap.size w1 w6 from (below_alloc (Below.refl _ w1) _).grown hg6 (by simp) (fun k e => by injection e with e; omega)); have HX6 := Aside0.mk hx6; clear hx6 hg6 hs6)
      | ((with_reducible refine gate_builtin (b := .copy) (xs := #[.tmp 23, .tmp 24]) rfl ?_); refine wpList_copy_splice rfl (.tmp 23) (.tmp 24) 22 22 rfl 5 Try.underlying22 (by kernel_rfl) (some ⟨w1.heap.size, 1, none⟩) A2 64 64 l2.length c2 rfl rfl w1.heap.size 1 (Value.int .i64 a1 :: Disk.bytes (List.replicate 64 0)) 71 HX6.out (Disk.bytes l2) (by have := HLE.out; rw [Disk.bytes_length]; show _ = min l2.length 64; omega) (fun hp => ⟨rfl, copy_cells (HR2.out w6 (KeepO.of_below HB6.out)) (by simpa [Disk.bytes_length] using hp)⟩) (by have := HLE.out; simp [Disk.bytes_length]; omega) (by intro v hv; unfold Disk.bytes at hv; obtain ⟨x, _, rfl⟩ := List.mem_map.1 hv; rfl) w1.heap.size w1 HB6.out (Nat.le_refl _) ?_; intro w7 hx7 hb7; have HX7 := Aside0.mk hx7; have HB7 := Aside0.mk hb7; clear hx7 hb7))
    obtain ⟨hi1, hb1, hk1⟩ := HR1.out
    obtain ⟨gl, vo, hg1, hge, hgb, hgl, hown, hok⟩ := hi1
    have hcell1 : w7.cell? ⟨g, 1, none⟩ = some vo := (blk_cell ((HB7.out.block g (blk_lt hg1)).trans hg1) 1).trans rfl
    have hf1 : w7.frozen? ⟨g, 1, none⟩ = false := blk_frozen ((HB7.out.block g (blk_lt hg1)).trans hg1) 1
    obtain ⟨cs, hcs⟩ : ∃ cs, cs = (Value.int .i64 a1 :: Disk.bytes (Disk.fill l2)) := ⟨_, rfl⟩
    have hx7 : w7.heap[w1.heap.size]? = some (.cells cs.toArray 71 (0, 0)) := by
      rw [HX7.out, hcs, splice_fill (by have := HLE.out; omega)]
    have hrg : w7.rangeAt w1.heap.size 0 cs := range_of_block hx7 (fun j v hv => by simpa using hv)
    have hcl : cs.length = 65 := by rw [hcs, List.length_cons, Disk.bytes_length, Disk.fill_length (by have := HLE.out; omega)]
    have HONE := Aside0.mk (show ∀ u ∈ cs, u.oneCell' = true by rw [hcs]; exact elem_one (a1, Disk.fill l2))
    have HCS := Aside0.mk hcs
    clear hcs
    have hu := Try.underlying71
    have hi : (Try.prog.info? 71).map (·.size) = some cs.length := by rw [hcl]; kernel_rfl
    obtain ⟨i0, hi0, hz0, hz1, hz2⟩ := info_parts info_write
    have HS := Aside0.mk (show w0.heap.size ≤ w7.heap.size from Nat.le_trans hb1.size HB7.out.size)
    have hown7 : w7.drew.ownsRow w0.heap.size 71 65 vo s0_0.loose.length (Disk.flat s0_0.loose) := own_below hown (show Below w1.heap.size w1 w7.drew from ⟨HB7.out.1, HB7.out.2, HB7.out.3, HB7.out.4, HB7.out.5⟩)
    have HALL := Aside0.mk (And.intro hg1 (And.intro hge (And.intro hgb (And.intro hgl (And.intro hown hok)))))
    clear hg1 hge hgb hgl hown hok hb1 hk1
    refine wp_region_held_drew (S := fun w' => w'.rangeAt w1.heap.size 0 cs) (by kernel_rfl) (by simpa using hrg) (fun hHeld => ?_)
    refine wpAnyH_take (i := 5) (oi := _) (v := _) rfl (by kernel_rfl) (by kernel_rfl) (by kernel_rfl) (fun _ _ _ h => h) (yieldsIf_load_mid (by rfl) _ _ rfl _ _ rfl _ _ (fun w hw => hw) hu rfl hi) hHeld ?_
    (try simp only [List.getElem_toArray, List.getElem_cons_zero, List.getElem_cons_succ, Act.put, List.setIfInBounds_toArray, List.set_cons_zero, List.set_cons_succ])
    refine wpAnyH_take (i := 0) (oi := _) (v := ?_) rfl (by kernel_rfl) (by kernel_rfl) (by kernel_rfl) (fun _ _ _ h => h) (Or.inl ⟨by rfl, ?_⟩) hHeld ?_
    rotate_left
    · intro w hSw
      go_simp
      with_reducible rfl
    (try simp only [List.getElem_toArray, List.getElem_cons_zero, List.getElem_cons_succ, Act.put, List.setIfInBounds_toArray, List.set_cons_zero, List.set_cons_succ])
    refine wpAnyH_take (i := 1) (oi := _) (v := ?_) rfl (by kernel_rfl) (by kernel_rfl) (by kernel_rfl) (fun _ _ _ h => h) (Or.inl ⟨by rfl, ?_⟩) hHeld ?_
    rotate_left
    · intro w hSw
      go_simp
      with_reducible rfl
    (try simp only [List.getElem_toArray, List.getElem_cons_zero, List.getElem_cons_succ, Act.put, List.setIfInBounds_toArray, List.set_cons_zero, List.set_cons_succ])
    refine wpAnyH_take (i := 2) (oi := _) (v := ?_) rfl (by kernel_rfl) (by kernel_rfl) (by kernel_rfl) (fun _ _ _ h => h) (Or.inl ⟨by rfl, ?_⟩) hHeld ?_
    rotate_left
    · intro w hSw
      go_simp
      with_reducible rfl
    (try simp only [List.getElem_toArray, List.getElem_cons_zero, List.getElem_cons_succ, Act.put, List.setIfInBounds_toArray, List.set_cons_zero, List.set_cons_succ])
    refine wpAnyH_take (i := 3) (oi := _) (v := ?_) rfl (by kernel_rfl) (by kernel_rfl) (by kernel_rfl) (fun _ _ _ h => h) (Or.inl ⟨by rfl, ?_⟩) hHeld ?_
    rotate_left
    · intro w hSw
      go_simp
      with_reducible rfl
    (try simp only [List.getElem_toArray, List.getElem_cons_zero, List.getElem_cons_succ, Act.put, List.setIfInBounds_toArray, List.set_cons_zero, List.set_cons_succ])
    have hcell1b : (w7.alloc (.cells cs.toArray 71)).cell? ⟨g, 1, none⟩ = some vo := by rw [World.cell?_alloc_some _ _ _ (by rw [hcell1]; rfl), hcell1]
    have hcell1a : (w7.drew.alloc (.cells cs.toArray 71)).cell? ⟨g, 1, none⟩ = some vo := by rw [World.cell?_alloc_some _ _ _ (by rw [World.cell?_drew, hcell1]; rfl), World.cell?_drew, hcell1]
    refine wpAnyH_ready (rs := [4, 6]) (by kernel_rfl) (by simp) ?_
    refine AllReadyH.cons (o := _) rfl (fun K hK => ?_) (AllReadyH.cons (o := _) rfl (fun K hK => ?_) AllReadyH.nil)
    focus
      go_simp
      refine hK.out _ _ hHeld (fun hHeld => ?_)
      clear hK K
      (try simp only [List.getElem_toArray, List.getElem_cons_zero, List.getElem_cons_succ, Act.put, List.setIfInBounds_toArray, List.set_cons_zero, List.set_cons_succ])
      refine wpAnyH_ready (rs := [6]) (by kernel_rfl) (by simp) ?_
      refine AllReadyH.cons (o := _) rfl (fun K hK => ?_) AllReadyH.nil
      refine step_slice_one rfl _ rfl cs rfl i0 _ Try.underlying65 hi0 hz0 (hz1.trans hcl.symm) hcl.symm (by omega) (by omega) ?_
      refine hK.out _ _ (World.rangeAt_alloc hHeld _) (fun hHeld => ?_)
      clear hK K
      (try simp only [List.getElem_toArray, List.getElem_cons_zero, List.getElem_cons_succ, Act.put, List.setIfInBounds_toArray, List.set_cons_zero, List.set_cons_succ])
    rotate_left
    focus
      refine step_slice_one rfl _ rfl cs rfl i0 _ Try.underlying65 hi0 hz0 (hz1.trans hcl.symm) hcl.symm (by omega) (by omega) ?_
      refine hK.out _ _ (World.rangeAt_alloc hHeld _) (fun hHeld => ?_)
      clear hK K
      (try simp only [List.getElem_toArray, List.getElem_cons_zero, List.getElem_cons_succ, Act.put, List.setIfInBounds_toArray, List.set_cons_zero, List.set_cons_succ])
      refine wpAnyH_ready (rs := [4]) (by kernel_rfl) (by simp) ?_
      refine AllReadyH.cons (o := _) rfl (fun K hK => ?_) AllReadyH.nil
      go_simp
      refine hK.out _ _ hHeld (fun hHeld => ?_)
      clear hK K
      (try simp only [List.getElem_toArray, List.getElem_cons_zero, List.getElem_cons_succ, Act.put, List.setIfInBounds_toArray, List.set_cons_zero, List.set_cons_succ])
    all_goals
      refine wpAnyH_ready (rs := [7]) (by kernel_rfl) (by simp) ?_
      refine AllReadyH.cons (o := _) rfl (fun K hK => ?_) AllReadyH.nil
      refine step_append_lies _ (by rfl) _ _ _ (by rfl) w0.heap.size 71 i0 _ 65 72 Try.underlying65 hi0 hz0 hz1 hz2 rfl (by omega) vo s0_0.loose.length (Disk.flat s0_0.loose) (by rfl) (hown7.alloc _)
          ⟨w7.drew.heap.size, 0, none⟩ 1 1 cs (by rfl) (by rw [hcl]) (World.news_of_block (cs := cs.toArray) (t := 71) (fr := (0, 0)) (heap_alloc_new w7.drew _)) HONE.out
          (by omega) (by have := HL.out; unfold maxLen; omega) (by have := HL.out; omega) (by have := HS.out; simp; omega) (w7.heap.size + 1) (by simp) ?_
      intro gg cap w8 hown8 hgrow hat hlt
      have hk8 : ∀ k cells t, w1.heap[k]? = some (.cells cells t (0, 0)) → vo.ownBlock ≠ some k → w8.heap[k]? = some (.cells cells t (0, 0)) := fun k cells t hk hne =>
        (hgrow.block k (Nat.lt_of_lt_of_le (blk_lt hk) (Nat.le_trans HB7.out.size (by simp))) (fun e => hne e.symm)).trans (((below_alloc (Below.refl _ w7.drew) _).block k (Nat.lt_of_lt_of_le (blk_lt hk) HB7.out.size)).trans ((HB7.out.block k (blk_lt hk)).trans hk))
      have hg8 := hk8 g _ _ HALL.out.1 (fun e => by
        obtain ⟨_, cells, hc⟩ := own_typed HALL.out.2.2.2.2.1 g e
        rw [HALL.out.1] at hc
        injection hc with hc
        injection hc with _ hc
        exact absurd hc (by decide))
      have hx8 : w8.heap[w1.heap.size]? = some (.cells cs.toArray 71 (0, 0)) := by
        refine (hgrow.block _ (Nat.lt_of_lt_of_le (blk_lt hx7) (by simp)) (fun e => ?_)).trans (((below_alloc (Below.refl _ w7.drew) _).block _ (blk_lt hx7)).trans hx7)
        obtain ⟨_, cells, hc⟩ := own_typed HALL.out.2.2.2.2.1 _ e.symm
        exact absurd (blk_lt hc) (by omega)
      have hrg8 : w8.rangeAt w1.heap.size 0 cs := range_of_block hx8 (fun j v hv => by simpa using hv)
      have hcell8 : w8.cell? ⟨g, 1, none⟩ = some vo := (blk_cell hg8 1).trans rfl
      have hf8 : w8.frozen? ⟨g, 1, none⟩ = false := blk_frozen hg8 1
      have HFIN := Aside0.mk (disk_written (s := Disk.burn s0_0) HALL.out HR1.out.2.1 (below_alloc (show Below w1.heap.size w1 w7.drew from ⟨HB7.out.1, HB7.out.2, HB7.out.3, HB7.out.4, HB7.out.5⟩) _) hgrow hown8 hat (Nat.le_trans HB7.out.size (Nat.le_succ _)) HCS.out (Disk.fill_length (by have := HLE.out; omega)) HT.out)
      refine hK.out _ _ hrg8 (fun hHeld => ?_)
      clear hK K hg8 hk8 hgrow hown8 hat
      (try simp only [List.getElem_toArray, List.getElem_cons_zero, List.getElem_cons_succ, Act.put, List.setIfInBounds_toArray, List.set_cons_zero, List.set_cons_succ])
      refine wpAnyH_take (i := 8) (oi := _) (v := ?_) rfl (by kernel_rfl) (by kernel_rfl) (by kernel_rfl) (fun _ _ _ h => h) (Or.inl ⟨by rfl, ?_⟩) hHeld ?_
      rotate_left
      · intro w hSw
        go_simp
        with_reducible rfl
      (try simp only [List.getElem_toArray, List.getElem_cons_zero, List.getElem_cons_succ, Act.put, List.setIfInBounds_toArray, List.set_cons_zero, List.set_cons_succ])
      refine wpAnyH_take (i := 9) (oi := _) (v := ?_) rfl (by kernel_rfl) (by kernel_rfl) (by kernel_rfl) (fun _ _ _ h => h) (Or.inl ⟨by rfl, ?_⟩) hHeld ?_
      rotate_left
      · intro w hSw
        go_simp
        with_reducible rfl
      (try simp only [List.getElem_toArray, List.getElem_cons_zero, List.getElem_cons_succ, Act.put, List.setIfInBounds_toArray, List.set_cons_zero, List.set_cons_succ])
      refine wpAnyH_ready (rs := [10]) (by kernel_rfl) (by simp) ?_
      refine AllReadyH.cons (o := _) rfl (fun K hK => ?_) AllReadyH.nil
      go_simp
      refine hK.out _ _ (range_of_block ((Below.heap_setCell _ _ _ _ (fun e => by have h1 : w1.heap.size = g := e; have := blk_lt HALL.out.1; omega)).trans hx8) (fun j v hv => by simpa using hv)) (fun hHeld => ?_)
      clear hK K hx8
      refine wpAnyH_done (by kernel_rfl) ?_ _
      go_wp2
      go_ret
      exact ⟨rfl, HFIN.out.1, HFIN.out.2.1, HR1.out.2.2.trans HFIN.out.2.2⟩


/-! ### interregnumref01_Same: function 17 -/
def interregnumref01_Same.l0 : Nat → List Int → List Int → Int → Option (Bool)
  | 0, _, _, _ => none
  | k + 1, x0, x1, x5 => if x5 < (x0.length : Int) then (if 0 ≤ x5 then (if x5 < (x1.length : Int) then (if (rd x0 x5) = (rd x1 x5) then (interregnumref01_Same.l0 k x0 x1 (wrap64 (x5 + 1))) else (some false)) else (none)) else (none)) else (some true)
def interregnumref01_Same.f (k : Nat) (l0 : List Int) (l1 : List Int) : Option (Bool) := if (l0.length : Int) = (l1.length : Int) then (interregnumref01_Same.l0 k l0 l1 0) else (some false)
theorem interregnumref01_Same.mono_l : ∀ k, (∀ y0 y1 y2, LeO (interregnumref01_Same.l0 k y0 y1 y2) (interregnumref01_Same.l0 (k + 1) y0 y1 y2))
  | 0 => fun _ _ _ r h => by simp [interregnumref01_Same.l0] at h
  | k + 1 => by
    have ih0 := interregnumref01_Same.mono_l k
    · intro y0 y1 y2
      unfold interregnumref01_Same.l0
      repeat' first
      | (with_reducible exact ih0 _ _ _)
      | (with_reducible exact LeO.refl _)
      | (with_reducible exact LeO.none _)
      | (with_reducible refine LeO.ite ?_ ?_)
      | (with_reducible refine LeO.bind ?_ (fun _ => ?_))
      | exact ih0 _ _ _
      | exact LeO.none _
      | refine LeO.ite ?_ ?_
      | refine LeO.bind ?_ (fun _ => ?_)
theorem interregnumref01_Same.mono : ∀ a0 a1 k, LeO (interregnumref01_Same.f k a0 a1) (interregnumref01_Same.f (k + 1) a0 a1) := by
  intro a0 a1 k
  have ih0 := interregnumref01_Same.mono_l k
  unfold interregnumref01_Same.f
  repeat' first
      | (with_reducible exact ih0 _ _ _)
      | (with_reducible exact LeO.refl _)
      | (with_reducible exact LeO.none _)
      | (with_reducible refine LeO.ite ?_ ?_)
      | (with_reducible refine LeO.bind ?_ (fun _ => ?_))
      | exact ih0 _ _ _
      | exact LeO.none _
      | refine LeO.ite ?_ ?_
      | refine LeO.bind ?_ (fun _ => ?_)
set_option maxHeartbeats 8000000 in
set_option maxRecDepth 100000 in
theorem interregnumref01_Same.calls (k : Nat) (A0 : Option Addr) (c0 : Nat) (l0 : List Int) (A1 : Option Addr) (c1 : Nat) (l1 : List Int) (r : Bool) (w : World) (hr0 : Kd.C (Kd.int .u8) w A0 l0.length l0) (hc0 : l0.length ≤ c0) (hr1 : Kd.C (Kd.int .u8) w A1 l1.length l1) (hc1 : l1.length ≤ c1) (h : interregnumref01_Same.f k l0 l1 = some r) :
    Calls Try.prog 17 #[.slice A0 l0.length c0, .slice A1 l1.length c1] w fun e w' => e = .returned (.bool r) ∧ Drawn0 w w' := by
  have HR0 := Aside0.mk hr0
  have HC0 := Aside0.mk hc0
  clear hr0 hc0
  have HR1 := Aside0.mk hr1
  have HC1 := Aside0.mk hc1
  clear hr1 hc1
  have H : (if (l0.length : Int) = (l1.length : Int) then (interregnumref01_Same.l0 k l0 l1 0) else (some false)) = some r := h
  clear h
  by_cases c3 : (l0.length : Int) = (l1.length : Int)
  · rw [if_pos c3] at H
    have c3b0 : ((l0.length : Int) == (l1.length : Int)) = true := beq_iff_eq.mpr c3
    have c3b1 : ((l0.length : Int) != (l1.length : Int)) = false := bne_eq_false_iff_eq.mpr c3
    have c3b2 : (l0.length == l1.length) = true := by first | simpa using c3 | (simp at c3 ⊢; omega)
    clear c3
    have H' := Aside0.mk H
    clear H
    go_enter Try.func17, Try.ntmps17
    go_wp2
    repeat (go_quiet (fail); try go_wp2)
    go_loopg [5] k (fun kq v5 w' => ∃ (x5_1 : Int), v5 = .int .i64 x5_1 ∧ Aside0 (interregnumref01_Same.l0 kq l0 l1 x5_1 = some r) ∧ Aside0 (kq ≤ k) ∧ Drawn0 w w')
    case atStart => exact ⟨(0), (by first | rfl | (simp; done) | (simp [*]; done)), H', ⟨Nat.le_refl _⟩, by repeat (first | exact Drawn0.refl _ | apply Drawn0.step)⟩
    case round =>
      clear H'
      try clear c1
      try clear p2
      try clear c3
      try clear c3b0
      try clear c3b1
      try clear c3b2
      obtain ⟨x5_1, rfl, HA, HK1, ⟨m1, rfl⟩⟩ := hrel
      cases gk with
      | zero => exact absurd HA.out (by simp [interregnumref01_Same.l0])
      | succ k1 =>
        have H := HA.out
        clear HA
        simp only [interregnumref01_Same.l0] at H
        by_cases c4 : x5_1 < (l0.length : Int)
        · rw [if_pos c4] at H
          have c4b0 : decide (x5_1 < (l0.length : Int)) = true := decide_eq_true c4
          clear c4
          by_cases c5 : 0 ≤ x5_1
          · rw [if_pos c5] at H
            have c5b0 : decide (0 ≤ x5_1) = true := decide_eq_true c5
            clear c5
            by_cases c6 : x5_1 < (l1.length : Int)
            · rw [if_pos c6] at H
              have c6b0 : decide (x5_1 < (l1.length : Int)) = true := decide_eq_true c6
              clear c6
              by_cases c7 : (rd l0 x5_1) = (rd l1 x5_1)
              · rw [if_pos c7] at H
                have c7b0 : ((rd l0 x5_1) == (rd l1 x5_1)) = true := beq_iff_eq.mpr c7
                have c7b1 : ((rd l0 x5_1) != (rd l1 x5_1)) = false := bne_eq_false_iff_eq.mpr c7
                clear c7
                have H' := Aside0.mk H
                clear H
                have p101 : 0 ≤ (x5_1 : Int) := of_decide_eq_true (by first | (with_reducible assumption) | assumption)
                have q101 : x5_1 < (l0.length : Int) := of_decide_eq_true (by first | (with_reducible assumption) | assumption)
                obtain ⟨ad101, e101, hx101_0⟩ := Kd.at_int HR0.out x5_1 p101 q101
                cases e101
                replace p101 := eq_true p101
                replace q101 := eq_true q101
                have p102 : 0 ≤ (x5_1 : Int) := of_decide_eq_true (by first | (with_reducible assumption) | assumption)
                have q102 : x5_1 < (l1.length : Int) := of_decide_eq_true (by first | (with_reducible assumption) | assumption)
                obtain ⟨ad102, e102, hx102_0⟩ := Kd.at_int HR1.out x5_1 p102 q102
                cases e102
                replace p102 := eq_true p102
                replace q102 := eq_true q102
                go_wp2
                repeat (go_quiet (fail); try go_wp2)
                go_roundg k1
                case measure => have := HK1.out; omega
                case rel => exact ⟨(wrap64 (x5_1 + 1)), (by first | rfl | (simp; done) | (simp [*]; done)), H', ⟨by have := HK1.out; omega⟩, by repeat (first | exact Drawn0.refl _ | apply Drawn0.step)⟩
              · rw [if_neg c7] at H
                have c7b0 : ((rd l0 x5_1) == (rd l1 x5_1)) = false := beq_eq_false_iff_ne.mpr c7
                have c7b1 : ((rd l0 x5_1) != (rd l1 x5_1)) = true := bne_iff_ne.mpr c7
                obtain rfl := Option.some.inj H
                have p101 : 0 ≤ (x5_1 : Int) := of_decide_eq_true (by first | (with_reducible assumption) | assumption)
                have q101 : x5_1 < (l0.length : Int) := of_decide_eq_true (by first | (with_reducible assumption) | assumption)
                obtain ⟨ad101, e101, hx101_0⟩ := Kd.at_int HR0.out x5_1 p101 q101
                cases e101
                replace p101 := eq_true p101
                replace q101 := eq_true q101
                have p102 : 0 ≤ (x5_1 : Int) := of_decide_eq_true (by first | (with_reducible assumption) | assumption)
                have q102 : x5_1 < (l1.length : Int) := of_decide_eq_true (by first | (with_reducible assumption) | assumption)
                obtain ⟨ad102, e102, hx102_0⟩ := Kd.at_int HR1.out x5_1 p102 q102
                cases e102
                replace p102 := eq_true p102
                replace q102 := eq_true q102
                go_wp2
                repeat (go_quiet (fail); try go_wp2)
                go_ret
                exact ⟨by first | rfl | (simp; done) | (simp [*]; done), by repeat (first | exact Drawn0.refl _ | apply Drawn0.step)⟩
            · rw [if_neg c6] at H
              exact absurd H (by simp)
          · rw [if_neg c5] at H
            exact absurd H (by simp)
        · rw [if_neg c4] at H
          have c4b0 : decide (x5_1 < (l0.length : Int)) = false := decide_eq_false c4
          clear c4
          obtain rfl := Option.some.inj H
          go_wp2
          repeat (go_quiet (fail); try go_wp2)
          go_ret
          exact ⟨by first | rfl | (simp; done) | (simp [*]; done), by repeat (first | exact Drawn0.refl _ | apply Drawn0.step)⟩
  · rw [if_neg c3] at H
    have c3b0 : ((l0.length : Int) == (l1.length : Int)) = false := beq_eq_false_iff_ne.mpr c3
    have c3b1 : ((l0.length : Int) != (l1.length : Int)) = true := bne_iff_ne.mpr c3
    have c3b2 : (l0.length == l1.length) = false := by first | simpa using c3 | (simp at c3 ⊢; omega)
    obtain rfl := Option.some.inj H
    go_enter Try.func17, Try.ntmps17
    go_wp2
    repeat (go_quiet (fail); try go_wp2)
    go_ret
    exact ⟨by first | rfl | (simp; done) | (simp [*]; done), by repeat (first | exact Drawn0.refl _ | apply Drawn0.step)⟩

/-! ### interregnumref01_Fill: function 18 -/
-- FN rounds=0 making=1
-- IMPORT Derived.Laws.CopyOwn
-- IMPORT Derived.Laws.MakeOwn
def interregnumref01_Fill.f (l0 : List Int) : Option (List Int) := some (l0.take 64 ++ List.replicate (64 - l0.length) 0)
theorem fill_cells (n : Nat) : madeCells #[Value.int .u8 0] n = ((List.replicate n (0 : Int)).map (Value.int .u8)).toArray := by
  apply Array.ext
  · simp [madeCells]
  · intro i h1 h2
    simp [madeCells, Nat.mod_one]
theorem fill_copy {w : World} {A : Option Addr} {n : Nat} {l : List Int} (h : Kd.C (Kd.int .u8) w A n l) (hp : 0 < (l.take 64).length) : ∃ ad, A = some ad ∧ ∀ (j : Nat) v, ((l.take 64).map (Value.int .u8))[j]? = some v → w.cell? (ad.add j) = some v := by
  obtain ⟨hl, _, h⟩ := Kd.reads_of_C (d := (0 : Int)) h
  obtain ⟨ad, he, hc⟩ := h (by rw [List.length_take] at hp; omega)
  refine ⟨ad, he, fun j v hv => ?_⟩
  rw [List.getElem?_map, List.getElem?_take] at hv
  split at hv
  · cases hj : l[j]? with
    | none => rw [hj] at hv; cases hv
    | some x =>
      rw [hj] at hv
      injection hv with hv
      rw [← hv]
      have hjl : j < l.length := (List.getElem?_eq_some_iff.1 hj).1
      have := hc j (by omega)
      rw [this, List.getD_eq_getElem?_getD, hj]
      rfl
  · cases hv
theorem fill_splice (l : List Int) : splice ((List.replicate 64 (0 : Int)).map (Value.int .u8)) 0 ((l.take 64).map (Value.int .u8)) = (l.take 64 ++ List.replicate (64 - l.length) 0).map (Value.int .u8) := by
  unfold splice
  rw [List.take_zero, List.nil_append, Nat.zero_add, List.map_append, List.length_map, List.length_take, List.map_replicate, List.drop_replicate, List.map_replicate, show 64 - min 64 l.length = 64 - l.length by omega]
set_option maxHeartbeats 8000000 in
set_option maxRecDepth 100000 in
theorem interregnumref01_Fill.calls (A0 : Option Addr) (c0 : Nat) (l0 : List Int) (r : List Int) (w : World) (hr0 : Kd.C (Kd.int .u8) w A0 l0.length l0) (hc0 : l0.length ≤ c0) (h : interregnumref01_Fill.f l0 = some r) :
    Calls Try.prog 18 #[.slice A0 l0.length c0] w fun e w' => ∃ v0_ : Value, e = .returned (v0_) ∧ Kd.R (Kd.int .u8) 5 w' w.heap.size (fun _ => True) v0_ r ∧ Below w.heap.size w w' := by
  obtain rfl := Option.some.inj h
  have HR := Aside0.mk hr0
  obtain ⟨Z, hZ, hmk⟩ : ∃ Z : List Value, Z = (List.replicate 64 (0 : Int)).map (Value.int .u8) ∧ (Instr.makeSlice 22 (.int .i64 64) (.int .i64 64)).run Try.prog w = .ok (.slice (some ⟨w.heap.size, 0, none⟩) 64 64) (w.alloc (.cells Z.toArray 5)) := by
    obtain ⟨i, hi, hz, hs, hb⟩ := info_parts (show (Try.prog.info? 5).map (fun i => (i.zero, i.size, i.bytes)) = some (some (.int .u8 0), 1, 1) by kernel_rfl)
    have hm := run_make (P := Try.prog) w 22 5 i (.int .u8 0) Try.underlying22 hi hz .i64 .i64 64 64 (by decide) (by decide) (by rw [hb]; decide) (by decide)
    refine ⟨_, rfl, ?_⟩
    rw [hm, hs]
    exact congrArg (fun c => Result.ok (Value.slice (some ⟨w.heap.size, 0, none⟩) 64 64) (w.alloc (.cells c 5))) (fill_cells 64)
  have HZ := Aside0.mk hZ
  have HZL := Aside0.mk (show Z.length = 64 by rw [hZ]; simp)
  obtain ⟨cs, hcs⟩ : ∃ cs, cs = (l0.take 64).map (Value.int .u8) := ⟨_, rfl⟩
  have HCS := Aside0.mk hcs
  clear h hr0 hZ hcs
  go_enter Try.func18, Try.ntmps18
  go_wp2_with (((with_reducible refine gate_builtin (b := .copy) (xs := #[.tmp 5, .tmp 6]) rfl ?_); refine wpList_copy_splice rfl (.tmp 5) (.tmp 6) 22 22 rfl 5 Try.underlying22 (by kernel_rfl) (some ⟨w.heap.size, 0, none⟩) A0 64 64 l0.length c0 rfl rfl w.heap.size 0 Z 5 (heap_alloc_new w _) cs (by rw [HCS.out, List.length_map, List.length_take]; show min 64 _ = min _ 64; omega) (fun hp => ⟨rfl, HCS.out ▸ fill_copy (Kd.C_alloc HR.out _) (by have := HCS.out; subst this; simpa using hp)⟩) (by rw [HCS.out, List.length_map, List.length_take, HZL.out]; omega) (by rw [HCS.out]; intro v hv; obtain ⟨x, _, rfl⟩ := List.mem_map.1 hv; rfl) w.heap.size w (below_alloc (Below.refl _ _) _) (Nat.le_refl _) ?_; intro w7 hx7 hb7; have HX7 := Aside0.mk hx7; have HB7 := Aside0.mk hb7; clear hx7 hb7))
  go_ret
  refine ⟨.slice (some ⟨w.heap.size, 0, none⟩) 64 64, rfl, ?_, HB7.out⟩
  obtain ⟨X, hX⟩ : ∃ X : List Int, X = l0.take 64 ++ List.replicate (64 - l0.length) 0 := ⟨_, rfl⟩
  have hl : X.length = 64 := by rw [hX, List.length_append, List.length_take, List.length_replicate]; omega
  have hh : w7.heap[w.heap.size]? = some (.cells (X.map (Value.int .u8)).toArray 5 (0, 0)) := by
    have := HX7.out
    rw [HCS.out, HZ.out, fill_splice] at this
    rw [hX]
    exact this
  rw [← hX]
  refine Kd.R_of_own (xs := X) ?_ (fun _ _ => trivial)
  rw [hl]
  refine ⟨by simp [encs, hl], .inr ⟨w.heap.size, 64, _, rfl, Nat.le_refl _, hh, Nat.le_refl _, by unfold maxLen; omega, by simp [hl], ?_⟩⟩
  rw [List.take_of_length_le (by simp [hl])]
  rfl


end Go.Proofs.Ytjaibpphlbddoaa.PRegionClean
