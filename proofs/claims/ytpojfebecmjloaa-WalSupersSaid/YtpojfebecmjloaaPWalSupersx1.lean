-- Lean text by a program of this repo (wip/tools/printx.py), out of Lean's own print of the translation
import Derived.Test.YtpojfebecmjloaaHelp
import Derived.Lib.LazyBuf
import Derived.Deep.AppendLies
import Derived.Deep.RegionHeld3
import Derived.Laws.CopyOwn
import Derived.Deep.MidRow
import Derived.Test.YtpojfebecmjloaaMid
import Derived.Test.YtpojfebecmjloaaDisk
import Derived.Test.YtpojfebecmjloaaOpq
import Derived.Test.YtpojfebecmjloaaPWalSupersx0
namespace Go.Proofs.Ytpojfebecmjloaa.PWalSupers
open Go.RowKit Go.Proofs.YtpojfebecmjloaaW.PrintWords Go.Proofs.YtpojfebecmjloaaW.PrintLast Go.Proofs.YtpojfebecmjloaaW.PrintMore
attribute [local go_sem] max2_int min2_int max_two min_two max_three min_three max_four min_four   -- for this text's walks alone
set_option linter.unusedVariables false
set_option linter.unusedSimpArgs false

-- IMPORT Derived.Test.YtpojfebecmjloaaOpq
abbrev ts71 : List Nat := [71, 73, 75]
-- IMPORT Derived.Test.YtpojfebecmjloaaDisk
-- IMPORT Derived.Test.YtpojfebecmjloaaMid
-- IMPORT Derived.Deep.MidRow
def IsS71 (w0 W : World) (g : Nat) (s : Disk.DiskM) : Prop :=
  ∃ (gl : Nat) (vo : Value), W.heap[g]? = some (.cells #[.slice (some ⟨gl, 0, none⟩) (s.lasts.length / 64) (s.lasts.length / 64), vo, .int .i64 s.fuse, .bool s.down] 71 (0, 0)) ∧ w0.heap.size ≤ g ∧ w0.heap.size ≤ gl ∧
    W.heap[gl]? = some (.cells (Disk.bytes s.lasts).toArray 73 (0, 0)) ∧ W.ownsRow w0.heap.size 75 65 vo s.loose.length (Disk.flat s.loose) ∧ Disk.Ok s
theorem IsS71.blk {w0 W : World} {g : Nat} {s : Disk.DiskM} (h : IsS71 w0 W g s) : ∃ cells, W.heap[g]? = some (.cells cells 71 (0, 0)) := by
  obtain ⟨gl, vo, hg, _⟩ := h
  exact ⟨_, hg⟩
theorem IsS71.ge {w0 W : World} {g : Nat} {s : Disk.DiskM} (h : IsS71 w0 W g s) : w0.heap.size ≤ g := by
  obtain ⟨gl, vo, _, h, _⟩ := h
  exact h
theorem IsS71.frame {w0 W W1 : World} {g : Nat} {s : Disk.DiskM} (h : IsS71 w0 W g s)
    (hk : ∀ k, w0.heap.size ≤ k → k < W.heap.size → Go.Proofs.Ytpojfebecmjloaa.Opq.Priv ts71 W.heap[k]? → W1.heap[k]? = W.heap[k]?) : IsS71 w0 W1 g s := by
  obtain ⟨gl, vo, hg, h1, h2, hl, ⟨ho1, ho2⟩, hok⟩ := h
  refine ⟨gl, vo, (hk g h1 (blk_lt hg) (by rw [hg]; show _ ∈ ts71; decide)).trans hg, h1, h2, (hk gl h2 (blk_lt hl) (by rw [hl]; show _ ∈ ts71; decide)).trans hl, ⟨ho1, ?_⟩, hok⟩
  rcases ho2 with ho2 | ⟨g2, cap, cur, hv, hb, hh, r⟩
  · exact .inl ho2
  · exact .inr ⟨g2, cap, cur, hv, hb, (hk g2 hb (blk_lt hh) (by rw [hh]; show _ ∈ ts71; decide)).trans hh, r⟩
open Go.Proofs.Ytpojfebecmjloaa.Opq in
theorem disk_turned {w0 w W : World} {g gl : Nat} {vo : Value} {s s' : Disk.DiskM} (hI : w.heap[g]? = some (.cells #[.slice (some ⟨gl, 0, none⟩) (s.lasts.length / 64) (s.lasts.length / 64), vo, .int .i64 s.fuse, .bool s.down] 71 (0, 0)) ∧ w0.heap.size ≤ g ∧ w0.heap.size ≤ gl ∧
    w.heap[gl]? = some (.cells (Disk.bytes s.lasts).toArray 73 (0, 0)) ∧ w.ownsRow w0.heap.size 75 65 vo s.loose.length (Disk.flat s.loose) ∧ Disk.Ok s)
    (hs : s'.lasts = s.lasts ∧ s'.loose = s.loose) (hg : W.heap[g]? = some (.cells #[.slice (some ⟨gl, 0, none⟩) (s.lasts.length / 64) (s.lasts.length / 64), vo, .int .i64 s'.fuse, .bool s'.down] 71 (0, 0)))
    (hk : ∀ k, k < w.heap.size → k ≠ g → W.heap[k]? = w.heap[k]?) (hz : w.heap.size ≤ W.heap.size) : IsS71 w0 W g s' ∧ KeepO ts71 w0.heap.size w W := by
  obtain ⟨h0, h1, h2, h3, h4, h5⟩ := hI
  have hpr : Priv ts71 w.heap[g]? := by rw [h0]; show _ ∈ ts71; decide
  refine ⟨⟨gl, vo, by rw [hs.1]; exact hg, h1, h2, ?_, ?_, ⟨by rw [hs.1]; exact h5.size, by rw [hs.2]; unfold Disk.len; rw [hs.1]; exact h5.loose⟩⟩, hz, fun k hk' hp => hk k hk' (fun e => ?_)⟩
  · rw [hs.1]
    refine (hk gl (blk_lt h3) (fun e => ?_)).trans h3
    subst e
    rw [h0] at h3
    injection h3 with h3
    injection h3 with _ h3
    exact absurd h3 (by decide)
  · rw [hs.2]
    obtain ⟨ho1, ho2⟩ := h4
    refine ⟨ho1, ?_⟩
    rcases ho2 with ho2 | ⟨g2, cap, cur, hv, hb, hh, r⟩
    · exact .inl ho2
    · refine .inr ⟨g2, cap, cur, hv, hb, (hk g2 (blk_lt hh) (fun e => ?_)).trans hh, r⟩
      subst e
      rw [h0] at hh
      injection hh with hh
      injection hh with _ hh
      exact absurd hh (by decide)
  · subst e
    rcases hp with hp | hp
    · omega
    · exact hp hpr
/-- A loose write's cells, in whatever world the disk's blocks still are. -/
theorem disk_loose {w0 w : World} {vo : Value} {s : Disk.DiskM} (ho : w.ownsRow w0.heap.size 75 65 vo s.loose.length (Disk.flat s.loose)) (hok : Disk.Ok s) (hn : 0 < s.loose.length) :
    ∃ go cap cur, vo = .slice (some ⟨go, 0, none⟩) s.loose.length cap ∧ w0.heap.size ≤ go ∧ w.heap[go]? = some (.cells cur 75 (0, 0)) ∧ s.loose.length ≤ cap ∧
      ∀ (k : Nat) (hk : k < s.loose.length) j v, (Value.int .i64 (s.loose[k]).1 :: Disk.bytes (s.loose[k]).2)[j]? = some v → cur.toList[k * 65 + j]? = some v := by
  obtain ⟨h1, h2⟩ := ho
  rcases h2 with ⟨_, h2⟩ | ⟨g2, cap, cur, hv, hb, hh, hc, _, _, ht⟩
  · omega
  · refine ⟨g2, cap, cur, hv, hb, hh, hc, fun k hk j v hj => ?_⟩
    have h3 := Mid.flat_get (fun p hp => (hok.loose p hp).2.2) hk j v hj
    rw [← ht, List.getElem?_take] at h3
    split at h3
    · exact h3
    · cases h3
theorem disk_loose_nil {w0 w : World} {vo : Value} {s : Disk.DiskM} (ho : w.ownsRow w0.heap.size 75 65 vo s.loose.length (Disk.flat s.loose)) : ∃ A c, vo = .slice A s.loose.length c ∧ s.loose.length ≤ 9223372036854775807 := by
  obtain ⟨h1, h2⟩ := ho
  rcases h2 with ⟨hv, h2⟩ | ⟨g2, cap, cur, hv, hb, hh, hc, hm, _, ht⟩
  · exact ⟨none, 0, by rw [h2]; exact hv, by omega⟩
  · exact ⟨_, _, hv, by unfold maxLen at hm; omega⟩
theorem own_below {w w' : World} {base e size n : Nat} {v : Value} {xs : List Value} (h : w.ownsRow base e size v n xs) (hb : Below w.heap.size w w') : w'.ownsRow base e size v n xs := by
  obtain ⟨h1, h2⟩ := h
  refine ⟨h1, ?_⟩
  rcases h2 with h2 | ⟨g2, cap, cur, hv, hB, hh, r⟩
  · exact .inl h2
  · exact .inr ⟨g2, cap, cur, hv, hB, (hb.block g2 (blk_lt hh)).trans hh, r⟩
theorem own_typed {w : World} {base e size n : Nat} {v : Value} {xs : List Value} (h : w.ownsRow base e size v n xs) : ∀ k, v.ownBlock = some k → base ≤ k ∧ ∃ cells, w.heap[k]? = some (.cells cells e (0, 0)) := by
  obtain ⟨h1, h2⟩ := h
  intro k hk
  rcases h2 with ⟨rfl, _⟩ | ⟨g2, cap, cur, rfl, hB, hh, r⟩
  · simp [Value.ownBlock] at hk
  · simp [Value.ownBlock] at hk
    subst hk
    exact ⟨hB, _, hh⟩
theorem own_far {w : World} {base e size n : Nat} {v : Value} {xs : List Value} {p : Addr} {u : Value} (h : w.ownsRow base e size v n xs) (hp : v.ownBlock ≠ some p.block) : (w.setCell p u).ownsRow base e size v n xs := by
  obtain ⟨h1, h2⟩ := h
  refine ⟨h1, ?_⟩
  rcases h2 with h2 | ⟨g2, cap, cur, rfl, hB, hh, r⟩
  · exact .inl h2
  · exact .inr ⟨g2, cap, cur, rfl, hB, (Below.heap_setCell _ _ _ _ (fun e => hp (by rw [← e]; simp [Value.ownBlock]))).trans hh, r⟩
theorem disk_ne {w : World} {g gl : Nat} {a b : Array Value} (h0 : w.heap[g]? = some (.cells a 71 (0, 0))) (h3 : w.heap[gl]? = some (.cells b 73 (0, 0))) : g ≠ gl := fun e => by
  subst e
  rw [h0] at h3
  injection h3 with hc
  injection hc with _ hc
  exact absurd hc (by decide)
open Go.Proofs.Ytpojfebecmjloaa.Mid in
theorem disk_step {w : World} {g gl gb n m : Nat} {vo vf vd : Value} {L b : List Int} {bb : List Value}
    (hg : w.heap[g]? = some (.cells #[.slice (some ⟨gl, 0, none⟩) n n, vo, vf, vd] 71 (0, 0))) (hL : w.heap[gl]? = some (.cells (Disk.bytes L).toArray 73 (0, 0)))
    (hx : w.heap[gb]? = some (.cells (Value.int .i64 (m : Int) :: Disk.bytes b).toArray 75 (0, 0))) (hbb : bb = Disk.bytes b) (ho : m * 64 + 64 ≤ L.length) (hne : g ≠ gl) (hnb : gb ≠ gl) (hbl : bb.length = 64) :
    (w.cell? ⟨g, 0, none⟩ = some (.slice (some ⟨gl, 0, none⟩) n n) ∧ w.cell? ⟨gb, 0, none⟩ = some (.int .i64 (m : Int)) ∧ w.rangeAt gb 1 bb ∧ w.there gl (m * 64) bb.length) ∧
    ((w.setCells gl (m * 64) bb).cell? ⟨g, 0, none⟩ = some (.slice (some ⟨gl, 0, none⟩) n n) ∧ (w.setCells gl (m * 64) bb).cell? ⟨gb, 0, none⟩ = some (.int .i64 (m : Int)) ∧ (w.setCells gl (m * 64) bb).rangeAt gb 1 bb ∧ (w.setCells gl (m * 64) bb).there gl (m * 64) bb.length) := by
  have hr : w.rangeAt gb 1 bb := range_of_block hx (fun j v hv => by rw [hbb] at hv; rw [show 1 + j = j + 1 by omega]; simpa using hv)
  have ht : w.there gl (m * 64) bb.length := there_of_block hL (by rw [hbl]; simpa [Disk.bytes_length] using ho)
  have hg2 : (w.setCells gl (m * 64) bb).heap[g]? = _ := (setCells_far bb (m * 64) g hne).trans hg
  have hx2 : (w.setCells gl (m * 64) bb).heap[gb]? = _ := (setCells_far bb (m * 64) gb hnb).trans hx
  exact ⟨⟨(blk_cell hg 0).trans rfl, (blk_cell hx 0).trans rfl, hr, ht⟩, (blk_cell hg2 0).trans rfl, (blk_cell hx2 0).trans rfl, World.rangeAt_setCells_apart hr _ _ _ (.inl hnb), World.there_setCells ht _ _ _⟩
theorem grown_below {w1 w w' : World} {r : Option Nat} (h : w1.grownBy w r) (hb : Below w.heap.size w w') : w1.grownBy w' r :=
  ⟨hb.os.trans h.os, hb.tape.trans h.tape, hb.output.trans h.output, Nat.le_trans h.size hb.size, fun k hk hne => (hb.block k (Nat.lt_of_lt_of_le hk h.size)).trans (h.block k hk hne)⟩
theorem grown_row {w1 w w' : World} {r : Option Nat} (h : w1.grownBy w r) (hb : w.grownBy w' r) : w1.grownBy w' r :=
  ⟨hb.os.trans h.os, hb.tape.trans h.tape, hb.output.trans h.output, Nat.le_trans h.size hb.size, fun k hk hne => (hb.block k (Nat.lt_of_lt_of_le hk h.size) hne).trans (h.block k hk hne)⟩
theorem put_world {w : World} {gl off : Nat} {l b : List Int} {t : TypeId} (hb : w.heap[gl]? = some (.cells (Disk.bytes l).toArray t (0, 0))) (h : off + b.length ≤ l.length) :
    (w.setCells gl off (Disk.bytes b)).heap[gl]? = some (.cells (Disk.bytes (Disk.put l off b)).toArray t (0, 0)) := by
  obtain ⟨cur', hb', _, he⟩ := setCells_row (Disk.bytes b) off w (Disk.bytes l).toArray hb (by simpa [Disk.bytes_length] using h)
  rw [hb']
  have : cur' = (Disk.bytes (Disk.put l off b)).toArray := by
    apply Array.toList_inj.1
    rw [he]
    simp [Disk.put, Disk.bytes]
  rw [this]
theorem put_length {l b : List Int} {off : Nat} (h : off + b.length ≤ l.length) : (Disk.put l off b).length = l.length := by
  unfold Disk.put
  simp
  omega
theorem settle_snoc (r : List (Int × List Int)) (p : Int × List Int) (l : List Int) : Disk.settle (r ++ [p]) l = Disk.put (Disk.settle r l) (p.1.toNat * 64) p.2 := by
  induction r generalizing l with
  | nil => rfl
  | cons q r ih => exact ih _
theorem settle_length {r : List (Int × List Int)} {l : List Int} (h : ∀ p ∈ r, p.1.toNat * 64 + 64 ≤ l.length ∧ p.2.length = 64) : (Disk.settle r l).length = l.length := by
  induction r generalizing l with
  | nil => rfl
  | cons p r ih =>
    obtain ⟨h1, h2⟩ := h p List.mem_cons_self
    have h3 := put_length (l := l) (b := p.2) (off := p.1.toNat * 64) (by omega)
    unfold Disk.settle
    rw [ih (fun q hq => by rw [h3]; exact h q (List.mem_cons_of_mem _ hq)), h3]
open Go.Proofs.Ytpojfebecmjloaa.Opq in
theorem disk_landed {w0 w1 wr W : World} {g gl : Nat} {vo : Value} {s : Disk.DiskM} {L : List Int} {f : Int} {dn : Bool}
    (hI : w1.heap[g]? = some (.cells #[.slice (some ⟨gl, 0, none⟩) (s.lasts.length / 64) (s.lasts.length / 64), vo, .int .i64 s.fuse, .bool s.down] 71 (0, 0)) ∧ w0.heap.size ≤ g ∧ w0.heap.size ≤ gl ∧
    w1.heap[gl]? = some (.cells (Disk.bytes s.lasts).toArray 73 (0, 0)) ∧ w1.ownsRow w0.heap.size 75 65 vo s.loose.length (Disk.flat s.loose) ∧ Disk.Ok s)
    (hB : Below w0.heap.size w0 w1) (hgr : w1.grownBy wr (some gl)) (hL : wr.heap[gl]? = some (.cells (Disk.bytes L).toArray 73 (0, 0))) (hl : L.length = s.lasts.length)
    (hW : W.heap[g]? = some (.cells #[.slice (some ⟨gl, 0, none⟩) (s.lasts.length / 64) (s.lasts.length / 64), .slice none 0 0, .int .i64 f, .bool dn] 71 (0, 0)))
    (hk : ∀ k, k ≠ g → W.heap[k]? = wr.heap[k]?) (hz : W.heap.size = wr.heap.size) (hos : W.os = wr.os ∧ W.tape = wr.tape ∧ W.output = wr.output) :
    IsS71 w0 W g ⟨L, [], f, dn⟩ ∧ Below w0.heap.size w0 W ∧ KeepO ts71 w0.heap.size w1 W := by
  obtain ⟨h0, h1, h2, h3, h4, h5⟩ := hI
  have hgl : gl ≠ g := fun e => by
    subst e
    rw [h0] at h3
    injection h3 with hc
    injection hc with _ hc
    exact absurd hc (by decide)
  refine ⟨⟨gl, .slice none 0 0, ?_, h1, h2, ?_, ⟨rfl, .inl ⟨rfl, rfl⟩⟩, ?_⟩, ?_, ?_⟩
  · rw [hl]; exact hW
  · exact (hk gl hgl).trans hL
  · refine ⟨?_, fun p hp => by cases hp⟩
    obtain ⟨n, hn, hs⟩ := h5.size
    exact ⟨n, hn, hl.trans hs⟩
  · refine ⟨hos.1.trans (hgr.os.trans hB.os), hos.2.1.trans (hgr.tape.trans hB.tape), hos.2.2.trans (hgr.output.trans hB.output), ?_, fun k hkk => ?_⟩
    · rw [hz]; exact Nat.le_trans hB.size hgr.size
    · exact (hk k (by omega)).trans ((hgr.block k (Nat.lt_of_lt_of_le hkk hB.size) (fun e => by injection e with e; omega)).trans (hB.block k hkk))
  · refine ⟨by rw [hz]; exact hgr.size, fun k hkk hp => ?_⟩
    have hpg : Priv ts71 w1.heap[g]? := by rw [h0]; show _ ∈ ts71; decide
    have hpl : Priv ts71 w1.heap[gl]? := by rw [h3]; show _ ∈ ts71; decide
    have n1 : k ≠ g := fun e => by
      rcases hp with hp | hp
      · omega
      · exact hp (e ▸ hpg)
    have n2 : k ≠ gl := fun e => by
      rcases hp with hp | hp
      · omega
      · exact hp (e ▸ hpl)
    exact (hk k n1).trans (hgr.block k hkk (fun e => by injection e with e; exact n2 e))
theorem IsS71.lt {w0 W : World} {g : Nat} {s : Disk.DiskM} (h : IsS71 w0 W g s) : g < W.heap.size := by
  obtain ⟨_, hb⟩ := h.blk
  exact blk_lt hb
theorem IsS71.fresh {w0 W : World} {g : Nat} {s : Disk.DiskM} (h : IsS71 w0 W g s) : ∀ k, W.heap.size ≤ k → k ≠ g := by
  obtain ⟨_, hb⟩ := h.blk
  exact Kd.freshB hb
theorem IsS71.grown {w0 W : World} {g : Nat} {s : Disk.DiskM} {W1 : World} {row : Option Nat} (h : IsS71 w0 W g s) (hw : W.grownBy W1 row) (hne : Go.Proofs.Ytpojfebecmjloaa.Opq.NPr ts71 W row) : IsS71 w0 W1 g s := h.frame (Go.Proofs.Ytpojfebecmjloaa.Opq.frame_grown hw hne)
theorem IsS71.below {w0 W : World} {g : Nat} {s : Disk.DiskM} {W1 : World} (h : IsS71 w0 W g s) (hw : Below W.heap.size W W1) : IsS71 w0 W1 g s := h.frame (fun k _ hk _ => hw.block k hk)
theorem IsS71.alloc {w0 W : World} {g : Nat} {s : Disk.DiskM} (h : IsS71 w0 W g s) (o : Obj) : IsS71 w0 (W.alloc o) g s := h.below (below_alloc (Below.refl _ _) o)
theorem IsS71.drewN {w0 W : World} {g : Nat} {s : Disk.DiskM} (h : IsS71 w0 W g s) (m : Nat) : IsS71 w0 (W.drewN m) g s := h.frame (fun _ _ _ _ => rfl)
theorem IsS71.drew {w0 W : World} {g : Nat} {s : Disk.DiskM} (h : IsS71 w0 W g s) : IsS71 w0 W.drew g s := h.frame (fun _ _ _ _ => rfl)
theorem IsS71.at_ {w0 W : World} {g : Nat} {s : Disk.DiskM} {w' : World} {m : Nat} (hq : W.drewN m = w') (h : IsS71 w0 W g s) : IsS71 w0 w' g s := by subst hq; exact IsS71.drewN h m
theorem IsS71.far {w0 W : World} {g : Nat} {s : Disk.DiskM} {p : Addr} (h : IsS71 w0 W g s) (hne : Go.Proofs.Ytpojfebecmjloaa.Opq.NP ts71 W p.block) (u : Value) : IsS71 w0 (W.setCell p u) g s := h.frame (Go.Proofs.Ytpojfebecmjloaa.Opq.frame_far hne u)
theorem IsS71.apart {w0 W : World} {g : Nat} {s : Disk.DiskM} {α : Type} {d : Kd α} {e : Nat} {base : Nat} {ok : Nat → Prop} {v : Value} {xs : List α} (h : IsS71 w0 W g s) (ho : d.R e W base ok v xs) (ht : ∀ q, q ∈ e :: d.E → q ≠ 71) : d.R e W base (fun k => ok k ∧ k ≠ g) v xs := by
  obtain ⟨_, hb⟩ := h.blk
  exact Kd.R_types ho hb ht
theorem IsS71.own_ne {w0 W : World} {g : Nat} {s : Disk.DiskM} {α : Type} {d : Kd α} {e : Nat} {base : Nat} {ok : Nat → Prop} {v : Value} {xs : List α} (h : IsS71 w0 W g s) (ho : d.R e W base ok v xs) (ht : e ≠ 71) : some g ≠ v.ownBlock := by
  obtain ⟨_, hb⟩ := h.blk
  exact Kd.R_ne ho hb ht
theorem IsS71.apartQ {w0 W : World} {g : Nat} {s : Disk.DiskM} {α : Type} {d : Kd α} {e : Nat} {base : Nat} {ok : Nat → Prop} {v : Value} {xs : List α} (h : IsS71 w0 W g s) (ho : d.Q e W base ok v xs) (ht : ∀ q, q ∈ e :: d.E → q ≠ 71) : d.Q e W base (fun k => ok k ∧ k ≠ g) v xs := by
  obtain ⟨_, hb⟩ := h.blk
  exact Kd.Q_types ho hb ht
theorem IsS71.own_neQ {w0 W : World} {g : Nat} {s : Disk.DiskM} {α : Type} {d : Kd α} {e : Nat} {base : Nat} {ok : Nat → Prop} {v : Value} {xs : List α} (h : IsS71 w0 W g s) (ho : d.Q e W base ok v xs) (ht : e ≠ 71) : some g ≠ v.ownBlock := by
  obtain ⟨_, hb⟩ := h.blk
  exact Kd.Q_ne ho hb ht
theorem IsS71.apartS {w0 W : World} {g : Nat} {s : Disk.DiskM} {α : Type} {d : Kd α} {e : Nat} {base : Nat} {ok : Nat → Prop} {v : Value} {xs : List α} (h : IsS71 w0 W g s) (ho : d.S e W base ok v xs) (ht : ∀ q, q ∈ e :: d.E → q ≠ 71) : d.S e W base (fun k => ok k ∧ k ≠ g) v xs := by
  obtain ⟨_, hb⟩ := h.blk
  exact Kd.S_types ho hb ht
theorem IsS71.own_neS {w0 W : World} {g : Nat} {s : Disk.DiskM} {α : Type} {d : Kd α} {e : Nat} {base : Nat} {ok : Nat → Prop} {v : Value} {xs : List α} (h : IsS71 w0 W g s) (ho : d.S e W base ok v xs) (ht : e ≠ 71) : some g ≠ v.ownBlock := by
  obtain ⟨_, hb⟩ := h.blk
  exact Kd.S_ne ho hb ht
theorem IsS71.own_neN {w0 W : World} {g : Nat} {s : Disk.DiskM} {α : Type} {d : Kd α} {e : Nat} {base : Nat} {ok : Nat → Prop} {v : Value} {xs : List α} (h : IsS71 w0 W g s) (ho : Kd.N d e W base ok v xs) (ht : e ≠ 71) : some g ≠ v.ownBlock := by
  obtain ⟨_, hb⟩ := h.blk
  exact Kd.N_ne ho hb ht
theorem IsS71.ne_blk {w0 W : World} {g : Nat} {s : Disk.DiskM} {a : Nat} {cs : Array Value} {t : TypeId} {fr : Nat × Nat} (h : IsS71 w0 W g s) (hb2 : W.heap[a]? = some (.cells cs t fr)) (ht : t ≠ 71) : g ≠ a := by
  obtain ⟨_, hb⟩ := h.blk
  rintro rfl
  rw [hb] at hb2
  injection hb2 with hb2
  injection hb2 with _ ht2
  exact ht ht2.symm

/-! ### sector_New: function 13 -/
-- FN rounds=0 making=1
def sector_New.f (a0 : Int) : Option (Disk.DiskM) := some (Disk.new a0)
theorem new_cells (n : Nat) : madeCells (Array.replicate 64 (.int .u8 0)) (n * 64) = (Disk.bytes (List.replicate (n * 64) 0)).toArray := by
  apply Array.ext
  · simp [madeCells, Disk.bytes]
  · intro i h1 h2
    have hi : i % 64 < 64 := Nat.mod_lt _ (by decide)
    simp [madeCells, Disk.bytes, hi]
set_option maxRecDepth 100000 in
theorem new_make (w : World) (v : Int) (h0 : 0 ≤ v) (h1 : v ≤ 1024) : ∃ C : Array Value, C = (Disk.bytes (List.replicate (v.toNat * 64) 0)).toArray ∧
    (Instr.makeSlice 68 (.int .i64 v) (.int .i64 v)).run Try.prog w = .ok (.slice (some ⟨w.heap.size, 0, none⟩) v.toNat v.toNat) (w.alloc (.cells C 73)) := by
  have hi : (Try.prog.info? 73).map (fun i => (i.zero, i.size, i.bytes)) = some (some (.agg (Array.replicate 64 (.int .u8 0))), 64, 64) := by kernel_rfl
  cases he : Try.prog.info? 73 with
  | none => rw [he] at hi; cases hi
  | some i =>
    rw [he] at hi
    injection hi with hi
    injection hi with hz hi
    injection hi with hs hb
    have h := run_make (P := Try.prog) w 68 73 i _ Try.underlying68 he hz .i64 .i64 v v h0 (Int.le_refl _) (by rw [hb]; omega) (by omega)
    refine ⟨_, rfl, ?_⟩
    rw [h, hs]
    congr 3
    exact new_cells v.toNat
theorem new_is {w0 w : World} {a0 : Int} {m : Nat} {C : Array Value} (hs : w0.heap.size ≤ w.heap.size) (hm : (min (max a0 0) 1024).toNat = m) (h1 : m ≤ 1024) (hC : C = (Disk.bytes (List.replicate (m * 64) 0)).toArray) :
    IsS71 w0 ((w.alloc (.cells C 73)).alloc (.cells #[.slice (some ⟨w.heap.size, 0, none⟩) m m, .slice none 0 0, .int .i64 (-1), .bool false] 71)) (w.heap.size + 1) (Disk.new a0) := by
  subst hC
  have hl : (Disk.new a0).lasts = List.replicate (m * 64) 0 := by unfold Disk.new; rw [hm]
  have hl2 : (Disk.new a0).lasts.length = m * 64 := by rw [hl, List.length_replicate]
  have hd : m * 64 / 64 = m := Nat.mul_div_cancel m (by decide)
  refine ⟨w.heap.size, .slice none 0 0, ?_, by omega, hs, ?_, ⟨rfl, .inl ⟨rfl, rfl⟩⟩, ⟨m, h1, hl2⟩, fun p hp => by cases hp⟩
  · have := heap_alloc_new (w.alloc (.cells (Disk.bytes (List.replicate (m * 64) 0)).toArray 73)) (.cells #[.slice (some ⟨w.heap.size, 0, none⟩) m m, .slice none 0 0, .int .i64 (-1), .bool false] 71)
    rw [hl2, hd]
    rw [show (w.alloc (.cells (Disk.bytes (List.replicate (m * 64) 0)).toArray 73)).heap.size = w.heap.size + 1 from by simp] at this
    exact this
  · rw [hl]
    have h2 := heap_alloc_new w (.cells (Disk.bytes (List.replicate (m * 64) 0)).toArray 73)
    exact (below_alloc (Below.refl _ (w.alloc (.cells (Disk.bytes (List.replicate (m * 64) 0)).toArray 73))) _).block _ (by simp) |>.trans h2
set_option maxHeartbeats 4000000 in
open Go.Proofs.Ytpojfebecmjloaa.Opq in
theorem sector_New.calls (a0 : Int) (r : Disk.DiskM) (w0 w : World) (hB : Below w0.heap.size w0 w) (h : sector_New.f a0 = some r) :
    Calls Try.prog 13 #[.int .i64 a0] w fun e w' => ∃ g_ : Nat, e = .returned (.pointer (some ⟨g_, 0, none⟩)) ∧ IsS71 w0 w' g_ r ∧ Below w0.heap.size w0 w' ∧ Below w.heap.size w w' := by
  obtain rfl := Option.some.inj h
  have HB := Aside0.mk hB
  have HS := Aside0.mk hB.size
  clear h hB
  by_cases hr : 0 ≤ a0 ∧ a0 ≤ 1024
  · obtain ⟨C, hC, hmk2⟩ := new_make w a0 hr.1 hr.2
    have HC := Aside0.mk hC
    clear hC
    go_enter Try.func13, Try.ntmps13
    go_wp2
    go_ret
    exact ⟨_, rfl, new_is HS.out (by omega) (by omega) HC.out, below_weaken HB.out HS.out (below_alloc (below_alloc (Below.refl _ _) _) _), below_alloc (below_alloc (Below.refl _ _) _) _⟩
  · by_cases hn : a0 < 0
    · obtain ⟨C, hC, hmk⟩ := new_make w 0 (by decide) (by decide)
      have HC := Aside0.mk hC
      clear hC hr
      go_enter Try.func13, Try.ntmps13
      go_wp2
      go_ret
      exact ⟨_, rfl, new_is (m := 0) HS.out (by omega) (by omega) HC.out, below_weaken HB.out HS.out (below_alloc (below_alloc (Below.refl _ _) _) _), below_alloc (below_alloc (Below.refl _ _) _) _⟩
    · have hr2 : a0 > 1024 := by omega
      obtain ⟨C, hC, hmk⟩ := new_make w 1024 (by decide) (by decide)
      have HC := Aside0.mk hC
      clear hC hr hn
      go_enter Try.func13, Try.ntmps13
      go_wp2
      go_ret
      exact ⟨_, rfl, new_is (m := 1024) HS.out (by omega) (by omega) HC.out, below_weaken HB.out HS.out (below_alloc (below_alloc (Below.refl _ _) _) _), below_alloc (below_alloc (Below.refl _ _) _) _⟩


/-! ### sector_Disk_Len: function 22 -/
-- FN rounds=0 making=1
def sector_Disk_Len.f (s : Disk.DiskM)  : Option (Int × Disk.DiskM) := some (Disk.len s, s)
theorem sector_Disk_Len.calls0 (g : Nat) (s : Disk.DiskM) (w0 w : World) (hI : IsS71 w0 w g s) :
    Calls Try.prog 22 #[.pointer (some ⟨g, 0, none⟩)] w fun e w' => e = .returned (.int .i64 (Disk.len s)) ∧ w = w' := by
  obtain ⟨gl, vo, hg, _⟩ := hI
  have hcell : w.cell? ⟨g, 0, none⟩ = some (.slice (some ⟨gl, 0, none⟩) (s.lasts.length / 64) (s.lasts.length / 64)) := (blk_cell hg 0).trans rfl
  clear hg
  go_enter Try.func22, Try.ntmps22
  go_wp2
  go_ret
  exact ⟨rfl, rfl⟩
theorem sector_Disk_Len.calls (g : Nat) (s0_0 : Disk.DiskM)  (r1 : Int) (r2 : Disk.DiskM) (w0 w : World) (hI : IsS71 w0 w g s0_0) (hB : Below w0.heap.size w0 w) (h : sector_Disk_Len.f s0_0  = some (r1, r2)) :
    Calls Try.prog 22 #[.pointer (some ⟨g, 0, none⟩)] w fun e w' => e = .returned (.int .i64 r1) ∧ IsS71 w0 w' g r2 ∧ Below w0.heap.size w0 w' ∧ Go.Proofs.Ytpojfebecmjloaa.Opq.KeepO ts71 w0.heap.size w w' := by
  have h := Option.some.inj h
  injection h with h1 h2
  subst h1 h2
  refine (sector_Disk_Len.calls0 g s0_0 w0 w hI).mono ?_
  rintro e w' ⟨rfl, rfl⟩
  exact ⟨rfl, hI, hB, Go.Proofs.Ytpojfebecmjloaa.Opq.KeepO.refl _ _ _⟩


/-! ### sector_Disk_there: function 41 -/
-- FN rounds=0 making=1
def sector_Disk_there.f (s : Disk.DiskM) (a1 : Int) : Option (Bool × Disk.DiskM) := some (Disk.there s a1, s)
theorem sector_Disk_there.calls0 (g : Nat) (s : Disk.DiskM) (a1 : Int) (w0 w : World) (hI : IsS71 w0 w g s) :
    Calls Try.prog 41 #[.pointer (some ⟨g, 0, none⟩), .int .i64 a1] w fun e w' => e = .returned (.bool (Disk.there s a1)) ∧ w = w' := by
  have HI := Aside0.mk hI
  have HD := Aside0.mk (show Disk.there s a1 = (decide (0 ≤ a1) && decide (a1 < Disk.len s)) from rfl)
  clear hI
  by_cases h0 : 0 ≤ a1
  · have d0 : decide (0 ≤ a1) = true := decide_eq_true h0
    have H0 := Aside0.mk d0
    clear h0
    go_enter Try.func41, Try.ntmps41
    go_wp2_with (go_at_call 22; refine (sector_Disk_Len.calls0 g s w0 _ HI.out).mono ?_; rintro e w' ⟨rfl, rfl⟩)
    go_ret
    exact ⟨by rw [HD.out, H0.out]; rfl, rfl⟩
  · have d0 : decide (0 ≤ a1) = false := decide_eq_false h0
    have H0 := Aside0.mk d0
    clear h0
    go_enter Try.func41, Try.ntmps41
    go_wp2
    go_ret
    exact ⟨by rw [HD.out, H0.out]; rfl, rfl⟩


/-! ### sector_Disk_burn: function 42 -/
-- FN rounds=0 making=1
-- IMPORT Derived.Test.YtpojfebecmjloaaMid
-- IMPORT Derived.Deep.MidRow
def sector_Disk_burn.f (s : Disk.DiskM) : Option (Bool × Disk.DiskM) := some (!(Disk.burn s).down, Disk.burn s)
set_option maxHeartbeats 2000000 in
open Go.Proofs.Ytpojfebecmjloaa.Opq in
theorem sector_Disk_burn.calls (g : Nat) (s0_0 : Disk.DiskM) (r1 : Bool) (r2 : Disk.DiskM) (w0 w : World) (hI : IsS71 w0 w g s0_0) (hB : Below w0.heap.size w0 w) (h : sector_Disk_burn.f s0_0 = some (r1, r2)) :
    Calls Try.prog 42 #[.pointer (some ⟨g, 0, none⟩)] w fun e w' => e = .returned (.bool r1) ∧ IsS71 w0 w' g r2 ∧ Below w0.heap.size w0 w' ∧ KeepO ts71 w0.heap.size w w' := by
  have h := Option.some.inj h
  injection h with h1 h2
  subst h1 h2
  obtain ⟨gl, vo, hI⟩ := hI
  have hg := hI.1
  have HGE := Aside0.mk hI.2.1
  have hcell2 : w.cell? ⟨g, 2, none⟩ = some (.int .i64 s0_0.fuse) := (blk_cell hg 2).trans rfl
  have hcell3 : w.cell? ⟨g, 3, none⟩ = some (.bool s0_0.down) := (blk_cell hg 3).trans rfl
  have hf2 : w.frozen? ⟨g, 2, none⟩ = false := blk_frozen hg 2
  have hf3 : w.frozen? ⟨g, 3, none⟩ = false := blk_frozen hg 3
  have HI := Aside0.mk hI
  have HG := Aside0.mk hg
  have HB := Aside0.mk hB
  clear hI hB hg
  by_cases k0 : s0_0.fuse = 0
  · have d0 : (s0_0.fuse == 0) = true := beq_iff_eq.2 k0
    have d1 : decide (0 < s0_0.fuse) = false := decide_eq_false (by omega)
    have HS := Aside0.mk (show Disk.burn s0_0 = ⟨s0_0.lasts, s0_0.loose, s0_0.fuse, true⟩ by unfold Disk.burn; rw [decide_eq_true k0, if_neg (by omega)]; simp)
    clear k0
    go_enter Try.func42, Try.ntmps42
    go_wp2
    go_ret
    have h2 := disk_turned (W := w.setCell ⟨g, 3, none⟩ (.bool true)) (s' := ⟨s0_0.lasts, s0_0.loose, s0_0.fuse, true⟩) HI.out ⟨rfl, rfl⟩ (by simpa using blk_set HG.out 3 (.bool true)) (fun k _ hk => Below.heap_setCell _ _ _ _ hk) (by simp [World.setCell])
    rw [HS.out]
    exact ⟨rfl, h2.1, HB.out.setCell HGE.out _, h2.2⟩
  · have d0 : (s0_0.fuse == 0) = false := beq_eq_false_iff_ne.2 k0
    by_cases k1 : 0 < s0_0.fuse
    · have d1 : decide (0 < s0_0.fuse) = true := decide_eq_true k1
      have HS := Aside0.mk (show Disk.burn s0_0 = ⟨s0_0.lasts, s0_0.loose, wrap64 (s0_0.fuse - 1), s0_0.down⟩ by unfold Disk.burn; rw [decide_eq_false k0, if_pos k1]; simp)
      clear k0 k1
      go_enter Try.func42, Try.ntmps42
      go_wp2
      go_ret
      have h2 := disk_turned (W := w.setCell ⟨g, 2, none⟩ (.int .i64 (wrap64 (s0_0.fuse - 1)))) (s' := ⟨s0_0.lasts, s0_0.loose, wrap64 (s0_0.fuse - 1), s0_0.down⟩) HI.out ⟨rfl, rfl⟩ (by simpa using blk_set HG.out 2 (.int .i64 (wrap64 (s0_0.fuse - 1)))) (fun k _ hk => Below.heap_setCell _ _ _ _ hk) (by simp [World.setCell])
      rw [HS.out]
      exact ⟨rfl, h2.1, HB.out.setCell HGE.out _, h2.2⟩
    · have d1 : decide (0 < s0_0.fuse) = false := decide_eq_false k1
      have HS := Aside0.mk (show Disk.burn s0_0 = s0_0 by unfold Disk.burn; rw [decide_eq_false k0, if_neg k1]; simp)
      clear k0 k1
      go_enter Try.func42, Try.ntmps42
      go_wp2
      go_ret
      rw [HS.out]
      exact ⟨rfl, ⟨gl, vo, HI.out⟩, HB.out, KeepO.refl _ _ _⟩


/-! ### sector_Disk_Write: function 14 -/
-- FN rounds=0 making=1
-- IMPORT Derived.Test.YtpojfebecmjloaaMid
-- IMPORT Derived.Laws.CopyOwn
-- IMPORT Derived.Deep.RegionHeld3
-- IMPORT Derived.Deep.AppendLies
def sector_Disk_Write.f (s : Disk.DiskM) (a1 : Int) (l2 : List Int) : Option (Int × Disk.DiskM) := if s.loose.length < 1000000 then some (Disk.write s a1 l2) else none
theorem splice_fill {a : Int} {b : List Int} (h : b.length ≤ 64) : splice (Value.int .i64 a :: Disk.bytes (List.replicate 64 0)) 1 (Disk.bytes b) = Value.int .i64 a :: Disk.bytes (Disk.fill b) := by
  unfold splice Disk.fill Disk.bytes
  simp only [List.take_succ_cons, List.take_zero, List.cons_append, List.nil_append, List.map_append, List.map_replicate, List.length_map]
  rw [show 1 + b.length = b.length + 1 by omega, List.drop_succ_cons, List.drop_replicate]
theorem info_write : (Try.prog.info? 75).map (fun i => (i.zero, i.size, i.bytes)) = some (some (.agg (Value.int .i64 0 :: Disk.bytes (List.replicate 64 0)).toArray), 65, 72) := by kernel_rfl
theorem copy_cells {w : World} {A : Option Addr} {n : Nat} {l : List Int} (h : Kd.C (Kd.int .u8) w A n l) (hp : 0 < l.length) : ∃ ad, A = some ad ∧ ∀ (j : Nat) v, (Disk.bytes l)[j]? = some v → w.cell? (ad.add j) = some v := by
  obtain ⟨hl, _, h⟩ := Kd.reads_of_C (d := (0 : Int)) h
  obtain ⟨ad, he, hc⟩ := h (by omega)
  refine ⟨ad, he, fun j v hv => ?_⟩
  have hj : j < l.length := by have := (List.getElem?_eq_some_iff.1 hv).1; rwa [Disk.bytes_length] at this
  rw [Disk.bytes_get hj] at hv
  injection hv with hv
  rw [← hv]
  exact hc j (by omega)
open Go.Proofs.Ytpojfebecmjloaa.Opq in
theorem disk_written {w0 w1 w7 w8 : World} {g gl gg cap H : Nat} {vo : Value} {s : Disk.DiskM} {a : Int} {b : List Int} {cs : List Value}
    (hI : w1.heap[g]? = some (.cells #[.slice (some ⟨gl, 0, none⟩) (s.lasts.length / 64) (s.lasts.length / 64), vo, .int .i64 s.fuse, .bool s.down] 71 (0, 0)) ∧ w0.heap.size ≤ g ∧ w0.heap.size ≤ gl ∧
    w1.heap[gl]? = some (.cells (Disk.bytes s.lasts).toArray 73 (0, 0)) ∧ w1.ownsRow w0.heap.size 75 65 vo s.loose.length (Disk.flat s.loose) ∧ Disk.Ok s)
    (hB : Below w0.heap.size w0 w1) (h7 : Below w1.heap.size w1 w7) (hgrow : w7.grownBy w8 vo.ownBlock) (hown8 : w8.ownsRow w0.heap.size 75 65 (.slice (some ⟨gg, 0, none⟩) (s.loose.length + 1) cap) (s.loose.length + 1) (Disk.flat s.loose ++ cs))
    (hat : vo.ownBlock = some gg ∨ gg = H) (hH : w1.heap.size ≤ H) (hcs : cs = Value.int .i64 a :: Disk.bytes b) (hb : b.length = 64) (ha : Disk.there s a = true) :
    IsS71 w0 (w8.setCell ⟨g, 1, none⟩ (.slice (some ⟨gg, 0, none⟩) (s.loose.length + 1) cap)) g { s with loose := s.loose ++ [(a, b)] } ∧ Below w0.heap.size w0 (w8.setCell ⟨g, 1, none⟩ (.slice (some ⟨gg, 0, none⟩) (s.loose.length + 1) cap)) ∧ KeepO ts71 w0.heap.size w1 (w8.setCell ⟨g, 1, none⟩ (.slice (some ⟨gg, 0, none⟩) (s.loose.length + 1) cap)) := by
  obtain ⟨h0, h1, h2, h3, h4, h5⟩ := hI
  have hty := own_typed h4
  have hng : vo.ownBlock ≠ some g := fun e => by
    obtain ⟨_, cells, hc⟩ := hty g e
    rw [h0] at hc
    injection hc with hc
    injection hc with _ hc
    exact absurd hc (by decide)
  have hngl : vo.ownBlock ≠ some gl := fun e => by
    obtain ⟨_, cells, hc⟩ := hty gl e
    rw [h3] at hc
    injection hc with hc
    injection hc with _ hc
    exact absurd hc (by decide)
  have hgl : g ≠ gl := fun e => by
    subst e
    rw [h0] at h3
    injection h3 with hc
    injection hc with _ hc
    exact absurd hc (by decide)
  have hk8 : ∀ k, k < w1.heap.size → vo.ownBlock ≠ some k → w8.heap[k]? = w1.heap[k]? := fun k hk hne => (hgrow.block k (Nat.lt_of_lt_of_le hk h7.size) (fun e => hne e.symm)).trans (h7.block k hk)
  have hggg : gg ≠ g := fun e => by
    subst e
    rcases hat with h | h
    · exact hng h
    · have := blk_lt h0; omega
  have hs8 : w1.heap.size ≤ w8.heap.size := Nat.le_trans h7.size hgrow.size
  have hl := Disk.there_in h5 ha
  refine ⟨⟨gl, .slice (some ⟨gg, 0, none⟩) (s.loose.length + 1) cap, ?_, h1, h2, ?_, ?_, ?_⟩, ?_, ?_⟩
  · have := blk_set ((hk8 g (blk_lt h0) hng).trans h0) 1 (.slice (some ⟨gg, 0, none⟩) (s.loose.length + 1) cap)
    simpa using this
  · exact (Below.heap_setCell _ _ _ _ (Ne.symm hgl)).trans ((hk8 gl (blk_lt h3) hngl).trans h3)
  · have := own_far (p := ⟨g, 1, none⟩) (u := .slice (some ⟨gg, 0, none⟩) (s.loose.length + 1) cap) hown8 (by simpa [Value.ownBlock] using hggg)
    simpa [Disk.flat, hcs] using this
  · refine ⟨h5.size, fun p hp => ?_⟩
    rcases List.mem_append.1 hp with hp | hp
    · exact h5.loose p hp
    · obtain rfl := List.mem_singleton.1 hp
      exact ⟨hl.1, hl.2.1, hb⟩
  · refine Below.setCell ?_ h1 _
    exact ⟨hgrow.os.trans (h7.os.trans hB.os), hgrow.tape.trans (h7.tape.trans hB.tape), hgrow.output.trans (h7.output.trans hB.output), Nat.le_trans hB.size hs8, fun k hk => (hk8 k (Nat.lt_of_lt_of_le hk hB.size) (fun e => by have := (hty k e).1; omega)).trans (hB.block k hk)⟩
  · refine ⟨by simpa [World.setCell] using hs8, fun k hk hp => ?_⟩
    have hpr : Priv ts71 w1.heap[g]? := by rw [h0]; show _ ∈ ts71; decide
    refine (Below.heap_setCell _ _ _ _ (fun e => ?_)).trans (hk8 k hk (fun e => ?_))
    · subst e
      rcases hp with hp | hp
      · have : _ < w0.heap.size := hp
        omega
      · exact hp hpr
    · obtain ⟨hb2, cells, hc⟩ := hty k e
      rcases hp with hp | hp
      · omega
      · exact hp (by rw [hc]; show _ ∈ ts71; decide)
set_option maxHeartbeats 8000000 in
set_option maxRecDepth 100000 in
open Go.Proofs.Ytpojfebecmjloaa.Opq Go.Proofs.Ytpojfebecmjloaa.Mid in
theorem sector_Disk_Write.calls (g : Nat) (s0_0 : Disk.DiskM) (a1 : Int) (A2 : Option Addr) (c2 : Nat) (l2 : List Int) (r1 : Int) (r2 : Disk.DiskM) (w0 w : World) (hI : IsS71 w0 w g s0_0) (hB : Below w0.heap.size w0 w) (hr2 : ∀ W_, Go.Proofs.Ytpojfebecmjloaa.Opq.KeepO ts71 w0.heap.size w W_ → Kd.C (Kd.int .u8) W_ A2 l2.length l2) (hc2 : l2.length ≤ c2) (h : sector_Disk_Write.f s0_0 a1 l2 = some (r1, r2)) :
    Calls Try.prog 14 #[.pointer (some ⟨g, 0, none⟩), .int .i64 a1, .slice A2 l2.length c2] w fun e w' => e = .returned (.int .i64 r1) ∧ IsS71 w0 w' g r2 ∧ Below w0.heap.size w0 w' ∧ Go.Proofs.Ytpojfebecmjloaa.Opq.KeepO ts71 w0.heap.size w w' := by
  unfold sector_Disk_Write.f at h
  split at h
  case isFalse => cases h
  case isTrue hlen =>
  have h := Option.some.inj h
  have HI := Aside0.mk hI
  have HB := Aside0.mk hB
  have HL := Aside0.mk hlen
  have HR := Aside0.mk hr2
  clear hI hlen hB hr2
  cases ht : Disk.there s0_0 a1 with
  | false =>
    unfold Disk.write at h
    rw [if_pos (.inl ht)] at h
    injection h with h1 h2
    subst h1 h2
    have HT := Aside0.mk ht
    clear ht
    go_enter Try.func14, Try.ntmps14
    go_wp2_with (go_at_call 41; refine (sector_Disk_there.calls0 g s0_0 a1 w0 _ HI.out).mono ?_; rw [HT.out]; rintro e w' ⟨rfl, rfl⟩)
    go_ret
    exact ⟨rfl, HI.out, HB.out, KeepO.refl _ _ _⟩
  | true =>
  have HT := Aside0.mk ht
  by_cases hl : l2.length > 64
  · unfold Disk.write at h
    rw [if_pos (.inr hl)] at h
    injection h with h1 h2
    subst h1 h2
    have d0 : decide ((l2.length : Int) > 64) = true := decide_eq_true (by omega)
    clear ht hl
    go_enter Try.func14, Try.ntmps14
    go_wp2_with (go_at_call 41; refine (sector_Disk_there.calls0 g s0_0 a1 w0 _ HI.out).mono ?_; rw [HT.out]; rintro e w' ⟨rfl, rfl⟩)
    go_ret
    exact ⟨rfl, HI.out, HB.out, KeepO.refl _ _ _⟩
  have d0 : decide ((l2.length : Int) > 64) = false := decide_eq_false (by omega)
  unfold Disk.write at h
  rw [if_neg (by rw [ht]; simp; omega)] at h
  cases hd : (Disk.burn s0_0).down with
  | true =>
    rw [if_pos hd] at h
    injection h with h1 h2
    subst h1 h2
    have HX := Aside0.mk (sector_Disk_burn.calls g s0_0 false (Disk.burn s0_0) w0 w HI.out HB.out (by unfold sector_Disk_burn.f; rw [hd]; rfl))
    clear ht hl hd
    go_enter Try.func14, Try.ntmps14
    go_wp2_with (first | (go_at_call 41; refine (sector_Disk_there.calls0 g s0_0 a1 w0 _ HI.out).mono ?_; rw [HT.out]; rintro e w' ⟨rfl, rfl⟩) | (go_at_call 42; refine HX.out.mono ?_; rintro e w1 ⟨rfl, hr⟩; have HR1 := Aside0.mk hr; clear hr))
    go_ret
    exact ⟨rfl, HR1.out⟩
  | false =>
    rw [if_neg (by rw [hd]; simp)] at h
    injection h with h1 h2
    subst h1 h2
    have HX := Aside0.mk (sector_Disk_burn.calls g s0_0 true (Disk.burn s0_0) w0 w HI.out HB.out (by unfold sector_Disk_burn.f; rw [hd]; rfl))
    have HLE := Aside0.mk hl
    clear ht hl hd
    go_enter Try.func14, Try.ntmps14
    go_wp2_with (first
      | (go_at_call 41; refine (sector_Disk_there.calls0 g s0_0 a1 w0 _ HI.out).mono ?_; rw [HT.out]; rintro e w' ⟨rfl, rfl⟩)
      | (go_at_call 42; refine HX.out.mono ?_; rintro e w1 ⟨rfl, hr⟩; have HR1 := Aside0.mk hr; have HR2 := Aside0.mk (fun W hk => HR.out W (hr.2.2.trans hk)); clear hr)
      | ((with_reducible refine gate_store (t := 75) (p := 7) rfl ?_); refine store_new rfl 75 (.tmp 7) (.tmp 21) rfl (Value.int .i64 a1 :: Disk.bytes (List.replicate 64 0)) (by rfl) (by rfl) (heap_alloc_new w1 _) (by rfl) (by kernel_rfl) (elem_one (a1, List.replicate 64 0)) ?_; intro w6 hx6 hg6 hs6; have HB6 := Aside0.mk (show Below w1.heap.size w1 w6 from (below_alloc (Below.refl _ w1) _).grown hg6 (by simp) (fun k e => by injection e with e; omega)); have HX6 := Aside0.mk hx6; clear hx6 hg6 hs6)
      | ((with_reducible refine gate_builtin (b := .copy) (xs := #[.tmp 23, .tmp 24]) rfl ?_); refine wpList_copy_splice rfl (.tmp 23) (.tmp 24) 22 22 rfl 5 Try.underlying22 (by kernel_rfl) (some ⟨w1.heap.size, 1, none⟩) A2 64 64 l2.length c2 rfl rfl w1.heap.size 1 (Value.int .i64 a1 :: Disk.bytes (List.replicate 64 0)) 75 HX6.out (Disk.bytes l2) (by have := HLE.out; rw [Disk.bytes_length]; show _ = min l2.length 64; omega) (fun hp => ⟨rfl, copy_cells (HR2.out w6 (KeepO.of_below HB6.out)) (by simpa [Disk.bytes_length] using hp)⟩) (by have := HLE.out; simp [Disk.bytes_length]; omega) (by intro v hv; unfold Disk.bytes at hv; obtain ⟨x, _, rfl⟩ := List.mem_map.1 hv; rfl) w1.heap.size w1 HB6.out (Nat.le_refl _) ?_; intro w7 hx7 hb7; have HX7 := Aside0.mk hx7; have HB7 := Aside0.mk hb7; clear hx7 hb7))
    obtain ⟨hi1, hb1, hk1⟩ := HR1.out
    obtain ⟨gl, vo, hg1, hge, hgb, hgl, hown, hok⟩ := hi1
    have hcell1 : w7.cell? ⟨g, 1, none⟩ = some vo := (blk_cell ((HB7.out.block g (blk_lt hg1)).trans hg1) 1).trans rfl
    have hf1 : w7.frozen? ⟨g, 1, none⟩ = false := blk_frozen ((HB7.out.block g (blk_lt hg1)).trans hg1) 1
    obtain ⟨cs, hcs⟩ : ∃ cs, cs = (Value.int .i64 a1 :: Disk.bytes (Disk.fill l2)) := ⟨_, rfl⟩
    have hx7 : w7.heap[w1.heap.size]? = some (.cells cs.toArray 75 (0, 0)) := by
      rw [HX7.out, hcs, splice_fill (by have := HLE.out; omega)]
    have hrg : w7.rangeAt w1.heap.size 0 cs := range_of_block hx7 (fun j v hv => by simpa using hv)
    have hcl : cs.length = 65 := by rw [hcs, List.length_cons, Disk.bytes_length, Disk.fill_length (by have := HLE.out; omega)]
    have HONE := Aside0.mk (show ∀ u ∈ cs, u.oneCell' = true by rw [hcs]; exact elem_one (a1, Disk.fill l2))
    have HCS := Aside0.mk hcs
    clear hcs
    have hu := Try.underlying75
    have hi : (Try.prog.info? 75).map (·.size) = some cs.length := by rw [hcl]; kernel_rfl
    obtain ⟨i0, hi0, hz0, hz1, hz2⟩ := info_parts info_write
    have HS := Aside0.mk (show w0.heap.size ≤ w7.heap.size from Nat.le_trans hb1.size HB7.out.size)
    have hown7 : w7.drew.ownsRow w0.heap.size 75 65 vo s0_0.loose.length (Disk.flat s0_0.loose) := own_below hown (show Below w1.heap.size w1 w7.drew from ⟨HB7.out.1, HB7.out.2, HB7.out.3, HB7.out.4, HB7.out.5⟩)
    have HALL := Aside0.mk (And.intro hg1 (And.intro hge (And.intro hgb (And.intro hgl (And.intro hown hok)))))
    clear hg1 hge hgb hgl hown hok hb1 hk1
    refine wp_region_held_drew (S := fun w' => w'.rangeAt w1.heap.size 0 cs) (by kernel_rfl) (by simpa using hrg) (fun hHeld => ?_)
    refine wpAnyH_take (i := 5) (oi := _) (v := _) rfl (by kernel_rfl) (by kernel_rfl) (by kernel_rfl) (fun _ _ _ h => h) (yieldsIf_load_mid (by rfl) _ _ rfl _ _ rfl _ _ (fun w hw => hw) hu rfl hi) hHeld ?_
    (try simp only [List.getElem_toArray, List.getElem_cons_zero, List.getElem_cons_succ, Act.put, List.setIfInBounds_toArray, List.set_cons_zero, List.set_cons_succ])
    refine wpAnyH_take (i := 0) (oi := _) (v := ?_) rfl (by kernel_rfl) (by kernel_rfl) (by kernel_rfl) (fun _ _ _ h => h) (Or.inl ⟨by rfl, ?_⟩) hHeld ?_
    rotate_left
    · intro w hSw
      go_simp
      with_reducible rfl
    (try simp only [List.getElem_toArray, List.getElem_cons_zero, List.getElem_cons_succ, Act.put, List.setIfInBounds_toArray, List.set_cons_zero, List.set_cons_succ])
    refine wpAnyH_take (i := 1) (oi := _) (v := ?_) rfl (by kernel_rfl) (by kernel_rfl) (by kernel_rfl) (fun _ _ _ h => h) (Or.inl ⟨by rfl, ?_⟩) hHeld ?_
    rotate_left
    · intro w hSw
      go_simp
      with_reducible rfl
    (try simp only [List.getElem_toArray, List.getElem_cons_zero, List.getElem_cons_succ, Act.put, List.setIfInBounds_toArray, List.set_cons_zero, List.set_cons_succ])
    refine wpAnyH_take (i := 2) (oi := _) (v := ?_) rfl (by kernel_rfl) (by kernel_rfl) (by kernel_rfl) (fun _ _ _ h => h) (Or.inl ⟨by rfl, ?_⟩) hHeld ?_
    rotate_left
    · intro w hSw
      go_simp
      with_reducible rfl
    (try simp only [List.getElem_toArray, List.getElem_cons_zero, List.getElem_cons_succ, Act.put, List.setIfInBounds_toArray, List.set_cons_zero, List.set_cons_succ])
    refine wpAnyH_take (i := 3) (oi := _) (v := ?_) rfl (by kernel_rfl) (by kernel_rfl) (by kernel_rfl) (fun _ _ _ h => h) (Or.inl ⟨by rfl, ?_⟩) hHeld ?_
    rotate_left
    · intro w hSw
      go_simp
      with_reducible rfl
    (try simp only [List.getElem_toArray, List.getElem_cons_zero, List.getElem_cons_succ, Act.put, List.setIfInBounds_toArray, List.set_cons_zero, List.set_cons_succ])
    have hcell1b : (w7.alloc (.cells cs.toArray 75)).cell? ⟨g, 1, none⟩ = some vo := by rw [World.cell?_alloc_some _ _ _ (by rw [hcell1]; rfl), hcell1]
    have hcell1a : (w7.drew.alloc (.cells cs.toArray 75)).cell? ⟨g, 1, none⟩ = some vo := by rw [World.cell?_alloc_some _ _ _ (by rw [World.cell?_drew, hcell1]; rfl), World.cell?_drew, hcell1]
    refine wpAnyH_ready (rs := [4, 6]) (by kernel_rfl) (by simp) ?_
    refine AllReadyH.cons (o := _) rfl (fun K hK => ?_) (AllReadyH.cons (o := _) rfl (fun K hK => ?_) AllReadyH.nil)
    focus
      go_simp
      refine hK.out _ _ hHeld (fun hHeld => ?_)
      clear hK K
      (try simp only [List.getElem_toArray, List.getElem_cons_zero, List.getElem_cons_succ, Act.put, List.setIfInBounds_toArray, List.set_cons_zero, List.set_cons_succ])
      refine wpAnyH_ready (rs := [6]) (by kernel_rfl) (by simp) ?_
      refine AllReadyH.cons (o := _) rfl (fun K hK => ?_) AllReadyH.nil
      refine step_slice_one rfl _ rfl cs rfl i0 _ Try.underlying69 hi0 hz0 (hz1.trans hcl.symm) hcl.symm (by omega) (by omega) ?_
      refine hK.out _ _ (World.rangeAt_alloc hHeld _) (fun hHeld => ?_)
      clear hK K
      (try simp only [List.getElem_toArray, List.getElem_cons_zero, List.getElem_cons_succ, Act.put, List.setIfInBounds_toArray, List.set_cons_zero, List.set_cons_succ])
    rotate_left
    focus
      refine step_slice_one rfl _ rfl cs rfl i0 _ Try.underlying69 hi0 hz0 (hz1.trans hcl.symm) hcl.symm (by omega) (by omega) ?_
      refine hK.out _ _ (World.rangeAt_alloc hHeld _) (fun hHeld => ?_)
      clear hK K
      (try simp only [List.getElem_toArray, List.getElem_cons_zero, List.getElem_cons_succ, Act.put, List.setIfInBounds_toArray, List.set_cons_zero, List.set_cons_succ])
      refine wpAnyH_ready (rs := [4]) (by kernel_rfl) (by simp) ?_
      refine AllReadyH.cons (o := _) rfl (fun K hK => ?_) AllReadyH.nil
      go_simp
      refine hK.out _ _ hHeld (fun hHeld => ?_)
      clear hK K
      (try simp only [List.getElem_toArray, List.getElem_cons_zero, List.getElem_cons_succ, Act.put, List.setIfInBounds_toArray, List.set_cons_zero, List.set_cons_succ])
    all_goals
      refine wpAnyH_ready (rs := [7]) (by kernel_rfl) (by simp) ?_
      refine AllReadyH.cons (o := _) rfl (fun K hK => ?_) AllReadyH.nil
      refine step_append_lies _ (by rfl) _ _ _ (by rfl) w0.heap.size 75 i0 _ 65 72 Try.underlying69 hi0 hz0 hz1 hz2 rfl (by omega) vo s0_0.loose.length (Disk.flat s0_0.loose) (by rfl) (hown7.alloc _)
          ⟨w7.drew.heap.size, 0, none⟩ 1 1 cs (by rfl) (by rw [hcl]) (World.news_of_block (cs := cs.toArray) (t := 75) (fr := (0, 0)) (heap_alloc_new w7.drew _)) HONE.out
          (by omega) (by have := HL.out; unfold maxLen; omega) (by have := HL.out; omega) (by have := HS.out; simp; omega) (w7.heap.size + 1) (by simp) ?_
      intro gg cap w8 hown8 hgrow hat hlt
      have hk8 : ∀ k cells t, w1.heap[k]? = some (.cells cells t (0, 0)) → vo.ownBlock ≠ some k → w8.heap[k]? = some (.cells cells t (0, 0)) := fun k cells t hk hne =>
        (hgrow.block k (Nat.lt_of_lt_of_le (blk_lt hk) (Nat.le_trans HB7.out.size (by simp))) (fun e => hne e.symm)).trans (((below_alloc (Below.refl _ w7.drew) _).block k (Nat.lt_of_lt_of_le (blk_lt hk) HB7.out.size)).trans ((HB7.out.block k (blk_lt hk)).trans hk))
      have hg8 := hk8 g _ _ HALL.out.1 (fun e => by
        obtain ⟨_, cells, hc⟩ := own_typed HALL.out.2.2.2.2.1 g e
        rw [HALL.out.1] at hc
        injection hc with hc
        injection hc with _ hc
        exact absurd hc (by decide))
      have hx8 : w8.heap[w1.heap.size]? = some (.cells cs.toArray 75 (0, 0)) := by
        refine (hgrow.block _ (Nat.lt_of_lt_of_le (blk_lt hx7) (by simp)) (fun e => ?_)).trans (((below_alloc (Below.refl _ w7.drew) _).block _ (blk_lt hx7)).trans hx7)
        obtain ⟨_, cells, hc⟩ := own_typed HALL.out.2.2.2.2.1 _ e.symm
        exact absurd (blk_lt hc) (by omega)
      have hrg8 : w8.rangeAt w1.heap.size 0 cs := range_of_block hx8 (fun j v hv => by simpa using hv)
      have hcell8 : w8.cell? ⟨g, 1, none⟩ = some vo := (blk_cell hg8 1).trans rfl
      have hf8 : w8.frozen? ⟨g, 1, none⟩ = false := blk_frozen hg8 1
      have HFIN := Aside0.mk (disk_written (s := Disk.burn s0_0) HALL.out HR1.out.2.1 (below_alloc (show Below w1.heap.size w1 w7.drew from ⟨HB7.out.1, HB7.out.2, HB7.out.3, HB7.out.4, HB7.out.5⟩) _) hgrow hown8 hat (Nat.le_trans HB7.out.size (Nat.le_succ _)) HCS.out (Disk.fill_length (by have := HLE.out; omega)) HT.out)
      refine hK.out _ _ hrg8 (fun hHeld => ?_)
      clear hK K hg8 hk8 hgrow hown8 hat
      (try simp only [List.getElem_toArray, List.getElem_cons_zero, List.getElem_cons_succ, Act.put, List.setIfInBounds_toArray, List.set_cons_zero, List.set_cons_succ])
      refine wpAnyH_take (i := 8) (oi := _) (v := ?_) rfl (by kernel_rfl) (by kernel_rfl) (by kernel_rfl) (fun _ _ _ h => h) (Or.inl ⟨by rfl, ?_⟩) hHeld ?_
      rotate_left
      · intro w hSw
        go_simp
        with_reducible rfl
      (try simp only [List.getElem_toArray, List.getElem_cons_zero, List.getElem_cons_succ, Act.put, List.setIfInBounds_toArray, List.set_cons_zero, List.set_cons_succ])
      refine wpAnyH_take (i := 9) (oi := _) (v := ?_) rfl (by kernel_rfl) (by kernel_rfl) (by kernel_rfl) (fun _ _ _ h => h) (Or.inl ⟨by rfl, ?_⟩) hHeld ?_
      rotate_left
      · intro w hSw
        go_simp
        with_reducible rfl
      (try simp only [List.getElem_toArray, List.getElem_cons_zero, List.getElem_cons_succ, Act.put, List.setIfInBounds_toArray, List.set_cons_zero, List.set_cons_succ])
      refine wpAnyH_ready (rs := [10]) (by kernel_rfl) (by simp) ?_
      refine AllReadyH.cons (o := _) rfl (fun K hK => ?_) AllReadyH.nil
      go_simp
      refine hK.out _ _ (range_of_block ((Below.heap_setCell _ _ _ _ (fun e => by have h1 : w1.heap.size = g := e; have := blk_lt HALL.out.1; omega)).trans hx8) (fun j v hv => by simpa using hv)) (fun hHeld => ?_)
      clear hK K hx8
      refine wpAnyH_done (by kernel_rfl) ?_ _
      go_wp2
      go_ret
      exact ⟨rfl, HFIN.out.1, HFIN.out.2.1, HR1.out.2.2.trans HFIN.out.2.2⟩


/-! ### bytes_Clone: function 44 -/
-- FN rounds=0 making=1
-- IMPORT Derived.Lib.LazyBuf
def bytes_Clone.f (l0 : List Int) : Option (List Int) := if l0.length < 140737488355328 then some l0 else none
set_option maxHeartbeats 8000000 in
set_option maxRecDepth 100000 in
theorem bytes_Clone.calls (A0 : Option Addr) (c0 : Nat) (l0 : List Int) (r : List Int) (w : World) (hr0 : Kd.C (Kd.int .u8) w A0 l0.length l0) (hc0 : l0.length ≤ c0) (h : bytes_Clone.f l0 = some r) :
    Calls Try.prog 44 #[.slice A0 l0.length c0] w fun e w' => ∃ v0_ : Value, e = .returned (v0_) ∧ Kd.R (Kd.int .u8) 5 w' w.heap.size (fun _ => True) v0_ r ∧ Below w.heap.size w w' := by
  have hb : l0.length < 140737488355328 := by
    unfold bytes_Clone.f at h
    split at h
    · assumption
    · cases h
  obtain rfl : r = l0 := by
    unfold bytes_Clone.f at h
    rw [if_pos hb] at h
    exact (Option.some.inj h).symm
  have HR := Aside0.mk hr0
  have HC := Aside0.mk hc0
  have HB := Aside0.mk hb
  have HE := Aside0.mk (Below.refl w.heap.size w)
  clear hr0 hc0 hb h
  cases A0 with
  | none =>
    have hn : ∀ w, (binOp .eql 22 (.slice none r.length c0) (.slice none 0 0)).run Try.prog w = .ok (.bool true) w := fun w => run_eql_slice_nil w 22 5 none r.length c0 Try.underlying22
    have HN : Aside0 (r = []) := Aside0.mk <| by
      cases r with
      | nil => rfl
      | cons x l =>
        obtain ⟨ad, e, _⟩ := HR.out.2.2 (by simp)
        cases e
    go_enter Try.func44, Try.ntmps44
    go_wp2
    go_ret
    exact ⟨_, rfl, by rw [HN.out]; exact Kd.R_nil _ _ _ _ _, HE.out⟩
  | some ad =>
    have hn : ∀ w, (binOp .eql 22 (.slice (some ad) r.length c0) (.slice none 0 0)).run Try.prog w = .ok (.bool false) w := fun w => run_eql_slice_nil w 22 5 (some ad) r.length c0 Try.underlying22
    go_enter Try.func44, Try.ntmps44
    go_wp2_with (first | ((with_reducible refine gate_dst (N := 5) rfl ?_); refine Kd.R_lit (Kd.int .u8) _ 5 ?hg (N := 5) ?hd (xs := ([] : List Int)) (inner := []) (ok := fun _ => True) (okp := fun _ => True) ?hr ?hp (fun _ hk => hk) trivial (Below.refl _ _) (Nat.le_refl _) (by simp) ?_; (case hd => rfl); (case hg => rfl); (case hr => first | (go_simp; done) | (go_simp; rfl)); (case hp => exact (Reps.none _ _)); intro v5 w5 ho5 hb5 hg_ hnew_; have HO5 := Aside0.mk (Kd.R_lower ho5 (show w.heap.size ≤ _ from by first | exact Nat.le_refl _ | simp)); have HE5 := Aside0.mk hb5; have HR5 := Aside0.mk (Kd.C_below HR.out hb5); clear ho5 hb5) | ((with_reducible refine gate_builtin (b := .append) (xs := #[.tmp 5, .tmp 6]) rfl ?_); (try (refine gate_guard (by rfl) ?_; dsimp only)); at_builtin; refine Kd.R_append_rows (Kd.int .u8) (w0 := w) w.heap.size rfl (.tmp 5) (.tmp 6) 22 5 (.int .u8 0) 1 rfl Try.underlying22 (show (Try.prog.info? 5).map (fun i => (i.zero, i.size, i.bytes)) = some (some (.int .u8 0), 1, 1) from by kernel_rfl) rfl (by decide) (by omega) v5 ([] : List Int) r _ _ _ (fun _ => True) (fun _ => False) rfl rfl ?aO ?aR (fun _ _ h => h) (fun _ h => h.elim) ?aF ?aB ?aS ?aL ?_; (case aR => exact HR5.out); (case aB => exact HE5.out); (case aF => exact fun _ _ => trivial); (case aO => exact HO5.out); (case aS => exact HE5.out.size); (case aL => have := HB.out; rw [List.length_nil]; omega); intro v7 w7 ho hb hg hat; rw [List.nil_append] at ho; have HO7 := Aside0.mk ho; have HE7 := Aside0.mk hb; clear ho hb hg hat))
    go_ret
    exact ⟨_, rfl, HO7.out, HE7.out⟩


/-! ### sector_Disk_Lasts: function 20 -/
-- FN rounds=0 making=1
def sector_Disk_Lasts.f (s : Disk.DiskM) (a1 : Int) : Option (List Int × Int × Disk.DiskM) := if Disk.there s a1 = true then some (Disk.sector s.lasts a1, 0, s) else some ([], 1, s)
theorem clone_64 {w : World} {A : Option Addr} {l : List Int} (hl : l.length = 64) (hC : Kd.C (Kd.int .u8) w A 64 l) :
    Calls Try.prog 44 #[.slice A 64 64] w fun e w' => ∃ v0_ : Value, e = .returned (v0_) ∧ Kd.R (Kd.int .u8) 5 w' w.heap.size (fun _ => True) v0_ l ∧ Below w.heap.size w w' := by
  have h := bytes_Clone.calls A 64 l l w (by rw [hl]; exact hC) (by rw [hl]; exact Nat.le_refl _) (by unfold bytes_Clone.f; rw [if_pos (by rw [hl]; decide)])
  rw [hl] at h
  exact h
theorem disk_row {w : World} {g off n : Nat} {l : List Int} {t : TypeId} {fr : Nat × Nat} (hb : w.heap[g]? = some (.cells (Disk.bytes l).toArray t fr)) (h : off + n ≤ l.length) (hn : n ≤ 9223372036854775807) : Kd.C (Kd.int .u8) w (some ⟨g, off, none⟩) n ((l.drop off).take n) := by
  refine Kd.C_of_reads (d := 0) ⟨by rw [List.length_take, List.length_drop]; omega, hn, fun _ => ⟨_, rfl, fun j hj => ?_⟩⟩
  have hj2 : (Disk.bytes l)[off + j]? = some (.int .u8 (l.getD (off + j) 0)) := Disk.bytes_get (by omega)
  have hc : w.cell? ⟨g, off + j, none⟩ = some (.int .u8 (l.getD (off + j) 0)) := by
    simp only [World.cell?, hb]
    simpa using hj2
  have he : (⟨g, off, none⟩ : Addr).add j = ⟨g, off + j, none⟩ := by unfold Addr.add; split <;> simp_all
  rw [he, hc, List.getD_eq_getElem?_getD (l := (l.drop off).take n), List.getElem?_take, if_pos (by omega), List.getElem?_drop, ← List.getD_eq_getElem?_getD]
set_option maxHeartbeats 2000000 in
open Go.Proofs.Ytpojfebecmjloaa.Opq in
theorem sector_Disk_Lasts.calls (g : Nat) (s0_0 : Disk.DiskM) (a1 : Int) (r1 : List Int) (r2 : Int) (r3 : Disk.DiskM) (w0 w : World) (hI : IsS71 w0 w g s0_0) (hB : Below w0.heap.size w0 w) (h : sector_Disk_Lasts.f s0_0 a1 = some (r1, r2, r3)) :
    Calls Try.prog 20 #[.pointer (some ⟨g, 0, none⟩), .int .i64 a1] w fun e w' => ∃ v0_ : Value, e = .returned (.tuple #[v0_, .int .i64 r2]) ∧ Kd.R (Kd.int .u8) 5 w' w.heap.size (fun _ => True) v0_ r1 ∧ IsS71 w0 w' g r3 ∧ Below w0.heap.size w0 w' ∧ Go.Proofs.Ytpojfebecmjloaa.Opq.KeepO ts71 w0.heap.size w w' := by
  unfold sector_Disk_Lasts.f at h
  have HI := Aside0.mk hI
  obtain ⟨gl, vo, hg, hge, hgb, hgl, hown, hok⟩ := hI
  have hcell : w.cell? ⟨g, 0, none⟩ = some (.slice (some ⟨gl, 0, none⟩) (s0_0.lasts.length / 64) (s0_0.lasts.length / 64)) := (blk_cell hg 0).trans rfl
  have HB := Aside0.mk hB
  cases ht : Disk.there s0_0 a1 with
  | false =>
    rw [ht, if_neg (by simp)] at h
    have h := Option.some.inj h
    injection h with h1 h
    injection h with h2 h3
    subst h1 h2 h3
    have HT := Aside0.mk ht
    clear hg hge hgb hgl hown hok hB ht h
    go_enter Try.func20, Try.ntmps20
    go_wp2_with (go_at_call 41; refine (sector_Disk_there.calls0 g s0_0 a1 w0 _ HI.out).mono ?_; rw [HT.out]; rintro e w' ⟨rfl, rfl⟩)
    go_ret2
    exact ⟨_, rfl, Kd.R_nil _ _ _ _ _, HI.out, HB.out, KeepO.refl _ _ _⟩
  | true =>
    rw [ht, if_pos rfl] at h
    have h := Option.some.inj h
    injection h with h1 h
    injection h with h2 h3
    subst h1 h2 h3
    obtain ⟨p0, p1, p2⟩ := Disk.there_in hok ht
    have HT := Aside0.mk ht
    have HC := Aside0.mk (disk_row hgl (off := a1.toNat * 64) (n := 64) p2 (by omega))
    have HS := Aside0.mk (Disk.sector_length p2)
    have HX := Aside0.mk (clone_64 HS.out HC.out)
    clear hg hge hgb hgl hown hok hB ht h p2
    go_enter Try.func20, Try.ntmps20
    go_wp2_with (first | (go_at_call 41; refine (sector_Disk_there.calls0 g s0_0 a1 w0 _ HI.out).mono ?_; rw [HT.out]; rintro e w' ⟨rfl, rfl⟩) | (go_at_call 44; refine HX.out.mono ?_; rintro e w1 ⟨v0, rfl, ho0, hb⟩; have HO := Aside0.mk ho0; have HB1 := Aside0.mk hb; clear ho0 hb))
    go_ret2
    exact ⟨_, rfl, HO.out, HI.out.below HB1.out, below_weaken HB.out HB.out.size HB1.out, KeepO.of_below HB1.out⟩


/-! ### sector_Disk_Pending: function 43 -/
-- FN rounds=0 making=1
-- IMPORT Derived.Test.YtpojfebecmjloaaMid
-- IMPORT Derived.Test.YtpojfebecmjloaaHelp
def sector_Disk_Pending.f (s : Disk.DiskM) : Option (List Int × Disk.DiskM) := if s.loose.length < 1000000 then some (s.loose.map (·.1), s) else none
set_option maxHeartbeats 2000000 in
set_option maxRecDepth 100000 in
open Go.Proofs.Ytpojfebecmjloaa.Opq Go.Proofs.Ytpojfebecmjloaa.Mid in
theorem sector_Disk_Pending.calls0 (g : Nat) (s : Disk.DiskM) (w0 w : World) (hI : IsS71 w0 w g s) (hlen : s.loose.length < 1000000) :
    Calls Try.prog 43 #[.pointer (some ⟨g, 0, none⟩)] w fun e w' => ∃ v0_ : Value, e = .returned v0_ ∧ Kd.R (Kd.int .i64) 3 w' w.heap.size (fun _ => True) v0_ (s.loose.map (·.1)) ∧ Below w.heap.size w w' := by
  obtain ⟨gl, vo, hg, hge, hgb, hgl, hown, hok⟩ := hI
  obtain ⟨Av, cv, rfl, _⟩ := disk_loose_nil hown
  have hcell : w.cell? ⟨g, 1, none⟩ = some (.slice Av s.loose.length cv) := (blk_cell hg 1).trans rfl
  have HO := Aside0.mk hown
  have HK := Aside0.mk hok
  have HL := Aside0.mk hlen
  have hu := Try.underlying75
  have HSZ := Aside0.mk (show (Try.prog.info? 75).map (·.size) = some 65 by kernel_rfl)
  have HU := Aside0.mk hu
  clear hg hge hgb hgl hown hok hlen hu
  go_enter Try.func43, Try.ntmps43
  go_wp2
  go_loopg [3, 13] (s.loose.length + 1) (fun kq v3 v13 wr => ∃ k : Nat, v13 = .int .i64 k ∧ Aside0 (k + kq = s.loose.length + 1) ∧ Aside0 (Kd.R (Kd.int .i64) 3 wr w.heap.size (fun _ => True) v3 ((s.loose.take k).map (·.1))) ∧ Aside0 (Below w.heap.size w wr))
  case atStart => exact ⟨0, rfl, ⟨by omega⟩, ⟨by simpa using Kd.R_nil _ _ _ _ _⟩, ⟨Below.refl _ _⟩⟩
  case round =>
    obtain ⟨k, rfl, HQ, HR, HB⟩ := hrel
    by_cases hlt : k < s.loose.length
    · have d0 : decide (k < s.loose.length) = true := decide_eq_true hlt
      obtain ⟨go, cap, cur, hv, hgo, hh, hc, hcells⟩ := disk_loose HO.out HK.out (by omega)
      injection hv with hA _ hcv
      subst hA hcv
      have q0 : (0 : Int) ≤ (k : Int) := by omega
      have q1 : (k : Int) < (s.loose.length : Int) := by omega
      have HH := Aside0.mk ((HB.out.block go (blk_lt hh)).trans hh)
      have HC := Aside0.mk (fun j v => hcells k hlt j v)
      have HE := Aside0.mk (show (Value.int .i64 (s.loose[k]).1 :: Disk.bytes (s.loose[k]).2).length = 65 by
        have := (HK.out.loose s.loose[k] (List.getElem_mem hlt)).2.2
        simp [Disk.bytes, this])
      have HT := Aside0.mk hlt
      have HW := Aside0.mk (show s.loose.take (k + 1) = s.loose.take k ++ [s.loose[k]] from List.take_succ_eq_append_getElem hlt)
      generalize s.loose[k] = p at HC HE HW
      clear hlt hgo hh hc hcells
      cases gk with
      | zero => exact absurd HQ.out (by have := HT.out; omega)
      | succ k1 =>
      go_wp2_with (first
        | ((with_reducible refine gate_dst (N := 16) rfl ?_); refine load_blk rfl 75 (.tmp 15) rfl (Value.int .i64 p.1 :: Disk.bytes p.2) _ (by rfl) HH.out HC.out HU.out rfl (by rw [HE.out]; exact HSZ.out) ?_)
        | ((with_reducible refine gate_dst (N := 5) rfl ?_); refine box_event rfl (N := 5) rfl (cs := (Value.int .i64 0 :: Disk.bytes (List.replicate 64 0)).toArray) (t := 75) (by kernel_rfl) ?_; intro gb hgb w5 hbox hb5; have HX := Aside0.mk hbox; have HB5 := Aside0.mk hb5; have HGB := Aside0.mk hgb; clear hgb hbox hb5)
        | ((with_reducible refine gate_store (t := 75) (p := 5) rfl ?_); refine store_new rfl 75 (.tmp 5) (.tmp 16) rfl (Value.int .i64 p.1 :: Disk.bytes p.2) (by rfl) (by rfl) HX.out (by rw [HE.out]; rfl) (by rw [HE.out]; exact HSZ.out) (elem_one p) ?_; intro w6 hx6 hg6 hs6; have hc6 : w6.cell? ⟨gb, 0, none⟩ = some (.int .i64 p.1) := (blk_cell hx6 0).trans rfl; have HB6 := Aside0.mk (show Below wr.heap.size wr w6 from HB5.out.grown hg6 HB5.out.size (fun k e => by injection e with e; have := HGB.out; omega)); clear hx6 hg6 hs6)
        | ((with_reducible refine gate_builtin (b := .append) (xs := #[.tmp 17, .tmp 20]) rfl ?_); at_builtin; refine Kd.R_append (Kd.int .i64) (w0 := w) w.heap.size rfl (.tmp 17) (.tmp 20) 76 3 (.int .i64 0) 8 rfl Try.underlying76 (show (Try.prog.info? 3).map (fun i => (i.zero, i.size, i.bytes)) = some (some (.int .i64 0), 1, 8) from by kernel_rfl) rfl (by decide) (by omega) u3 ((s.loose.take k).map (·.1)) p.1 [.int .i64 p.1] (fun _ => True) (fun _ => False) rfl rfl ?aP (fun _ hk => hk.elim) ?aF ?aO ?aB ?aS ?aL ?_; (case aP => exact rfl); (case aB => exact below_weaken HB.out HB.out.size HB6.out); (case aF => exact fun _ _ => trivial); (case aO => exact Kd.R_below HR.out HB6.out); (case aS => exact Nat.le_trans HB.out.size HB6.out.size); (case aL => have := HL.out; have := HT.out; rw [List.length_map, List.length_take]; omega); intro v7 w7 ho hb hg hat; have HR7 := Aside0.mk ho; have HB7 := Aside0.mk hb; clear ho hb hg hat))
      go_roundg k1
      case measure => omega
      case rel => exact ⟨k + 1, (by first | rfl | go_num), ⟨by have := HQ.out; omega⟩, ⟨by rw [HW.out, List.map_append]; exact HR7.out⟩, HB7⟩
    · have d0 : decide (k < s.loose.length) = false := decide_eq_false hlt
      have HT := Aside0.mk (show s.loose.length ≤ k by omega)
      clear hlt
      go_wp2
      go_ret
      exact ⟨_, rfl, by have := HR.out; rw [List.take_of_length_le HT.out] at this; exact this, HB.out⟩


end Go.Proofs.Ytpojfebecmjloaa.PWalSupers
