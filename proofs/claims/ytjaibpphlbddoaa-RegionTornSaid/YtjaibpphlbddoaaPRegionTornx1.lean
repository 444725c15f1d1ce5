-- Lean text by a program of this repo (wip/tools/printx.py), out of Lean's own print of the translation
import Derived.Deep.AppendLies
import Derived.Laws.CopyOwn
import Derived.Deep.RegionHeld3
import Derived.Deep.MidRow
import Derived.Test.YtjaibpphlbddoaaMid
import Derived.Test.YtjaibpphlbddoaaDisk
import Derived.Test.YtjaibpphlbddoaaOpq
import Derived.Test.YtjaibpphlbddoaaPRegionTornx0
namespace Go.Proofs.Ytjaibpphlbddoaa.PRegionTorn
open Go.RowKit Go.Proofs.YtjaibpphlbddoaaW.PrintWords Go.Proofs.YtjaibpphlbddoaaW.PrintLast Go.Proofs.YtjaibpphlbddoaaW.PrintMore
attribute [local go_sem] max2_int min2_int max_two min_two max_three min_three max_four min_four   -- for this text's walks alone
set_option linter.unusedVariables false
set_option linter.unusedSimpArgs false

-- IMPORT Derived.Test.YtjaibpphlbddoaaOpq
abbrev ts67 : List Nat := [67, 69, 71]
-- IMPORT Derived.Test.YtjaibpphlbddoaaDisk
-- IMPORT Derived.Test.YtjaibpphlbddoaaMid
-- IMPORT Derived.Deep.MidRow
def IsS67 (w0 W : World) (g : Nat) (s : Disk.DiskM) : Prop :=
  ∃ (gl : Nat) (vo : Value), W.heap[g]? = some (.cells #[.slice (some ⟨gl, 0, none⟩) (s.lasts.length / 64) (s.lasts.length / 64), vo, .int .i64 s.fuse, .bool s.down] 67 (0, 0)) ∧ w0.heap.size ≤ g ∧ w0.heap.size ≤ gl ∧
    W.heap[gl]? = some (.cells (Disk.bytes s.lasts).toArray 69 (0, 0)) ∧ W.ownsRow w0.heap.size 71 65 vo s.loose.length (Disk.flat s.loose) ∧ Disk.Ok s
theorem IsS67.blk {w0 W : World} {g : Nat} {s : Disk.DiskM} (h : IsS67 w0 W g s) : ∃ cells, W.heap[g]? = some (.cells cells 67 (0, 0)) := by
  obtain ⟨gl, vo, hg, _⟩ := h
  exact ⟨_, hg⟩
theorem IsS67.ge {w0 W : World} {g : Nat} {s : Disk.DiskM} (h : IsS67 w0 W g s) : w0.heap.size ≤ g := by
  obtain ⟨gl, vo, _, h, _⟩ := h
  exact h
theorem IsS67.frame {w0 W W1 : World} {g : Nat} {s : Disk.DiskM} (h : IsS67 w0 W g s)
    (hk : ∀ k, w0.heap.size ≤ k → k < W.heap.size → Go.Proofs.Ytjaibpphlbddoaa.Opq.Priv ts67 W.heap[k]? → W1.heap[k]? = W.heap[k]?) : IsS67 w0 W1 g s := by
  obtain ⟨gl, vo, hg, h1, h2, hl, ⟨ho1, ho2⟩, hok⟩ := h
  refine ⟨gl, vo, (hk g h1 (blk_lt hg) (by rw [hg]; show _ ∈ ts67; decide)).trans hg, h1, h2, (hk gl h2 (blk_lt hl) (by rw [hl]; show _ ∈ ts67; decide)).trans hl, ⟨ho1, ?_⟩, hok⟩
  rcases ho2 with ho2 | ⟨g2, cap, cur, hv, hb, hh, r⟩
  · exact .inl ho2
  · exact .inr ⟨g2, cap, cur, hv, hb, (hk g2 hb (blk_lt hh) (by rw [hh]; show _ ∈ ts67; decide)).trans hh, r⟩
open Go.Proofs.Ytjaibpphlbddoaa.Opq in
theorem disk_turned {w0 w W : World} {g gl : Nat} {vo : Value} {s s' : Disk.DiskM} (hI : w.heap[g]? = some (.cells #[.slice (some ⟨gl, 0, none⟩) (s.lasts.length / 64) (s.lasts.length / 64), vo, .int .i64 s.fuse, .bool s.down] 67 (0, 0)) ∧ w0.heap.size ≤ g ∧ w0.heap.size ≤ gl ∧
    w.heap[gl]? = some (.cells (Disk.bytes s.lasts).toArray 69 (0, 0)) ∧ w.ownsRow w0.heap.size 71 65 vo s.loose.length (Disk.flat s.loose) ∧ Disk.Ok s)
    (hs : s'.lasts = s.lasts ∧ s'.loose = s.loose) (hg : W.heap[g]? = some (.cells #[.slice (some ⟨gl, 0, none⟩) (s.lasts.length / 64) (s.lasts.length / 64), vo, .int .i64 s'.fuse, .bool s'.down] 67 (0, 0)))
    (hk : ∀ k, k < w.heap.size → k ≠ g → W.heap[k]? = w.heap[k]?) (hz : w.heap.size ≤ W.heap.size) : IsS67 w0 W g s' ∧ KeepO ts67 w0.heap.size w W := by
  obtain ⟨h0, h1, h2, h3, h4, h5⟩ := hI
  have hpr : Priv ts67 w.heap[g]? := by rw [h0]; show _ ∈ ts67; decide
  refine ⟨⟨gl, vo, by rw [hs.1]; exact hg, h1, h2, ?_, ?_, ⟨by rw [hs.1]; exact h5.size, by rw [hs.2]; unfold Disk.len; rw [hs.1]; exact h5.loose⟩⟩, hz, fun k hk' hp => hk k hk' (fun e => ?_)⟩
  · rw [hs.1]
    refine (hk gl (blk_lt h3) (fun e => ?_)).trans h3
    subst e
    rw [h0] at h3
    injection h3 with h3
    injection h3 with _ h3
    exact absurd h3 (by decide)
  · rw [hs.2]
    obtain ⟨ho1, ho2⟩ := h4
    refine ⟨ho1, ?_⟩
    rcases ho2 with ho2 | ⟨g2, cap, cur, hv, hb, hh, r⟩
    · exact .inl ho2
    · refine .inr ⟨g2, cap, cur, hv, hb, (hk g2 (blk_lt hh) (fun e => ?_)).trans hh, r⟩
      subst e
      rw [h0] at hh
      injection hh with hh
      injection hh with _ hh
      exact absurd hh (by decide)
  · subst e
    rcases hp with hp | hp
    · omega
    · exact hp hpr
/-- A loose write's cells, in whatever world the disk's blocks still are. -/
theorem disk_loose {w0 w : World} {vo : Value} {s : Disk.DiskM} (ho : w.ownsRow w0.heap.size 71 65 vo s.loose.length (Disk.flat s.loose)) (hok : Disk.Ok s) (hn : 0 < s.loose.length) :
    ∃ go cap cur, vo = .slice (some ⟨go, 0, none⟩) s.loose.length cap ∧ w0.heap.size ≤ go ∧ w.heap[go]? = some (.cells cur 71 (0, 0)) ∧ s.loose.length ≤ cap ∧
      ∀ (k : Nat) (hk : k < s.loose.length) j v, (Value.int .i64 (s.loose[k]).1 :: Disk.bytes (s.loose[k]).2)[j]? = some v → cur.toList[k * 65 + j]? = some v := by
  obtain ⟨h1, h2⟩ := ho
  rcases h2 with ⟨_, h2⟩ | ⟨g2, cap, cur, hv, hb, hh, hc, _, _, ht⟩
  · omega
  · refine ⟨g2, cap, cur, hv, hb, hh, hc, fun k hk j v hj => ?_⟩
    have h3 := Mid.flat_get (fun p hp => (hok.loose p hp).2.2) hk j v hj
    rw [← ht, List.getElem?_take] at h3
    split at h3
    · exact h3
    · cases h3
theorem disk_loose_nil {w0 w : World} {vo : Value} {s : Disk.DiskM} (ho : w.ownsRow w0.heap.size 71 65 vo s.loose.length (Disk.flat s.loose)) : ∃ A c, vo = .slice A s.loose.length c ∧ s.loose.length ≤ 9223372036854775807 := by
  obtain ⟨h1, h2⟩ := ho
  rcases h2 with ⟨hv, h2⟩ | ⟨g2, cap, cur, hv, hb, hh, hc, hm, _, ht⟩
  · exact ⟨none, 0, by rw [h2]; exact hv, by omega⟩
  · exact ⟨_, _, hv, by unfold maxLen at hm; omega⟩
theorem own_below {w w' : World} {base e size n : Nat} {v : Value} {xs : List Value} (h : w.ownsRow base e size v n xs) (hb : Below w.heap.size w w') : w'.ownsRow base e size v n xs := by
  obtain ⟨h1, h2⟩ := h
  refine ⟨h1, ?_⟩
  rcases h2 with h2 | ⟨g2, cap, cur, hv, hB, hh, r⟩
  · exact .inl h2
  · exact .inr ⟨g2, cap, cur, hv, hB, (hb.block g2 (blk_lt hh)).trans hh, r⟩
theorem own_typed {w : World} {base e size n : Nat} {v : Value} {xs : List Value} (h : w.ownsRow base e size v n xs) : ∀ k, v.ownBlock = some k → base ≤ k ∧ ∃ cells, w.heap[k]? = some (.cells cells e (0, 0)) := by
  obtain ⟨h1, h2⟩ := h
  intro k hk
  rcases h2 with ⟨rfl, _⟩ | ⟨g2, cap, cur, rfl, hB, hh, r⟩
  · simp [Value.ownBlock] at hk
  · simp [Value.ownBlock] at hk
    subst hk
    exact ⟨hB, _, hh⟩
theorem own_far {w : World} {base e size n : Nat} {v : Value} {xs : List Value} {p : Addr} {u : Value} (h : w.ownsRow base e size v n xs) (hp : v.ownBlock ≠ some p.block) : (w.setCell p u).ownsRow base e size v n xs := by
  obtain ⟨h1, h2⟩ := h
  refine ⟨h1, ?_⟩
  rcases h2 with h2 | ⟨g2, cap, cur, rfl, hB, hh, r⟩
  · exact .inl h2
  · exact .inr ⟨g2, cap, cur, rfl, hB, (Below.heap_setCell _ _ _ _ (fun e => hp (by rw [← e]; simp [Value.ownBlock]))).trans hh, r⟩
theorem disk_ne {w : World} {g gl : Nat} {a b : Array Value} (h0 : w.heap[g]? = some (.cells a 67 (0, 0))) (h3 : w.heap[gl]? = some (.cells b 69 (0, 0))) : g ≠ gl := fun e => by
  subst e
  rw [h0] at h3
  injection h3 with hc
  injection hc with _ hc
  exact absurd hc (by decide)
open Go.Proofs.Ytjaibpphlbddoaa.Mid in
theorem disk_step {w : World} {g gl gb n m : Nat} {vo vf vd : Value} {L b : List Int} {bb : List Value}
    (hg : w.heap[g]? = some (.cells #[.slice (some ⟨gl, 0, none⟩) n n, vo, vf, vd] 67 (0, 0))) (hL : w.heap[gl]? = some (.cells (Disk.bytes L).toArray 69 (0, 0)))
    (hx : w.heap[gb]? = some (.cells (Value.int .i64 (m : Int) :: Disk.bytes b).toArray 71 (0, 0))) (hbb : bb = Disk.bytes b) (ho : m * 64 + 64 ≤ L.length) (hne : g ≠ gl) (hnb : gb ≠ gl) (hbl : bb.length = 64) :
    (w.cell? ⟨g, 0, none⟩ = some (.slice (some ⟨gl, 0, none⟩) n n) ∧ w.cell? ⟨gb, 0, none⟩ = some (.int .i64 (m : Int)) ∧ w.rangeAt gb 1 bb ∧ w.there gl (m * 64) bb.length) ∧
    ((w.setCells gl (m * 64) bb).cell? ⟨g, 0, none⟩ = some (.slice (some ⟨gl, 0, none⟩) n n) ∧ (w.setCells gl (m * 64) bb).cell? ⟨gb, 0, none⟩ = some (.int .i64 (m : Int)) ∧ (w.setCells gl (m * 64) bb).rangeAt gb 1 bb ∧ (w.setCells gl (m * 64) bb).there gl (m * 64) bb.length) := by
  have hr : w.rangeAt gb 1 bb := range_of_block hx (fun j v hv => by rw [hbb] at hv; rw [show 1 + j = j + 1 by omega]; simpa using hv)
  have ht : w.there gl (m * 64) bb.length := there_of_block hL (by rw [hbl]; simpa [Disk.bytes_length] using ho)
  have hg2 : (w.setCells gl (m * 64) bb).heap[g]? = _ := (setCells_far bb (m * 64) g hne).trans hg
  have hx2 : (w.setCells gl (m * 64) bb).heap[gb]? = _ := (setCells_far bb (m * 64) gb hnb).trans hx
  exact ⟨⟨(blk_cell hg 0).trans rfl, (blk_cell hx 0).trans rfl, hr, ht⟩, (blk_cell hg2 0).trans rfl, (blk_cell hx2 0).trans rfl, World.rangeAt_setCells_apart hr _ _ _ (.inl hnb), World.there_setCells ht _ _ _⟩
theorem grown_below {w1 w w' : World} {r : Option Nat} (h : w1.grownBy w r) (hb : Below w.heap.size w w') : w1.grownBy w' r :=
  ⟨hb.os.trans h.os, hb.tape.trans h.tape, hb.output.trans h.output, Nat.le_trans h.size hb.size, fun k hk hne => (hb.block k (Nat.lt_of_lt_of_le hk h.size)).trans (h.block k hk hne)⟩
theorem grown_row {w1 w w' : World} {r : Option Nat} (h : w1.grownBy w r) (hb : w.grownBy w' r) : w1.grownBy w' r :=
  ⟨hb.os.trans h.os, hb.tape.trans h.tape, hb.output.trans h.output, Nat.le_trans h.size hb.size, fun k hk hne => (hb.block k (Nat.lt_of_lt_of_le hk h.size) hne).trans (h.block k hk hne)⟩
theorem put_world {w : World} {gl off : Nat} {l b : List Int} {t : TypeId} (hb : w.heap[gl]? = some (.cells (Disk.bytes l).toArray t (0, 0))) (h : off + b.length ≤ l.length) :
    (w.setCells gl off (Disk.bytes b)).heap[gl]? = some (.cells (Disk.bytes (Disk.put l off b)).toArray t (0, 0)) := by
  obtain ⟨cur', hb', _, he⟩ := setCells_row (Disk.bytes b) off w (Disk.bytes l).toArray hb (by simpa [Disk.bytes_length] using h)
  rw [hb']
  have : cur' = (Disk.bytes (Disk.put l off b)).toArray := by
    apply Array.toList_inj.1
    rw [he]
    simp [Disk.put, Disk.bytes]
  rw [this]
theorem put_length {l b : List Int} {off : Nat} (h : off + b.length ≤ l.length) : (Disk.put l off b).length = l.length := by
  unfold Disk.put
  simp
  omega
theorem settle_snoc (r : List (Int × List Int)) (p : Int × List Int) (l : List Int) : Disk.settle (r ++ [p]) l = Disk.put (Disk.settle r l) (p.1.toNat * 64) p.2 := by
  induction r generalizing l with
  | nil => rfl
  | cons q r ih => exact ih _
theorem settle_length {r : List (Int × List Int)} {l : List Int} (h : ∀ p ∈ r, p.1.toNat * 64 + 64 ≤ l.length ∧ p.2.length = 64) : (Disk.settle r l).length = l.length := by
  induction r generalizing l with
  | nil => rfl
  | cons p r ih =>
    obtain ⟨h1, h2⟩ := h p List.mem_cons_self
    have h3 := put_length (l := l) (b := p.2) (off := p.1.toNat * 64) (by omega)
    unfold Disk.settle
    rw [ih (fun q hq => by rw [h3]; exact h q (List.mem_cons_of_mem _ hq)), h3]
open Go.Proofs.Ytjaibpphlbddoaa.Opq in
theorem disk_landed {w0 w1 wr W : World} {g gl : Nat} {vo : Value} {s : Disk.DiskM} {L : List Int} {f : Int} {dn : Bool}
    (hI : w1.heap[g]? = some (.cells #[.slice (some ⟨gl, 0, none⟩) (s.lasts.length / 64) (s.lasts.length / 64), vo, .int .i64 s.fuse, .bool s.down] 67 (0, 0)) ∧ w0.heap.size ≤ g ∧ w0.heap.size ≤ gl ∧
    w1.heap[gl]? = some (.cells (Disk.bytes s.lasts).toArray 69 (0, 0)) ∧ w1.ownsRow w0.heap.size 71 65 vo s.loose.length (Disk.flat s.loose) ∧ Disk.Ok s)
    (hB : Below w0.heap.size w0 w1) (hgr : w1.grownBy wr (some gl)) (hL : wr.heap[gl]? = some (.cells (Disk.bytes L).toArray 69 (0, 0))) (hl : L.length = s.lasts.length)
    (hW : W.heap[g]? = some (.cells #[.slice (some ⟨gl, 0, none⟩) (s.lasts.length / 64) (s.lasts.length / 64), .slice none 0 0, .int .i64 f, .bool dn] 67 (0, 0)))
    (hk : ∀ k, k ≠ g → W.heap[k]? = wr.heap[k]?) (hz : W.heap.size = wr.heap.size) (hos : W.os = wr.os ∧ W.tape = wr.tape ∧ W.output = wr.output) :
    IsS67 w0 W g ⟨L, [], f, dn⟩ ∧ Below w0.heap.size w0 W ∧ KeepO ts67 w0.heap.size w1 W := by
  obtain ⟨h0, h1, h2, h3, h4, h5⟩ := hI
  have hgl : gl ≠ g := fun e => by
    subst e
    rw [h0] at h3
    injection h3 with hc
    injection hc with _ hc
    exact absurd hc (by decide)
  refine ⟨⟨gl, .slice none 0 0, ?_, h1, h2, ?_, ⟨rfl, .inl ⟨rfl, rfl⟩⟩, ?_⟩, ?_, ?_⟩
  · rw [hl]; exact hW
  · exact (hk gl hgl).trans hL
  · refine ⟨?_, fun p hp => by cases hp⟩
    obtain ⟨n, hn, hs⟩ := h5.size
    exact ⟨n, hn, hl.trans hs⟩
  · refine ⟨hos.1.trans (hgr.os.trans hB.os), hos.2.1.trans (hgr.tape.trans hB.tape), hos.2.2.trans (hgr.output.trans hB.output), ?_, fun k hkk => ?_⟩
    · rw [hz]; exact Nat.le_trans hB.size hgr.size
    · exact (hk k (by omega)).trans ((hgr.block k (Nat.lt_of_lt_of_le hkk hB.size) (fun e => by injection e with e; omega)).trans (hB.block k hkk))
  · refine ⟨by rw [hz]; exact hgr.size, fun k hkk hp => ?_⟩
    have hpg : Priv ts67 w1.heap[g]? := by rw [h0]; show _ ∈ ts67; decide
    have hpl : Priv ts67 w1.heap[gl]? := by rw [h3]; show _ ∈ ts67; decide
    have n1 : k ≠ g := fun e => by
      rcases hp with hp | hp
      · omega
      · exact hp (e ▸ hpg)
    have n2 : k ≠ gl := fun e => by
      rcases hp with hp | hp
      · omega
      · exact hp (e ▸ hpl)
    exact (hk k n1).trans (hgr.block k hkk (fun e => by injection e with e; exact n2 e))
theorem IsS67.lt {w0 W : World} {g : Nat} {s : Disk.DiskM} (h : IsS67 w0 W g s) : g < W.heap.size := by
  obtain ⟨_, hb⟩ := h.blk
  exact blk_lt hb
theorem IsS67.fresh {w0 W : World} {g : Nat} {s : Disk.DiskM} (h : IsS67 w0 W g s) : ∀ k, W.heap.size ≤ k → k ≠ g := by
  obtain ⟨_, hb⟩ := h.blk
  exact Kd.freshB hb
theorem IsS67.grown {w0 W : World} {g : Nat} {s : Disk.DiskM} {W1 : World} {row : Option Nat} (h : IsS67 w0 W g s) (hw : W.grownBy W1 row) (hne : Go.Proofs.Ytjaibpphlbddoaa.Opq.NPr ts67 W row) : IsS67 w0 W1 g s := h.frame (Go.Proofs.Ytjaibpphlbddoaa.Opq.frame_grown hw hne)
theorem IsS67.below {w0 W : World} {g : Nat} {s : Disk.DiskM} {W1 : World} (h : IsS67 w0 W g s) (hw : Below W.heap.size W W1) : IsS67 w0 W1 g s := h.frame (fun k _ hk _ => hw.block k hk)
theorem IsS67.alloc {w0 W : World} {g : Nat} {s : Disk.DiskM} (h : IsS67 w0 W g s) (o : Obj) : IsS67 w0 (W.alloc o) g s := h.below (below_alloc (Below.refl _ _) o)
theorem IsS67.drewN {w0 W : World} {g : Nat} {s : Disk.DiskM} (h : IsS67 w0 W g s) (m : Nat) : IsS67 w0 (W.drewN m) g s := h.frame (fun _ _ _ _ => rfl)
theorem IsS67.drew {w0 W : World} {g : Nat} {s : Disk.DiskM} (h : IsS67 w0 W g s) : IsS67 w0 W.drew g s := h.frame (fun _ _ _ _ => rfl)
theorem IsS67.at_ {w0 W : World} {g : Nat} {s : Disk.DiskM} {w' : World} {m : Nat} (hq : W.drewN m = w') (h : IsS67 w0 W g s) : IsS67 w0 w' g s := by subst hq; exact IsS67.drewN h m
theorem IsS67.far {w0 W : World} {g : Nat} {s : Disk.DiskM} {p : Addr} (h : IsS67 w0 W g s) (hne : Go.Proofs.Ytjaibpphlbddoaa.Opq.NP ts67 W p.block) (u : Value) : IsS67 w0 (W.setCell p u) g s := h.frame (Go.Proofs.Ytjaibpphlbddoaa.Opq.frame_far hne u)
theorem IsS67.apart {w0 W : World} {g : Nat} {s : Disk.DiskM} {α : Type} {d : Kd α} {e : Nat} {base : Nat} {ok : Nat → Prop} {v : Value} {xs : List α} (h : IsS67 w0 W g s) (ho : d.R e W base ok v xs) (ht : ∀ q, q ∈ e :: d.E → q ≠ 67) : d.R e W base (fun k => ok k ∧ k ≠ g) v xs := by
  obtain ⟨_, hb⟩ := h.blk
  exact Kd.R_types ho hb ht
theorem IsS67.own_ne {w0 W : World} {g : Nat} {s : Disk.DiskM} {α : Type} {d : Kd α} {e : Nat} {base : Nat} {ok : Nat → Prop} {v : Value} {xs : List α} (h : IsS67 w0 W g s) (ho : d.R e W base ok v xs) (ht : e ≠ 67) : some g ≠ v.ownBlock := by
  obtain ⟨_, hb⟩ := h.blk
  exact Kd.R_ne ho hb ht
theorem IsS67.apartQ {w0 W : World} {g : Nat} {s : Disk.DiskM} {α : Type} {d : Kd α} {e : Nat} {base : Nat} {ok : Nat → Prop} {v : Value} {xs : List α} (h : IsS67 w0 W g s) (ho : d.Q e W base ok v xs) (ht : ∀ q, q ∈ e :: d.E → q ≠ 67) : d.Q e W base (fun k => ok k ∧ k ≠ g) v xs := by
  obtain ⟨_, hb⟩ := h.blk
  exact Kd.Q_types ho hb ht
theorem IsS67.own_neQ {w0 W : World} {g : Nat} {s : Disk.DiskM} {α : Type} {d : Kd α} {e : Nat} {base : Nat} {ok : Nat → Prop} {v : Value} {xs : List α} (h : IsS67 w0 W g s) (ho : d.Q e W base ok v xs) (ht : e ≠ 67) : some g ≠ v.ownBlock := by
  obtain ⟨_, hb⟩ := h.blk
  exact Kd.Q_ne ho hb ht
theorem IsS67.apartS {w0 W : World} {g : Nat} {s : Disk.DiskM} {α : Type} {d : Kd α} {e : Nat} {base : Nat} {ok : Nat → Prop} {v : Value} {xs : List α} (h : IsS67 w0 W g s) (ho : d.S e W base ok v xs) (ht : ∀ q, q ∈ e :: d.E → q ≠ 67) : d.S e W base (fun k => ok k ∧ k ≠ g) v xs := by
  obtain ⟨_, hb⟩ := h.blk
  exact Kd.S_types ho hb ht
theorem IsS67.own_neS {w0 W : World} {g : Nat} {s : Disk.DiskM} {α : Type} {d : Kd α} {e : Nat} {base : Nat} {ok : Nat → Prop} {v : Value} {xs : List α} (h : IsS67 w0 W g s) (ho : d.S e W base ok v xs) (ht : e ≠ 67) : some g ≠ v.ownBlock := by
  obtain ⟨_, hb⟩ := h.blk
  exact Kd.S_ne ho hb ht
theorem IsS67.own_neN {w0 W : World} {g : Nat} {s : Disk.DiskM} {α : Type} {d : Kd α} {e : Nat} {base : Nat} {ok : Nat → Prop} {v : Value} {xs : List α} (h : IsS67 w0 W g s) (ho : Kd.N d e W base ok v xs) (ht : e ≠ 67) : some g ≠ v.ownBlock := by
  obtain ⟨_, hb⟩ := h.blk
  exact Kd.N_ne ho hb ht
theorem IsS67.ne_blk {w0 W : World} {g : Nat} {s : Disk.DiskM} {a : Nat} {cs : Array Value} {t : TypeId} {fr : Nat × Nat} (h : IsS67 w0 W g s) (hb2 : W.heap[a]? = some (.cells cs t fr)) (ht : t ≠ 67) : g ≠ a := by
  obtain ⟨_, hb⟩ := h.blk
  rintro rfl
  rw [hb] at hb2
  injection hb2 with hb2
  injection hb2 with _ ht2
  exact ht ht2.symm

/-! ### sector_New: function 13 -/
-- FN rounds=0 making=1
def sector_New.f (a0 : Int) : Option (Disk.DiskM) := some (Disk.new a0)
theorem new_cells (n : Nat) : madeCells (Array.replicate 64 (.int .u8 0)) (n * 64) = (Disk.bytes (List.replicate (n * 64) 0)).toArray := by
  apply Array.ext
  · simp [madeCells, Disk.bytes]
  · intro i h1 h2
    have hi : i % 64 < 64 := Nat.mod_lt _ (by decide)
    simp [madeCells, Disk.bytes, hi]
theorem new_make (w : World) (v : Int) (h0 : 0 ≤ v) (h1 : v ≤ 1024) : ∃ C : Array Value, C = (Disk.bytes (List.replicate (v.toNat * 64) 0)).toArray ∧
    (Instr.makeSlice 64 (.int .i64 v) (.int .i64 v)).run Try.prog w = .ok (.slice (some ⟨w.heap.size, 0, none⟩) v.toNat v.toNat) (w.alloc (.cells C 69)) := by
  have hi : (Try.prog.info? 69).map (fun i => (i.zero, i.size, i.bytes)) = some (some (.agg (Array.replicate 64 (.int .u8 0))), 64, 64) := by kernel_rfl
  cases he : Try.prog.info? 69 with
  | none => rw [he] at hi; cases hi
  | some i =>
    rw [he] at hi
    injection hi with hi
    injection hi with hz hi
    injection hi with hs hb
    have h := run_make (P := Try.prog) w 64 69 i _ Try.underlying64 he hz .i64 .i64 v v h0 (Int.le_refl _) (by rw [hb]; omega) (by omega)
    refine ⟨_, rfl, ?_⟩
    rw [h, hs]
    congr 3
    exact new_cells v.toNat
theorem new_is {w0 w : World} {a0 : Int} {m : Nat} {C : Array Value} (hs : w0.heap.size ≤ w.heap.size) (hm : (min (max a0 0) 1024).toNat = m) (h1 : m ≤ 1024) (hC : C = (Disk.bytes (List.replicate (m * 64) 0)).toArray) :
    IsS67 w0 ((w.alloc (.cells C 69)).alloc (.cells #[.slice (some ⟨w.heap.size, 0, none⟩) m m, .slice none 0 0, .int .i64 (-1), .bool false] 67)) (w.heap.size + 1) (Disk.new a0) := by
  subst hC
  have hl : (Disk.new a0).lasts = List.replicate (m * 64) 0 := by unfold Disk.new; rw [hm]
  have hl2 : (Disk.new a0).lasts.length = m * 64 := by rw [hl, List.length_replicate]
  have hd : m * 64 / 64 = m := Nat.mul_div_cancel m (by decide)
  refine ⟨w.heap.size, .slice none 0 0, ?_, by omega, hs, ?_, ⟨rfl, .inl ⟨rfl, rfl⟩⟩, ⟨m, h1, hl2⟩, fun p hp => by cases hp⟩
  · have := heap_alloc_new (w.alloc (.cells (Disk.bytes (List.replicate (m * 64) 0)).toArray 69)) (.cells #[.slice (some ⟨w.heap.size, 0, none⟩) m m, .slice none 0 0, .int .i64 (-1), .bool false] 67)
    rw [hl2, hd]
    rw [show (w.alloc (.cells (Disk.bytes (List.replicate (m * 64) 0)).toArray 69)).heap.size = w.heap.size + 1 from by simp] at this
    exact this
  · rw [hl]
    have h2 := heap_alloc_new w (.cells (Disk.bytes (List.replicate (m * 64) 0)).toArray 69)
    exact (below_alloc (Below.refl _ (w.alloc (.cells (Disk.bytes (List.replicate (m * 64) 0)).toArray 69))) _).block _ (by simp) |>.trans h2
set_option maxHeartbeats 4000000 in
open Go.Proofs.Ytjaibpphlbddoaa.Opq in
theorem sector_New.calls (a0 : Int) (r : Disk.DiskM) (w0 w : World) (hB : Below w0.heap.size w0 w) (h : sector_New.f a0 = some r) :
    Calls Try.prog 13 #[.int .i64 a0] w fun e w' => ∃ g_ : Nat, e = .returned (.pointer (some ⟨g_, 0, none⟩)) ∧ IsS67 w0 w' g_ r ∧ Below w0.heap.size w0 w' ∧ Below w.heap.size w w' := by
  obtain rfl := Option.some.inj h
  have HB := Aside0.mk hB
  have HS := Aside0.mk hB.size
  clear h hB
  by_cases hr : 0 ≤ a0 ∧ a0 ≤ 1024
  · obtain ⟨C, hC, hmk2⟩ := new_make w a0 hr.1 hr.2
    have HC := Aside0.mk hC
    clear hC
    go_enter Try.func13, Try.ntmps13
    go_wp2
    go_ret
    exact ⟨_, rfl, new_is HS.out (by omega) (by omega) HC.out, below_weaken HB.out HS.out (below_alloc (below_alloc (Below.refl _ _) _) _), below_alloc (below_alloc (Below.refl _ _) _) _⟩
  · by_cases hn : a0 < 0
    · obtain ⟨C, hC, hmk⟩ := new_make w 0 (by decide) (by decide)
      have HC := Aside0.mk hC
      clear hC hr
      go_enter Try.func13, Try.ntmps13
      go_wp2
      go_ret
      exact ⟨_, rfl, new_is (m := 0) HS.out (by omega) (by omega) HC.out, below_weaken HB.out HS.out (below_alloc (below_alloc (Below.refl _ _) _) _), below_alloc (below_alloc (Below.refl _ _) _) _⟩
    · have hr2 : a0 > 1024 := by omega
      obtain ⟨C, hC, hmk⟩ := new_make w 1024 (by decide) (by decide)
      have HC := Aside0.mk hC
      clear hC hr hn
      go_enter Try.func13, Try.ntmps13
      go_wp2
      go_ret
      exact ⟨_, rfl, new_is (m := 1024) HS.out (by omega) (by omega) HC.out, below_weaken HB.out HS.out (below_alloc (below_alloc (Below.refl _ _) _) _), below_alloc (below_alloc (Below.refl _ _) _) _⟩


/-! ### sector_Disk_Crash: function 15 -/
-- FN rounds=0 making=1
-- IMPORT Derived.Deep.RegionHeld3
-- IMPORT Derived.Deep.MidRow
def sector_Disk_Crash.f (s : Disk.DiskM) (a1 : Int) (a2 : Int) (a3 : Int) : Option (Disk.DiskM) := if s.loose.length < 1000000 then some (Disk.crash s a1 a2 a3) else none
set_option maxHeartbeats 8000000 in
set_option maxRecDepth 100000 in
open Go.Proofs.Ytjaibpphlbddoaa.Opq Go.Proofs.Ytjaibpphlbddoaa.Mid in
theorem sector_Disk_Crash.calls (g : Nat) (s0_0 : Disk.DiskM) (a1 : Int) (a2 : Int) (a3 : Int) (r : Disk.DiskM) (w0 w : World) (hI : IsS67 w0 w g s0_0) (hB : Below w0.heap.size w0 w) (h : sector_Disk_Crash.f s0_0 a1 a2 a3 = some r) :
    Calls Try.prog 15 #[.pointer (some ⟨g, 0, none⟩), .int .u64 a1, .int .i64 a2, .int .i64 a3] w fun e w' => e = .returned (.tuple #[]) ∧ IsS67 w0 w' g r ∧ Below w0.heap.size w0 w' ∧ Go.Proofs.Ytjaibpphlbddoaa.Opq.KeepO ts67 w0.heap.size w w' := by
  unfold sector_Disk_Crash.f at h
  split at h
  case isFalse => cases h
  case isTrue hlen =>
  obtain rfl := Option.some.inj h
  obtain ⟨gl, vo, hg, hge, hgb, hgl, hown, hok⟩ := hI
  obtain ⟨Av, cv, rfl, _⟩ := disk_loose_nil hown
  have hcell1 : w.cell? ⟨g, 1, none⟩ = some (.slice Av s0_0.loose.length cv) := (blk_cell hg 1).trans rfl
  have HALL := Aside0.mk (And.intro hg (And.intro hge (And.intro hgb (And.intro hgl (And.intro hown hok)))))
  have HB1 := Aside0.mk hB
  have HL := Aside0.mk hlen
  have hu := Try.underlying71
  have HSZ := Aside0.mk (show (Try.prog.info? 71).map (·.size) = some 65 by kernel_rfl)
  have HU := Aside0.mk hu
  clear hu hg hge hgb hgl hown hok hB hlen h
  obtain ⟨part, hpart⟩ : ∃ part : Nat, min (max a3 0) 64 = (part : Int) := ⟨(min (max a3 0) 64).toNat, by omega⟩
  have hp3 : (a3 < 0 ∧ part = 0) ∨ (0 ≤ a3 ∧ a3 ≤ 64 ∧ a3 = (part : Int)) ∨ (64 < a3 ∧ part = 64) := by omega
  have HP3 := Aside0.mk hp3
  have HPT := Aside0.mk hpart
  clear hp3 hpart
  generalize hw1 : w = w1 at *
  go_enter Try.func15, Try.ntmps15
  go_wp2_with fail
  go_loopg [18] (s0_0.loose.length + 1) (fun kq v18 wr => ∃ k : Nat, v18 = .int .i64 k ∧ Aside0 (k + kq = s0_0.loose.length + 1) ∧ Aside0 (w1.grownBy wr (some gl)) ∧ Aside0 (wr.heap[gl]? = some (.cells (Disk.bytes (Disk.crashed a1 a2 (part : Int) 0 (s0_0.loose.take k) s0_0.lasts)).toArray 69 (0, 0))))
  case atStart => exact ⟨0, rfl, ⟨by omega⟩, ⟨⟨rfl, rfl, rfl, Nat.le_refl _, fun _ _ _ => rfl⟩⟩, ⟨HALL.out.2.2.2.1⟩⟩
  case round =>
    obtain ⟨k, rfl, HQ, HG, HLL⟩ := hrel
    by_cases hlt : k < s0_0.loose.length
    · have d0 : decide (k < s0_0.loose.length) = true := decide_eq_true hlt
      obtain ⟨go, cap, cur, hv, hgo, hh, hc, hcells⟩ : ∃ go cap cur, Value.slice Av s0_0.loose.length cv = .slice (some ⟨go, 0, none⟩) s0_0.loose.length cap ∧ w0.heap.size ≤ go ∧ w1.heap[go]? = some (.cells cur 71 (0, 0)) ∧ s0_0.loose.length ≤ cap ∧
        ∀ (k : Nat) (hk : k < s0_0.loose.length) j v, (Value.int .i64 (s0_0.loose[k]).1 :: Disk.bytes (s0_0.loose[k]).2)[j]? = some v → cur.toList[k * 65 + j]? = some v := disk_loose (s := s0_0) HALL.out.2.2.2.2.1 HALL.out.2.2.2.2.2 (show 0 < s0_0.loose.length by omega)
      injection hv with hA _ hcv
      subst hA hcv
      have q0 : (0 : Int) ≤ (k : Int) := by omega
      have q1 : (k : Int) < (s0_0.loose.length : Int) := by omega
      have hgogl : go ≠ gl := fun e => by
        subst e
        have h3 := HALL.out.2.2.2.1
        rw [hh] at h3
        injection h3 with hc
        injection hc with _ hc
        exact absurd hc (by decide)
      have HH := Aside0.mk ((HG.out.block go (blk_lt hh) (fun e => by injection e with e; exact hgogl e)).trans hh)
      have HC := Aside0.mk (fun j v => hcells k hlt j v)
      have HOK := Aside0.mk (HALL.out.2.2.2.2.2.loose s0_0.loose[k] (List.getElem_mem hlt))
      have HT := Aside0.mk hlt
      have HW := Aside0.mk (show s0_0.loose.take (k + 1) = s0_0.loose.take k ++ [s0_0.loose[k]] from List.take_succ_eq_append_getElem hlt)
      generalize s0_0.loose[k] = p at HC HW HOK
      obtain ⟨pa, b⟩ := p
      obtain ⟨m, rfl⟩ := Int.eq_ofNat_of_zero_le HOK.out.1
      have HE := Aside0.mk (show (Value.int .i64 (m : Int) :: Disk.bytes b).length = 65 by
        have := HOK.out.2.2
        simp [Disk.bytes, this])
      clear hlt hgo hh hc hcells hgogl
      cases gk with
      | zero => exact absurd HQ.out (by have := HT.out; omega)
      | succ k1 =>
      by_cases htn : (k : Int) = a2
      · have d1 : ((k : Int) == a2) = true := beq_iff_eq.2 htn
        have HTN := Aside0.mk htn
        clear htn
        go_wp2_with (first
          | ((with_reducible refine gate_dst (N := 22) rfl ?_); refine load_blk rfl 71 (.tmp 21) rfl (Value.int .i64 (m : Int) :: Disk.bytes b) _ (by rfl) HH.out HC.out HU.out rfl (by rw [HE.out]; exact HSZ.out) ?_)
          | ((with_reducible refine gate_dst (N := 9) rfl ?_); refine box_event rfl (N := 9) rfl (cs := (Value.int .i64 0 :: Disk.bytes (List.replicate 64 0)).toArray) (t := 71) (by kernel_rfl) ?_; intro gb hgb w5 hbox hb5; have HX := Aside0.mk hbox; have HB5 := Aside0.mk hb5; have HGB := Aside0.mk hgb; clear hgb hbox hb5)
          | ((with_reducible refine gate_store (t := 71) (p := 9) rfl ?_); refine store_new rfl 71 (.tmp 9) (.tmp 22) rfl (Value.int .i64 (m : Int) :: Disk.bytes b) (by rfl) (by rfl) HX.out (by rw [HE.out]; rfl) (by rw [HE.out]; exact HSZ.out) (elem_one ((m : Int), b)) ?_; intro w6 hx6 hg6 hs6; have HX6 := Aside0.mk hx6; have HB6 := Aside0.mk (show Below wr.heap.size wr w6 from HB5.out.grown hg6 HB5.out.size (fun k e => by injection e with e; have := HGB.out; omega)); clear hx6 hg6 hs6))
        all_goals (have hp3 := HP3.out; have hpt := HPT.out; first | (have hq : a3 = (part : Int) := by omega
                                                                      subst hq) | skip)
        all_goals (have pz0 : (0 : Int) ≤ (part : Int) := by omega)
        all_goals (have pz1 : (part : Int) ≤ 64 := by omega)
        all_goals
          obtain ⟨LL, hLL⟩ : ∃ LL, LL = Disk.crashed a1 a2 (part : Int) 0 (s0_0.loose.take k) s0_0.lasts := ⟨_, rfl⟩
          have HLW := Aside0.mk (hLL ▸ HLL.out)
          obtain ⟨n, hn⟩ : ∃ n, n = s0_0.lasts.length / 64 := ⟨_, rfl⟩
          obtain ⟨bb, hbb⟩ : ∃ bb, bb = Disk.bytes b := ⟨_, rfl⟩
          have hbl : bb.length = 64 := by rw [hbb, Disk.bytes_length]; exact HOK.out.2.2
          have p0 : (0 : Int) ≤ (m : Int) := by omega
          have hmn : m < n := by have h2 : (m : Int) < ((s0_0.lasts.length / 64 : Nat) : Int) := HOK.out.2.1; omega
          have p1 : (m : Int) < (n : Int) := by omega
          have HGR6 := Aside0.mk (show w1.grownBy w6.drew (some gl) from grown_below HG.out (show Below wr.heap.size wr w6.drew from ⟨HB6.out.1, HB6.out.2, HB6.out.3, HB6.out.4, HB6.out.5⟩))
          have hL6 : w6.drew.heap[gl]? = some (.cells (Disk.bytes LL).toArray 69 (0, 0)) := (HB6.out.block gl (blk_lt HLL.out)).trans (by rw [hLL]; exact HLL.out)
          have hbo := Disk.there_in  HALL.out.2.2.2.2.2 (at_ := (m : Int)) (by unfold Disk.there; rw [decide_eq_true HOK.out.1, decide_eq_true HOK.out.2.1]; rfl)
          have hLl : LL.length = s0_0.lasts.length := by rw [hLL]; exact Disk.crashed_length (fun p hp => by
              have h2 := HALL.out.2.2.2.2.2.loose p (List.mem_of_mem_take hp)
              have h3 := Disk.there_in HALL.out.2.2.2.2.2 (at_ := p.1) (by unfold Disk.there; rw [decide_eq_true h2.1, decide_eq_true h2.2.1]; rfl)
              exact ⟨h3.2.2, h2.2.2⟩)
          have HKL := Aside0.mk (show Disk.crashed a1 a2 (part : Int) 0 (s0_0.loose.take (k + 1)) s0_0.lasts = Disk.crashOne a1 a2 (part : Int) k ((m : Int), b) LL by rw [HW.out, Disk.crashed_snoc, hLL, List.length_take, Nat.min_eq_left (Nat.le_of_lt HT.out), Nat.zero_add])
          have hgw : w6.drew.heap[g]? = _ := (HGR6.out.block g (blk_lt HALL.out.1) (fun e => by injection e with e; exact disk_ne HALL.out.1 HALL.out.2.2.2.1 e)).trans HALL.out.1
          have hnb : gb ≠ gl := fun e => by subst e; have := blk_lt HLL.out; have := HGB.out; omega
          have hS := disk_step (n := n) (m := m) (bb := bb) (show w6.drew.heap[g]? = _ from hn ▸ hgw) hL6 HX6.out hbb (by rw [hLl]; exact hbo.2.2) (disk_ne HALL.out.1 HALL.out.2.2.2.1) hnb hbl
          have hSd : w6.drew.cell? ⟨g, 0, none⟩ = some (.slice (some ⟨gl, 0, none⟩) n n) ∧ w6.drew.cell? ⟨gb, 0, none⟩ = some (.int .i64 (m : Int)) := ⟨hS.1.1, hS.1.2.1⟩
          have hsrc : ∀ (j : Nat) v, (Disk.bytes (b.take part))[j]? = some v → w6.drew.cell? ((⟨gb, 1, none⟩ : Addr).add j) = some v := by
            intro j v hv
            rw [Addr.add_mid]
            refine hS.1.2.2.1 j v ?_
            rw [hbb]
            unfold Disk.bytes at hv ⊢
            rw [List.map_take, List.getElem?_take] at hv
            split at hv
            · exact hv
            · cases hv
          have h1 : ∀ v ∈ Disk.bytes (b.take part), v.oneCell' = true := by intro v hv; unfold Disk.bytes at hv; obtain ⟨x, _, rfl⟩ := List.mem_map.1 hv; rfl
          have hpl : (Disk.bytes (b.take part)).length = part := by rw [Disk.bytes_length, List.length_take]; have := HOK.out.2.2; have := HPT.out; simp at *; omega
          have hlg : g < w6.drew.heap.size := blk_lt hgw
          have hlb : gb < w6.drew.heap.size := blk_lt HX6.out
          have hneg : g ≠ gl := disk_ne HALL.out.1 HALL.out.2.2.2.1
          have hu := Try.underlying22
          have HFIT := Aside0.mk (show m * 64 + part ≤ LL.length by rw [hLl]; have := hbo.2.2; have := HPT.out; simp at *; omega)
          clear hS hgw hLl hbo hbb hn hmn hLL
          go_region_held3 (fun w' => w'.cell? ⟨g, 0, none⟩ = some (.slice (some ⟨gl, 0, none⟩) n n) ∧ w'.cell? ⟨gb, 0, none⟩ = some (.int .i64 (m : Int))) (first | exact hSd | exact ⟨(hc2.cell_far ⟨g, 0, none⟩ hlg (fun e => by injection e with e; exact hneg e)).trans hSd.1, (hc2.cell_far ⟨gb, 0, none⟩ hlb (fun e => by injection e with e; exact hnb e)).trans hSd.2⟩)
            ((refine step_copy_row (by rfl) _ _ _ _ (by rfl) 5 hu (by kernel_rfl) gl (m * 64) _ _ ⟨gb, 1, none⟩ _ _ (by rfl) (by rfl) (Disk.bytes LL) 69 hL6 (Disk.bytes (b.take part)) (by rw [hpl]; simp; try omega) hsrc (by rw [hpl, Disk.bytes_length]; exact HFIT.out) h1 ?_; intro w7 hc1 hc2))
          clear hSd hsrc h1 hlg hlb hneg hu
          go_wp2
          go_roundg k1
          case measure => omega
          case rel => exact ⟨k + 1, (by first | rfl | (rw [show RowKit.wrap64 ((k : Int) + 1) = ((k + 1 : Nat) : Int) by have := HL.out; have := HT.out; unfold RowKit.wrap64; omega])), ⟨by have := HQ.out; omega⟩, ⟨grown_row HGR6.out hc2⟩, ⟨by rw [HKL.out]; unfold Disk.crashOne; rw [if_pos HTN.out]; simpa [Disk.put, Disk.bytes] using hc1⟩⟩
      · have d1 : ((k : Int) == a2) = false := beq_eq_false_iff_ne.2 htn
        have HTN := Aside0.mk htn
        clear htn
        by_cases hbit : (bits BinOp.and IntKind.u64 (a1 / 2 ^ (k % 64)) 1 == 1) = true
        · have HBT := Aside0.mk hbit
          go_wp2_with (first
            | ((with_reducible refine gate_dst (N := 22) rfl ?_); refine load_blk rfl 71 (.tmp 21) rfl (Value.int .i64 (m : Int) :: Disk.bytes b) _ (by rfl) HH.out HC.out HU.out rfl (by rw [HE.out]; exact HSZ.out) ?_)
            | ((with_reducible refine gate_dst (N := 9) rfl ?_); refine box_event rfl (N := 9) rfl (cs := (Value.int .i64 0 :: Disk.bytes (List.replicate 64 0)).toArray) (t := 71) (by kernel_rfl) ?_; intro gb hgb w5 hbox hb5; have HX := Aside0.mk hbox; have HB5 := Aside0.mk hb5; have HGB := Aside0.mk hgb; clear hgb hbox hb5)
            | ((with_reducible refine gate_store (t := 71) (p := 9) rfl ?_); refine store_new rfl 71 (.tmp 9) (.tmp 22) rfl (Value.int .i64 (m : Int) :: Disk.bytes b) (by rfl) (by rfl) HX.out (by rw [HE.out]; rfl) (by rw [HE.out]; exact HSZ.out) (elem_one ((m : Int), b)) ?_; intro w6 hx6 hg6 hs6; have HX6 := Aside0.mk hx6; have HB6 := Aside0.mk (show Below wr.heap.size wr w6 from HB5.out.grown hg6 HB5.out.size (fun k e => by injection e with e; have := HGB.out; omega)); clear hx6 hg6 hs6))
          obtain ⟨LL, hLL⟩ : ∃ LL, LL = Disk.crashed a1 a2 (part : Int) 0 (s0_0.loose.take k) s0_0.lasts := ⟨_, rfl⟩
          have HLW := Aside0.mk (hLL ▸ HLL.out)
          obtain ⟨n, hn⟩ : ∃ n, n = s0_0.lasts.length / 64 := ⟨_, rfl⟩
          obtain ⟨bb, hbb⟩ : ∃ bb, bb = Disk.bytes b := ⟨_, rfl⟩
          have hbl : bb.length = 64 := by rw [hbb, Disk.bytes_length]; exact HOK.out.2.2
          have p0 : (0 : Int) ≤ (m : Int) := by omega
          have hmn : m < n := by have h2 : (m : Int) < ((s0_0.lasts.length / 64 : Nat) : Int) := HOK.out.2.1; omega
          have p1 : (m : Int) < (n : Int) := by omega
          have HGR6 := Aside0.mk (show w1.grownBy w6.drew (some gl) from grown_below HG.out (show Below wr.heap.size wr w6.drew from ⟨HB6.out.1, HB6.out.2, HB6.out.3, HB6.out.4, HB6.out.5⟩))
          have hL6 : w6.drew.heap[gl]? = some (.cells (Disk.bytes LL).toArray 69 (0, 0)) := (HB6.out.block gl (blk_lt HLL.out)).trans (by rw [hLL]; exact HLL.out)
          have hbo := Disk.there_in  HALL.out.2.2.2.2.2 (at_ := (m : Int)) (by unfold Disk.there; rw [decide_eq_true HOK.out.1, decide_eq_true HOK.out.2.1]; rfl)
          have hLl : LL.length = s0_0.lasts.length := by rw [hLL]; exact Disk.crashed_length (fun p hp => by
              have h2 := HALL.out.2.2.2.2.2.loose p (List.mem_of_mem_take hp)
              have h3 := Disk.there_in HALL.out.2.2.2.2.2 (at_ := p.1) (by unfold Disk.there; rw [decide_eq_true h2.1, decide_eq_true h2.2.1]; rfl)
              exact ⟨h3.2.2, h2.2.2⟩)
          have HKL := Aside0.mk (show Disk.crashed a1 a2 (part : Int) 0 (s0_0.loose.take (k + 1)) s0_0.lasts = Disk.crashOne a1 a2 (part : Int) k ((m : Int), b) LL by rw [HW.out, Disk.crashed_snoc, hLL, List.length_take, Nat.min_eq_left (Nat.le_of_lt HT.out), Nat.zero_add])
          have hoff : m * 64 + b.length ≤ LL.length := by rw [hLl]; have := hbo.2.2; have := HOK.out.2.2; simp at *; omega
          have HPUT := Aside0.mk (put_world hL6 hoff)
          rw [← hbb] at HPUT
          have hgw : w6.drew.heap[g]? = _ := (HGR6.out.block g (blk_lt HALL.out.1) (fun e => by injection e with e; exact disk_ne HALL.out.1 HALL.out.2.2.2.1 e)).trans HALL.out.1
          have hS := disk_step (n := n) (m := m) (bb := bb) (show w6.drew.heap[g]? = _ from hn ▸ hgw) hL6 HX6.out hbb (by omega) (disk_ne HALL.out.1 HALL.out.2.2.2.1) (show gb ≠ gl from fun e => by subst e; have := blk_lt HLL.out; have := HGB.out; omega) hbl
          have hSd := hS.1
          have hSs := hS.2
          have hi : (Try.prog.info? 69).map (·.size) = some bb.length := by rw [hbl]; kernel_rfl
          have hu := Try.underlying69
          have h1 : ∀ v ∈ bb, v.oneCell' = true := by rw [hbb]; intro v hv; unfold Disk.bytes at hv; obtain ⟨x, _, rfl⟩ := List.mem_map.1 hv; rfl
          have HGX := Aside0.mk (show w1.grownBy (w6.drew.setCells gl (m * 64) bb) (some gl) from grown_row HGR6.out (grown_setCells gl (m * 64) bb _))
          have HBB := Aside0.mk hbb
          clear hS hgw hoff hLl hbo hL6 hbb hn hmn hLL
          go_region_held3 (fun w' => w'.cell? ⟨g, 0, none⟩ = some (.slice (some ⟨gl, 0, none⟩) n n) ∧ w'.cell? ⟨gb, 0, none⟩ = some (.int .i64 (m : Int)) ∧ w'.rangeAt gb 1 bb ∧ w'.there gl (m * 64) bb.length) (first | exact hSd | exact hSs) (fail)
          clear hSd hSs hu hi h1
          go_wp2
          go_roundg k1
          case measure => omega
          case rel => exact ⟨k + 1, (by first | rfl | (rw [show RowKit.wrap64 ((k : Int) + 1) = ((k + 1 : Nat) : Int) by have := HL.out; have := HT.out; unfold RowKit.wrap64; omega])), ⟨by have := HQ.out; omega⟩, HGX, ⟨by rw [HKL.out]; unfold Disk.crashOne; rw [if_neg HTN.out, if_pos HBT.out]; exact HPUT.out⟩⟩
        · have hbit := Bool.eq_false_iff.2 hbit
          have HBT := Aside0.mk hbit
          go_wp2_with (first
            | ((with_reducible refine gate_dst (N := 22) rfl ?_); refine load_blk rfl 71 (.tmp 21) rfl (Value.int .i64 (m : Int) :: Disk.bytes b) _ (by rfl) HH.out HC.out HU.out rfl (by rw [HE.out]; exact HSZ.out) ?_)
            | ((with_reducible refine gate_dst (N := 9) rfl ?_); refine box_event rfl (N := 9) rfl (cs := (Value.int .i64 0 :: Disk.bytes (List.replicate 64 0)).toArray) (t := 71) (by kernel_rfl) ?_; intro gb hgb w5 hbox hb5; have HX := Aside0.mk hbox; have HB5 := Aside0.mk hb5; have HGB := Aside0.mk hgb; clear hgb hbox hb5)
            | ((with_reducible refine gate_store (t := 71) (p := 9) rfl ?_); refine store_new rfl 71 (.tmp 9) (.tmp 22) rfl (Value.int .i64 (m : Int) :: Disk.bytes b) (by rfl) (by rfl) HX.out (by rw [HE.out]; rfl) (by rw [HE.out]; exact HSZ.out) (elem_one ((m : Int), b)) ?_; intro w6 hx6 hg6 hs6; have HX6 := Aside0.mk hx6; have HB6 := Aside0.mk (show Below wr.heap.size wr w6 from HB5.out.grown hg6 HB5.out.size (fun k e => by injection e with e; have := HGB.out; omega)); clear hx6 hg6 hs6))
          go_roundg k1
          case measure => omega
          case rel => exact ⟨k + 1, (by first | rfl | (rw [show RowKit.wrap64 ((k : Int) + 1) = ((k + 1 : Nat) : Int) by have := HL.out; have := HT.out; unfold RowKit.wrap64; omega])), ⟨by have := HQ.out; omega⟩, ⟨grown_below HG.out HB6.out⟩, ⟨by
            rw [HW.out, Disk.crashed_snoc, List.length_take, Nat.min_eq_left (Nat.le_of_lt HT.out), Nat.zero_add]
            unfold Disk.crashOne
            rw [if_neg HTN.out, if_neg (by rw [HBT.out]; simp)]
            exact (HB6.out.block gl (blk_lt HLL.out)).trans HLL.out⟩⟩
    · have d0 : decide (k < s0_0.loose.length) = false := decide_eq_false hlt
      have HT := Aside0.mk (show s0_0.loose.length ≤ k by omega)
      clear hlt
      have hgw : wr.heap[g]? = _ := (HG.out.block g (blk_lt HALL.out.1) (fun e => by injection e with e; exact disk_ne HALL.out.1 HALL.out.2.2.2.1 e)).trans HALL.out.1
      have hcg : wr.cell? ⟨g, 1, none⟩ = some (.slice Av s0_0.loose.length cv) := (blk_cell hgw 1).trans rfl
      have hfg : wr.frozen? ⟨g, 1, none⟩ = false := blk_frozen hgw 1
      have hcg2 : wr.cell? ⟨g, 2, none⟩ = some (.int .i64 s0_0.fuse) := (blk_cell hgw 2).trans rfl
      have hfg2 : wr.frozen? ⟨g, 2, none⟩ = false := blk_frozen hgw 2
      have hcg3 : wr.cell? ⟨g, 3, none⟩ = some (.bool s0_0.down) := (blk_cell hgw 3).trans rfl
      have hfg3 : wr.frozen? ⟨g, 3, none⟩ = false := blk_frozen hgw 3
      have HGW := Aside0.mk hgw
      clear hgw
      go_wp2
      first | go_end0 | skip
      have hW1 := blk_set HGW.out 1 (.slice none 0 0)
      have hW2 := blk_set hW1 2 (.int .i64 (-1))
      have hW3 := blk_set hW2 3 (.bool false)
      have hfin := disk_landed (s := s0_0) (W := ((wr.setCell ⟨g, 1, none⟩ (.slice none 0 0)).setCell ⟨g, 2, none⟩ (.int .i64 (-1))).setCell ⟨g, 3, none⟩ (.bool false)) (L := Disk.crashed a1 a2 (part : Int) 0 s0_0.loose s0_0.lasts) (f := -1) (dn := false) HALL.out HB1.out HG.out (by have := HLL.out; rw [List.take_of_length_le HT.out] at this; exact this)
        (Disk.crashed_length (fun p hp => by
          have h2 := HALL.out.2.2.2.2.2.loose p hp
          have h3 := Disk.there_in HALL.out.2.2.2.2.2 (at_ := p.1) (by unfold Disk.there; rw [decide_eq_true h2.1, decide_eq_true h2.2.1]; rfl)
          exact ⟨h3.2.2, h2.2.2⟩))
        (by simpa using hW3) (fun k hk => (Below.heap_setCell _ _ _ _ hk).trans ((Below.heap_setCell _ _ _ _ hk).trans (Below.heap_setCell _ _ _ _ hk))) (by simp [World.setCell]) ⟨rfl, rfl, rfl⟩
      have hcr : Disk.crash s0_0 a1 a2 a3 = ⟨Disk.crashed a1 a2 (part : Int) 0 s0_0.loose s0_0.lasts, [], -1, false⟩ := by unfold Disk.crash; rw [HPT.out]
      rw [hcr]
      exact ⟨rfl, hfin⟩


/-! ### sector_Disk_Fuse: function 22 -/
-- FN rounds=0 making=1
def sector_Disk_Fuse.f (s : Disk.DiskM) (a1 : Int) : Option (Disk.DiskM) := some { s with fuse := mx a1 0 }
set_option maxHeartbeats 2000000 in
open Go.Proofs.Ytjaibpphlbddoaa.Opq in
theorem sector_Disk_Fuse.calls (g : Nat) (s0_0 : Disk.DiskM) (a1 : Int) (r : Disk.DiskM) (w0 w : World) (hI : IsS67 w0 w g s0_0) (hB : Below w0.heap.size w0 w) (h : sector_Disk_Fuse.f s0_0 a1 = some r) :
    Calls Try.prog 22 #[.pointer (some ⟨g, 0, none⟩), .int .i64 a1] w fun e w' => e = .returned (.tuple #[]) ∧ IsS67 w0 w' g r ∧ Below w0.heap.size w0 w' ∧ KeepO ts67 w0.heap.size w w' := by
  obtain rfl := Option.some.inj h
  obtain ⟨gl, vo, hI⟩ := hI
  have hg := hI.1
  have HGE := Aside0.mk hI.2.1
  have hf2 : w.frozen? ⟨g, 2, none⟩ = false := blk_frozen hg 2
  have hcell2 : w.cell? ⟨g, 2, none⟩ = some (.int .i64 s0_0.fuse) := (blk_cell hg 2).trans rfl
  have HI := Aside0.mk hI
  have HG := Aside0.mk hg
  have HB := Aside0.mk hB
  clear hI hB hg h
  have HH := Aside0.mk (fun (v : Int) (hm : mx a1 0 = v) => show IsS67 w0 (w.setCell ⟨g, 2, none⟩ (.int .i64 v)) g { s0_0 with fuse := mx a1 0 } ∧ Below w0.heap.size w0 (w.setCell ⟨g, 2, none⟩ (.int .i64 v)) ∧ KeepO ts67 w0.heap.size w (w.setCell ⟨g, 2, none⟩ (.int .i64 v)) by
    subst hm
    have h2 := disk_turned (W := w.setCell ⟨g, 2, none⟩ (.int .i64 (mx a1 0))) (s' := { s0_0 with fuse := mx a1 0 }) HI.out ⟨rfl, rfl⟩ (by simpa using blk_set HG.out 2 (.int .i64 (mx a1 0))) (fun k _ hk => Below.heap_setCell _ _ _ _ hk) (by simp [World.setCell])
    exact ⟨h2.1, HB.out.setCell HGE.out _, h2.2⟩)
  clear HI HG HB HGE
  go_enter Try.func22, Try.ntmps22
  go_wp2
  all_goals (first | go_end0 | skip)
  all_goals first
    | exact ⟨rfl, HH.out _ (by unfold mx; split <;> omega)⟩
    | (rename_i hm; exact ⟨rfl, HH.out _ (by unfold mx; split <;> omega)⟩)


/-! ### sector_Disk_Len: function 23 -/
-- FN rounds=0 making=1
def sector_Disk_Len.f (s : Disk.DiskM)  : Option (Int × Disk.DiskM) := some (Disk.len s, s)
theorem sector_Disk_Len.calls0 (g : Nat) (s : Disk.DiskM) (w0 w : World) (hI : IsS67 w0 w g s) :
    Calls Try.prog 23 #[.pointer (some ⟨g, 0, none⟩)] w fun e w' => e = .returned (.int .i64 (Disk.len s)) ∧ w = w' := by
  obtain ⟨gl, vo, hg, _⟩ := hI
  have hcell : w.cell? ⟨g, 0, none⟩ = some (.slice (some ⟨gl, 0, none⟩) (s.lasts.length / 64) (s.lasts.length / 64)) := (blk_cell hg 0).trans rfl
  clear hg
  go_enter Try.func23, Try.ntmps23
  go_wp2
  go_ret
  exact ⟨rfl, rfl⟩
theorem sector_Disk_Len.calls (g : Nat) (s0_0 : Disk.DiskM)  (r1 : Int) (r2 : Disk.DiskM) (w0 w : World) (hI : IsS67 w0 w g s0_0) (hB : Below w0.heap.size w0 w) (h : sector_Disk_Len.f s0_0  = some (r1, r2)) :
    Calls Try.prog 23 #[.pointer (some ⟨g, 0, none⟩)] w fun e w' => e = .returned (.int .i64 r1) ∧ IsS67 w0 w' g r2 ∧ Below w0.heap.size w0 w' ∧ Go.Proofs.Ytjaibpphlbddoaa.Opq.KeepO ts67 w0.heap.size w w' := by
  have h := Option.some.inj h
  injection h with h1 h2
  subst h1 h2
  refine (sector_Disk_Len.calls0 g s0_0 w0 w hI).mono ?_
  rintro e w' ⟨rfl, rfl⟩
  exact ⟨rfl, hI, hB, Go.Proofs.Ytjaibpphlbddoaa.Opq.KeepO.refl _ _ _⟩


/-! ### sector_Disk_there: function 34 -/
-- FN rounds=0 making=1
def sector_Disk_there.f (s : Disk.DiskM) (a1 : Int) : Option (Bool × Disk.DiskM) := some (Disk.there s a1, s)
theorem sector_Disk_there.calls0 (g : Nat) (s : Disk.DiskM) (a1 : Int) (w0 w : World) (hI : IsS67 w0 w g s) :
    Calls Try.prog 34 #[.pointer (some ⟨g, 0, none⟩), .int .i64 a1] w fun e w' => e = .returned (.bool (Disk.there s a1)) ∧ w = w' := by
  have HI := Aside0.mk hI
  have HD := Aside0.mk (show Disk.there s a1 = (decide (0 ≤ a1) && decide (a1 < Disk.len s)) from rfl)
  clear hI
  by_cases h0 : 0 ≤ a1
  · have d0 : decide (0 ≤ a1) = true := decide_eq_true h0
    have H0 := Aside0.mk d0
    clear h0
    go_enter Try.func34, Try.ntmps34
    go_wp2_with (go_at_call 23; refine (sector_Disk_Len.calls0 g s w0 _ HI.out).mono ?_; rintro e w' ⟨rfl, rfl⟩)
    go_ret
    exact ⟨by rw [HD.out, H0.out]; rfl, rfl⟩
  · have d0 : decide (0 ≤ a1) = false := decide_eq_false h0
    have H0 := Aside0.mk d0
    clear h0
    go_enter Try.func34, Try.ntmps34
    go_wp2
    go_ret
    exact ⟨by rw [HD.out, H0.out]; rfl, rfl⟩


/-! ### sector_Disk_burn: function 35 -/
-- FN rounds=0 making=1
-- IMPORT Derived.Test.YtjaibpphlbddoaaMid
-- IMPORT Derived.Deep.MidRow
def sector_Disk_burn.f (s : Disk.DiskM) : Option (Bool × Disk.DiskM) := some (!(Disk.burn s).down, Disk.burn s)
set_option maxHeartbeats 2000000 in
open Go.Proofs.Ytjaibpphlbddoaa.Opq in
theorem sector_Disk_burn.calls (g : Nat) (s0_0 : Disk.DiskM) (r1 : Bool) (r2 : Disk.DiskM) (w0 w : World) (hI : IsS67 w0 w g s0_0) (hB : Below w0.heap.size w0 w) (h : sector_Disk_burn.f s0_0 = some (r1, r2)) :
    Calls Try.prog 35 #[.pointer (some ⟨g, 0, none⟩)] w fun e w' => e = .returned (.bool r1) ∧ IsS67 w0 w' g r2 ∧ Below w0.heap.size w0 w' ∧ KeepO ts67 w0.heap.size w w' := by
  have h := Option.some.inj h
  injection h with h1 h2
  subst h1 h2
  obtain ⟨gl, vo, hI⟩ := hI
  have hg := hI.1
  have HGE := Aside0.mk hI.2.1
  have hcell2 : w.cell? ⟨g, 2, none⟩ = some (.int .i64 s0_0.fuse) := (blk_cell hg 2).trans rfl
  have hcell3 : w.cell? ⟨g, 3, none⟩ = some (.bool s0_0.down) := (blk_cell hg 3).trans rfl
  have hf2 : w.frozen? ⟨g, 2, none⟩ = false := blk_frozen hg 2
  have hf3 : w.frozen? ⟨g, 3, none⟩ = false := blk_frozen hg 3
  have HI := Aside0.mk hI
  have HG := Aside0.mk hg
  have HB := Aside0.mk hB
  clear hI hB hg
  by_cases k0 : s0_0.fuse = 0
  · have d0 : (s0_0.fuse == 0) = true := beq_iff_eq.2 k0
    have d1 : decide (0 < s0_0.fuse) = false := decide_eq_false (by omega)
    have HS := Aside0.mk (show Disk.burn s0_0 = ⟨s0_0.lasts, s0_0.loose, s0_0.fuse, true⟩ by unfold Disk.burn; rw [decide_eq_true k0, if_neg (by omega)]; simp)
    clear k0
    go_enter Try.func35, Try.ntmps35
    go_wp2
    go_ret
    have h2 := disk_turned (W := w.setCell ⟨g, 3, none⟩ (.bool true)) (s' := ⟨s0_0.lasts, s0_0.loose, s0_0.fuse, true⟩) HI.out ⟨rfl, rfl⟩ (by simpa using blk_set HG.out 3 (.bool true)) (fun k _ hk => Below.heap_setCell _ _ _ _ hk) (by simp [World.setCell])
    rw [HS.out]
    exact ⟨rfl, h2.1, HB.out.setCell HGE.out _, h2.2⟩
  · have d0 : (s0_0.fuse == 0) = false := beq_eq_false_iff_ne.2 k0
    by_cases k1 : 0 < s0_0.fuse
    · have d1 : decide (0 < s0_0.fuse) = true := decide_eq_true k1
      have HS := Aside0.mk (show Disk.burn s0_0 = ⟨s0_0.lasts, s0_0.loose, wrap64 (s0_0.fuse - 1), s0_0.down⟩ by unfold Disk.burn; rw [decide_eq_false k0, if_pos k1]; simp)
      clear k0 k1
      go_enter Try.func35, Try.ntmps35
      go_wp2
      go_ret
      have h2 := disk_turned (W := w.setCell ⟨g, 2, none⟩ (.int .i64 (wrap64 (s0_0.fuse - 1)))) (s' := ⟨s0_0.lasts, s0_0.loose, wrap64 (s0_0.fuse - 1), s0_0.down⟩) HI.out ⟨rfl, rfl⟩ (by simpa using blk_set HG.out 2 (.int .i64 (wrap64 (s0_0.fuse - 1)))) (fun k _ hk => Below.heap_setCell _ _ _ _ hk) (by simp [World.setCell])
      rw [HS.out]
      exact ⟨rfl, h2.1, HB.out.setCell HGE.out _, h2.2⟩
    · have d1 : decide (0 < s0_0.fuse) = false := decide_eq_false k1
      have HS := Aside0.mk (show Disk.burn s0_0 = s0_0 by unfold Disk.burn; rw [decide_eq_false k0, if_neg k1]; simp)
      clear k0 k1
      go_enter Try.func35, Try.ntmps35
      go_wp2
      go_ret
      rw [HS.out]
      exact ⟨rfl, ⟨gl, vo, HI.out⟩, HB.out, KeepO.refl _ _ _⟩


/-! ### sector_Disk_Write: function 14 -/
-- FN rounds=0 making=1
-- IMPORT Derived.Test.YtjaibpphlbddoaaMid
-- IMPORT Derived.Laws.CopyOwn
-- IMPORT Derived.Deep.RegionHeld3
-- IMPORT Derived.Deep.AppendLies
def sector_Disk_Write.f (s : Disk.DiskM) (a1 : Int) (l2 : List Int) : Option (Int × Disk.DiskM) := if s.loose.length < 1000000 then some (Disk.write s a1 l2) else none
theorem splice_fill {a : Int} {b : List Int} (h : b.length ≤ 64) : splice (Value.int .i64 a :: Disk.bytes (List.replicate 64 0)) 1 (Disk.bytes b) = Value.int .i64 a :: Disk.bytes (Disk.fill b) := by
  unfold splice Disk.fill Disk.bytes
  simp only [List.take_succ_cons, List.take_zero, List.cons_append, List.nil_append, List.map_append, List.map_replicate, List.length_map]
  rw [show 1 + b.length = b.length + 1 by omega, List.drop_succ_cons, List.drop_replicate]
theorem info_write : (Try.prog.info? 71).map (fun i => (i.zero, i.size, i.bytes)) = some (some (.agg (Value.int .i64 0 :: Disk.bytes (List.replicate 64 0)).toArray), 65, 72) := by kernel_rfl
theorem copy_cells {w : World} {A : Option Addr} {n : Nat} {l : List Int} (h : Kd.C (Kd.int .u8) w A n l) (hp : 0 < l.length) : ∃ ad, A = some ad ∧ ∀ (j : Nat) v, (Disk.bytes l)[j]? = some v → w.cell? (ad.add j) = some v := by
  obtain ⟨hl, _, h⟩ := Kd.reads_of_C (d := (0 : Int)) h
  obtain ⟨ad, he, hc⟩ := h (by omega)
  refine ⟨ad, he, fun j v hv => ?_⟩
  have hj : j < l.length := by have := (List.getElem?_eq_some_iff.1 hv).1; rwa [Disk.bytes_length] at this
  rw [Disk.bytes_get hj] at hv
  injection hv with hv
  rw [← hv]
  exact hc j (by omega)
open Go.Proofs.Ytjaibpphlbddoaa.Opq in
theorem disk_written {w0 w1 w7 w8 : World} {g gl gg cap H : Nat} {vo : Value} {s : Disk.DiskM} {a : Int} {b : List Int} {cs : List Value}
    (hI : w1.heap[g]? = some (.cells #[.slice (some ⟨gl, 0, none⟩) (s.lasts.length / 64) (s.lasts.length / 64), vo, .int .i64 s.fuse, .bool s.down] 67 (0, 0)) ∧ w0.heap.size ≤ g ∧ w0.heap.size ≤ gl ∧
    w1.heap[gl]? = some (.cells (Disk.bytes s.lasts).toArray 69 (0, 0)) ∧ w1.ownsRow w0.heap.size 71 65 vo s.loose.length (Disk.flat s.loose) ∧ Disk.Ok s)
    (hB : Below w0.heap.size w0 w1) (h7 : Below w1.heap.size w1 w7) (hgrow : w7.grownBy w8 vo.ownBlock) (hown8 : w8.ownsRow w0.heap.size 71 65 (.slice (some ⟨gg, 0, none⟩) (s.loose.length + 1) cap) (s.loose.length + 1) (Disk.flat s.loose ++ cs))
    (hat : vo.ownBlock = some gg ∨ gg = H) (hH : w1.heap.size ≤ H) (hcs : cs = Value.int .i64 a :: Disk.bytes b) (hb : b.length = 64) (ha : Disk.there s a = true) :
    IsS67 w0 (w8.setCell ⟨g, 1, none⟩ (.slice (some ⟨gg, 0, none⟩) (s.loose.length + 1) cap)) g { s with loose := s.loose ++ [(a, b)] } ∧ Below w0.heap.size w0 (w8.setCell ⟨g, 1, none⟩ (.slice (some ⟨gg, 0, none⟩) (s.loose.length + 1) cap)) ∧ KeepO ts67 w0.heap.size w1 (w8.setCell ⟨g, 1, none⟩ (.slice (some ⟨gg, 0, none⟩) (s.loose.length + 1) cap)) := by
  obtain ⟨h0, h1, h2, h3, h4, h5⟩ := hI
  have hty := own_typed h4
  have hng : vo.ownBlock ≠ some g := fun e => by
    obtain ⟨_, cells, hc⟩ := hty g e
    rw [h0] at hc
    injection hc with hc
    injection hc with _ hc
    exact absurd hc (by decide)
  have hngl : vo.ownBlock ≠ some gl := fun e => by
    obtain ⟨_, cells, hc⟩ := hty gl e
    rw [h3] at hc
    injection hc with hc
    injection hc with _ hc
    exact absurd hc (by decide)
  have hgl : g ≠ gl := fun e => by
    subst e
    rw [h0] at h3
    injection h3 with hc
    injection hc with _ hc
    exact absurd hc (by decide)
  have hk8 : ∀ k, k < w1.heap.size → vo.ownBlock ≠ some k → w8.heap[k]? = w1.heap[k]? := fun k hk hne => (hgrow.block k (Nat.lt_of_lt_of_le hk h7.size) (fun e => hne e.symm)).trans (h7.block k hk)
  have hggg : gg ≠ g := fun e => by
    subst e
    rcases hat with h | h
    · exact hng h
    · have := blk_lt h0; omega
  have hs8 : w1.heap.size ≤ w8.heap.size := Nat.le_trans h7.size hgrow.size
  have hl := Disk.there_in h5 ha
  refine ⟨⟨gl, .slice (some ⟨gg, 0, none⟩) (s.loose.length + 1) cap, ?_, h1, h2, ?_, ?_, ?_⟩, ?_, ?_⟩
  · have := blk_set ((hk8 g (blk_lt h0) hng).trans h0) 1 (.slice (some ⟨gg, 0, none⟩) (s.loose.length + 1) cap)
    simpa using this
  · exact (Below.heap_setCell _ _ _ _ (Ne.symm hgl)).trans ((hk8 gl (blk_lt h3) hngl).trans h3)
  · have := own_far (p := ⟨g, 1, none⟩) (u := .slice (some ⟨gg, 0, none⟩) (s.loose.length + 1) cap) hown8 (by simpa [Value.ownBlock] using hggg)
    simpa [Disk.flat, hcs] using this
  · refine ⟨h5.size, fun p hp => ?_⟩
    rcases List.mem_append.1 hp with hp | hp
    · exact h5.loose p hp
    · obtain rfl := List.mem_singleton.1 hp
      exact ⟨hl.1, hl.2.1, hb⟩
  · refine Below.setCell ?_ h1 _
    exact ⟨hgrow.os.trans (h7.os.trans hB.os), hgrow.tape.trans (h7.tape.trans hB.tape), hgrow.output.trans (h7.output.trans hB.output), Nat.le_trans hB.size hs8, fun k hk => (hk8 k (Nat.lt_of_lt_of_le hk hB.size) (fun e => by have := (hty k e).1; omega)).trans (hB.block k hk)⟩
  · refine ⟨by simpa [World.setCell] using hs8, fun k hk hp => ?_⟩
    have hpr : Priv ts67 w1.heap[g]? := by rw [h0]; show _ ∈ ts67; decide
    refine (Below.heap_setCell _ _ _ _ (fun e => ?_)).trans (hk8 k hk (fun e => ?_))
    · subst e
      rcases hp with hp | hp
      · have : _ < w0.heap.size := hp
        omega
      · exact hp hpr
    · obtain ⟨hb2, cells, hc⟩ := hty k e
      rcases hp with hp | hp
      · omega
      · exact hp (by rw [hc]; show _ ∈ ts67; decide)
set_option maxHeartbeats 8000000 in
set_option maxRecDepth 100000 in
open Go.Proofs.Ytjaibpphlbddoaa.Opq Go.Proofs.Ytjaibpphlbddoaa.Mid in
theorem sector_Disk_Write.calls (g : Nat) (s0_0 : Disk.DiskM) (a1 : Int) (A2 : Option Addr) (c2 : Nat) (l2 : List Int) (r1 : Int) (r2 : Disk.DiskM) (w0 w : World) (hI : IsS67 w0 w g s0_0) (hB : Below w0.heap.size w0 w) (hr2 : ∀ W_, Go.Proofs.Ytjaibpphlbddoaa.Opq.KeepO ts67 w0.heap.size w W_ → Kd.C (Kd.int .u8) W_ A2 l2.length l2) (hc2 : l2.length ≤ c2) (h : sector_Disk_Write.f s0_0 a1 l2 = some (r1, r2)) :
    Calls Try.prog 14 #[.pointer (some ⟨g, 0, none⟩), .int .i64 a1, .slice A2 l2.length c2] w fun e w' => e = .returned (.int .i64 r1) ∧ IsS67 w0 w' g r2 ∧ Below w0.heap.size w0 w' ∧ Go.Proofs.Ytjaibpphlbddoaa.Opq.KeepO ts67 w0.heap.size w w' := by
  unfold sector_Disk_Write.f at h
  split at h
  case isFalse => cases h
  case isTrue hlen =>
  have h := Option.some.inj h
  have HI := Aside0.mk hI
  have HB := Aside0.mk hB
  have HL := Aside0.mk hlen
  have HR := Aside0.mk hr2
  clear hI hlen hB hr2
  cases ht : Disk.there s0_0 a1 with
  | false =>
    unfold Disk.write at h
    rw [if_pos (.inl ht)] at h
    injection h with h1 h2
    subst h1 h2
    have HT := Aside0.mk ht
    clear ht
    go_enter Try.func14, Try.ntmps14
    go_wp2_with (go_at_call 34; refine (sector_Disk_there.calls0 g s0_0 a1 w0 _ HI.out).mono ?_; rw [HT.out]; rintro e w' ⟨rfl, rfl⟩)
    go_ret
    exact ⟨rfl, HI.out, HB.out, KeepO.refl _ _ _⟩
  | true =>
  have HT := Aside0.mk ht
  by_cases hl : l2.length > 64
  · unfold Disk.write at h
    rw [if_pos (.inr hl)] at h
    injection h with h1 h2
    subst h1 h2
    have d0 : decide ((l2.length : Int) > 64) = true := decide_eq_true (by omega)
    clear ht hl
    go_enter Try.func14, Try.ntmps14
    go_wp2_with (go_at_call 34; refine (sector_Disk_there.calls0 g s0_0 a1 w0 _ HI.out).mono ?_; rw [HT.out]; rintro e w' ⟨rfl, rfl⟩)
    go_ret
    exact ⟨rfl, HI.out, HB.out, KeepO.refl _ _ _⟩
  have d0 : decide ((l2.length : Int) > 64) = false := decide_eq_false (by omega)
  unfold Disk.write at h
  rw [if_neg (by rw [ht]; simp; omega)] at h
  cases hd : (Disk.burn s0_0).down with
  | true =>
    rw [if_pos hd] at h
    injection h with h1 h2
    subst h1 h2
    have HX := Aside0.mk (sector_Disk_burn.calls g s0_0 false (Disk.burn s0_0) w0 w HI.out HB.out (by unfold sector_Disk_burn.f; rw [hd]; rfl))
    clear ht hl hd
    go_enter Try.func14, Try.ntmps14
    go_wp2_with (first | (go_at_call 34; refine (sector_Disk_there.calls0 g s0_0 a1 w0 _ HI.out).mono ?_; rw [HT.out]; rintro e w' ⟨rfl, rfl⟩) | (go_at_call 35; refine HX.out.mono ?_; rintro e w1 ⟨rfl, hr⟩; have HR1 := Aside0.mk hr; clear hr))
    go_ret
    exact ⟨rfl, HR1.out⟩
  | false =>
    rw [if_neg (by rw [hd]; simp)] at h
    injection h with h1 h2
    subst h1 h2
    have HX := Aside0.mk (sector_Disk_burn.calls g s0_0 true (Disk.burn s0_0) w0 w HI.out HB.out (by unfold sector_Disk_burn.f; rw [hd]; rfl))
    have HLE := Aside0.mk hl
    clear ht hl hd
    go_enter Try.func14, Try.ntmps14
    go_wp2_with (first
      | (go_at_call 34; refine (sector_Disk_there.calls0 g s0_0 a1 w0 _ HI.out).mono ?_; rw [HT.out]; rintro e w' ⟨rfl, rfl⟩)
      | (go_at_call 35; refine HX.out.mono ?_; rintro e w1 ⟨rfl, hr⟩; have HR1 := Aside0.mk hr; have HR2 := Aside0.mk (fun W hk => HR.out W (hr.2.2.trans hk)); clear hr)
      | ((with_reducible refine gate_store (t := 71) (p := 7) rfl ?_); refine store_new rfl 71 (.tmp 7) (.tmp 21) rfl (Value.int .i64 a1 :: Disk.bytes (List.replicate 64 0)) (by rfl) (by rfl) (heap_alloc_new w1 _) (by rfl) (by kernel_rfl) (elem_one (a1, List.replicate 64 0)) ?_; intro w6 hx6 hg6 hs6; have HB6 := Aside0.mk (show Below w1.heap.size w1 w6 from (below_alloc (Below.refl _ w1) _).grown hg6 (by simp) (fun k e => by injection e with e; omega)); have HX6 := Aside0.mk hx6; clear hx6 hg6 hs6)
      | ((with_reducible refine gate_builtin (b := .copy) (xs := #[.tmp 23, .tmp 24]) rfl ?_); refine wpList_copy_splice rfl (.tmp 23) (.tmp 24) 22 22 rfl 5 Try.underlying22 (by kernel_rfl) (some ⟨w1.heap.size, 1, none⟩) A2 64 64 l2.length c2 rfl rfl w1.heap.size 1 (Value.int .i64 a1 :: Disk.bytes (List.replicate 64 0)) 71 HX6.out (Disk.bytes l2) (by have := HLE.out; rw [Disk.bytes_length]; show _ = min l2.length 64; omega) (fun hp => ⟨rfl, copy_cells (HR2.out w6 (KeepO.of_below HB6.out)) (by simpa [Disk.bytes_length] using hp)⟩) (by have := HLE.out; simp [Disk.bytes_length]; omega) (by intro v hv; unfold Disk.bytes at hv; obtain ⟨x, _, rfl⟩ := List.mem_map.1 hv; rfl) w1.heap.size w1 HB6.out (Nat.le_refl _) ?_; intro w7 hx7 hb7; have HX7 := Aside0.mk hx7; have HB7 := Aside0.mk hb7; clear hx7 hb7))
    obtain ⟨hi1, hb1, hk1⟩ := HR1.out
    obtain ⟨gl, vo, hg1, hge, hgb, hgl, hown, hok⟩ := hi1
    have hcell1 : w7.cell? ⟨g, 1, none⟩ = some vo := (blk_cell ((HB7.out.block g (blk_lt hg1)).trans hg1) 1).trans rfl
    have hf1 : w7.frozen? ⟨g, 1, none⟩ = false := blk_frozen ((HB7.out.block g (blk_lt hg1)).trans hg1) 1
    obtain ⟨cs, hcs⟩ : ∃ cs, cs = (Value.int .i64 a1 :: Disk.bytes (Disk.fill l2)) := ⟨_, rfl⟩
    have hx7 : w7.heap[w1.heap.size]? = some (.cells cs.toArray 71 (0, 0)) := by
      rw [HX7.out, hcs, splice_fill (by have := HLE.out; omega)]
    have hrg : w7.rangeAt w1.heap.size 0 cs := range_of_block hx7 (fun j v hv => by simpa using hv)
    have hcl : cs.length = 65 := by rw [hcs, List.length_cons, Disk.bytes_length, Disk.fill_length (by have := HLE.out; omega)]
    have HONE := Aside0.mk (show ∀ u ∈ cs, u.oneCell' = true by rw [hcs]; exact elem_one (a1, Disk.fill l2))
    have HCS := Aside0.mk hcs
    clear hcs
    have hu := Try.underlying71
    have hi : (Try.prog.info? 71).map (·.size) = some cs.length := by rw [hcl]; kernel_rfl
    obtain ⟨i0, hi0, hz0, hz1, hz2⟩ := info_parts info_write
    have HS := Aside0.mk (show w0.heap.size ≤ w7.heap.size from Nat.le_trans hb1.size HB7.out.size)
    have hown7 : w7.drew.ownsRow w0.heap.size 71 65 vo s0_0.loose.length (Disk.flat s0_0.loose) := own_below hown (show Below w1.heap.size w1 w7.drew from ⟨HB7.out.1, HB7.out.2, HB7.out.3, HB7.out.4, HB7.out.5⟩)
    have HALL := Aside0.mk (And.intro hg1 (And.intro hge (And.intro hgb (And.intro hgl (And.intro hown hok)))))
    clear hg1 hge hgb hgl hown hok hb1 hk1
    refine wp_region_held_drew (S := fun w' => w'.rangeAt w1.heap.size 0 cs) (by kernel_rfl) (by simpa using hrg) (fun hHeld => ?_)
    refine wpAnyH_take (i := 5) (oi := _) (v := _) rfl (by kernel_rfl) (by kernel_rfl) (by kernel_rfl) (fun _ _ _ h => h) (yieldsIf_load_mid (by rfl) _ _ rfl _ _ rfl _ _ (fun w hw => hw) hu rfl hi) hHeld ?_
    (try simp only [List.getElem_toArray, List.getElem_cons_zero, List.getElem_cons_succ, Act.put, List.setIfInBounds_toArray, List.set_cons_zero, List.set_cons_succ])
    refine wpAnyH_take (i := 0) (oi := _) (v := ?_) rfl (by kernel_rfl) (by kernel_rfl) (by kernel_rfl) (fun _ _ _ h => h) (Or.inl ⟨by rfl, ?_⟩) hHeld ?_
    rotate_left
    · intro w hSw
      go_simp
      with_reducible rfl
    (try simp only [List.getElem_toArray, List.getElem_cons_zero, List.getElem_cons_succ, Act.put, List.setIfInBounds_toArray, List.set_cons_zero, List.set_cons_succ])
    refine wpAnyH_take (i := 1) (oi := _) (v := ?_) rfl (by kernel_rfl) (by kernel_rfl) (by kernel_rfl) (fun _ _ _ h => h) (Or.inl ⟨by rfl, ?_⟩) hHeld ?_
    rotate_left
    · intro w hSw
      go_simp
      with_reducible rfl
    (try simp only [List.getElem_toArray, List.getElem_cons_zero, List.getElem_cons_succ, Act.put, List.setIfInBounds_toArray, List.set_cons_zero, List.set_cons_succ])
    refine wpAnyH_take (i := 2) (oi := _) (v := ?_) rfl (by kernel_rfl) (by kernel_rfl) (by kernel_rfl) (fun _ _ _ h => h) (Or.inl ⟨by rfl, ?_⟩) hHeld ?_
    rotate_left
    · intro w hSw
      go_simp
      with_reducible rfl
    (try simp only [List.getElem_toArray, List.getElem_cons_zero, List.getElem_cons_succ, Act.put, List.setIfInBounds_toArray, List.set_cons_zero, List.set_cons_succ])
    refine wpAnyH_take (i := 3) (oi := _) (v := ?_) rfl (by kernel_rfl) (by kernel_rfl) (by kernel_rfl) (fun _ _ _ h => h) (Or.inl ⟨by rfl, ?_⟩) hHeld ?_
    rotate_left
    · intro w hSw
      go_simp
      with_reducible rfl
    (try simp only [List.getElem_toArray, List.getElem_cons_zero, List.getElem_cons_succ, Act.put, List.setIfInBounds_toArray, List.set_cons_zero, List.set_cons_succ])
    have hcell1b : (w7.alloc (.cells cs.toArray 71)).cell? ⟨g, 1, none⟩ = some vo := by rw [World.cell?_alloc_some _ _ _ (by rw [hcell1]; rfl), hcell1]
    have hcell1a : (w7.drew.alloc (.cells cs.toArray 71)).cell? ⟨g, 1, none⟩ = some vo := by rw [World.cell?_alloc_some _ _ _ (by rw [World.cell?_drew, hcell1]; rfl), World.cell?_drew, hcell1]
    refine wpAnyH_ready (rs := [4, 6]) (by kernel_rfl) (by simp) ?_
    refine AllReadyH.cons (o := _) rfl (fun K hK => ?_) (AllReadyH.cons (o := _) rfl (fun K hK => ?_) AllReadyH.nil)
    focus
      go_simp
      refine hK.out _ _ hHeld (fun hHeld => ?_)
      clear hK K
      (try simp only [List.getElem_toArray, List.getElem_cons_zero, List.getElem_cons_succ, Act.put, List.setIfInBounds_toArray, List.set_cons_zero, List.set_cons_succ])
      refine wpAnyH_ready (rs := [6]) (by kernel_rfl) (by simp) ?_
      refine AllReadyH.cons (o := _) rfl (fun K hK => ?_) AllReadyH.nil
      refine step_slice_one rfl _ rfl cs rfl i0 _ Try.underlying65 hi0 hz0 (hz1.trans hcl.symm) hcl.symm (by omega) (by omega) ?_
      refine hK.out _ _ (World.rangeAt_alloc hHeld _) (fun hHeld => ?_)
      clear hK K
      (try simp only [List.getElem_toArray, List.getElem_cons_zero, List.getElem_cons_succ, Act.put, List.setIfInBounds_toArray, List.set_cons_zero, List.set_cons_succ])
    rotate_left
    focus
      refine step_slice_one rfl _ rfl cs rfl i0 _ Try.underlying65 hi0 hz0 (hz1.trans hcl.symm) hcl.symm (by omega) (by omega) ?_
      refine hK.out _ _ (World.rangeAt_alloc hHeld _) (fun hHeld => ?_)
      clear hK K
      (try simp only [List.getElem_toArray, List.getElem_cons_zero, List.getElem_cons_succ, Act.put, List.setIfInBounds_toArray, List.set_cons_zero, List.set_cons_succ])
      refine wpAnyH_ready (rs := [4]) (by kernel_rfl) (by simp) ?_
      refine AllReadyH.cons (o := _) rfl (fun K hK => ?_) AllReadyH.nil
      go_simp
      refine hK.out _ _ hHeld (fun hHeld => ?_)
      clear hK K
      (try simp only [List.getElem_toArray, List.getElem_cons_zero, List.getElem_cons_succ, Act.put, List.setIfInBounds_toArray, List.set_cons_zero, List.set_cons_succ])
    all_goals
      refine wpAnyH_ready (rs := [7]) (by kernel_rfl) (by simp) ?_
      refine AllReadyH.cons (o := _) rfl (fun K hK => ?_) AllReadyH.nil
      refine step_append_lies _ (by rfl) _ _ _ (by rfl) w0.heap.size 71 i0 _ 65 72 Try.underlying65 hi0 hz0 hz1 hz2 rfl (by omega) vo s0_0.loose.length (Disk.flat s0_0.loose) (by rfl) (hown7.alloc _)
          ⟨w7.drew.heap.size, 0, none⟩ 1 1 cs (by rfl) (by rw [hcl]) (World.news_of_block (cs := cs.toArray) (t := 71) (fr := (0, 0)) (heap_alloc_new w7.drew _)) HONE.out
          (by omega) (by have := HL.out; unfold maxLen; omega) (by have := HL.out; omega) (by have := HS.out; simp; omega) (w7.heap.size + 1) (by simp) ?_
      intro gg cap w8 hown8 hgrow hat hlt
      have hk8 : ∀ k cells t, w1.heap[k]? = some (.cells cells t (0, 0)) → vo.ownBlock ≠ some k → w8.heap[k]? = some (.cells cells t (0, 0)) := fun k cells t hk hne =>
        (hgrow.block k (Nat.lt_of_lt_of_le (blk_lt hk) (Nat.le_trans HB7.out.size (by simp))) (fun e => hne e.symm)).trans (((below_alloc (Below.refl _ w7.drew) _).block k (Nat.lt_of_lt_of_le (blk_lt hk) HB7.out.size)).trans ((HB7.out.block k (blk_lt hk)).trans hk))
      have hg8 := hk8 g _ _ HALL.out.1 (fun e => by
        obtain ⟨_, cells, hc⟩ := own_typed HALL.out.2.2.2.2.1 g e
        rw [HALL.out.1] at hc
        injection hc with hc
        injection hc with _ hc
        exact absurd hc (by decide))
      have hx8 : w8.heap[w1.heap.size]? = some (.cells cs.toArray 71 (0, 0)) := by
        refine (hgrow.block _ (Nat.lt_of_lt_of_le (blk_lt hx7) (by simp)) (fun e => ?_)).trans (((below_alloc (Below.refl _ w7.drew) _).block _ (blk_lt hx7)).trans hx7)
        obtain ⟨_, cells, hc⟩ := own_typed HALL.out.2.2.2.2.1 _ e.symm
        exact absurd (blk_lt hc) (by omega)
      have hrg8 : w8.rangeAt w1.heap.size 0 cs := range_of_block hx8 (fun j v hv => by simpa using hv)
      have hcell8 : w8.cell? ⟨g, 1, none⟩ = some vo := (blk_cell hg8 1).trans rfl
      have hf8 : w8.frozen? ⟨g, 1, none⟩ = false := blk_frozen hg8 1
      have HFIN := Aside0.mk (disk_written (s := Disk.burn s0_0) HALL.out HR1.out.2.1 (below_alloc (show Below w1.heap.size w1 w7.drew from ⟨HB7.out.1, HB7.out.2, HB7.out.3, HB7.out.4, HB7.out.5⟩) _) hgrow hown8 hat (Nat.le_trans HB7.out.size (Nat.le_succ _)) HCS.out (Disk.fill_length (by have := HLE.out; omega)) HT.out)
      refine hK.out _ _ hrg8 (fun hHeld => ?_)
      clear hK K hg8 hk8 hgrow hown8 hat
      (try simp only [List.getElem_toArray, List.getElem_cons_zero, List.getElem_cons_succ, Act.put, List.setIfInBounds_toArray, List.set_cons_zero, List.set_cons_succ])
      refine wpAnyH_take (i := 8) (oi := _) (v := ?_) rfl (by kernel_rfl) (by kernel_rfl) (by kernel_rfl) (fun _ _ _ h => h) (Or.inl ⟨by rfl, ?_⟩) hHeld ?_
      rotate_left
      · intro w hSw
        go_simp
        with_reducible rfl
      (try simp only [List.getElem_toArray, List.getElem_cons_zero, List.getElem_cons_succ, Act.put, List.setIfInBounds_toArray, List.set_cons_zero, List.set_cons_succ])
      refine wpAnyH_take (i := 9) (oi := _) (v := ?_) rfl (by kernel_rfl) (by kernel_rfl) (by kernel_rfl) (fun _ _ _ h => h) (Or.inl ⟨by rfl, ?_⟩) hHeld ?_
      rotate_left
      · intro w hSw
        go_simp
        with_reducible rfl
      (try simp only [List.getElem_toArray, List.getElem_cons_zero, List.getElem_cons_succ, Act.put, List.setIfInBounds_toArray, List.set_cons_zero, List.set_cons_succ])
      refine wpAnyH_ready (rs := [10]) (by kernel_rfl) (by simp) ?_
      refine AllReadyH.cons (o := _) rfl (fun K hK => ?_) AllReadyH.nil
      go_simp
      refine hK.out _ _ (range_of_block ((Below.heap_setCell _ _ _ _ (fun e => by have h1 : w1.heap.size = g := e; have := blk_lt HALL.out.1; omega)).trans hx8) (fun j v hv => by simpa using hv)) (fun hHeld => ?_)
      clear hK K hx8
      refine wpAnyH_done (by kernel_rfl) ?_ _
      go_wp2
      go_ret
      exact ⟨rfl, HFIN.out.1, HFIN.out.2.1, HR1.out.2.2.trans HFIN.out.2.2⟩


end Go.Proofs.Ytjaibpphlbddoaa.PRegionTorn
