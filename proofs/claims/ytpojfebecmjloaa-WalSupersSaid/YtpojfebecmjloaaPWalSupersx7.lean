-- Lean text by a program of this repo (wip/tools/printx.py), out of Lean's own print of the translation
import Derived.KernelRfl
import Derived.Lib.SlBytesConst
import Derived.Deep.RegionHeld3
import Derived.OwnWalk
import Derived.Test.YtpojfebecmjloaaHelp
import Derived.Test.YtpojfebecmjloaaMid
import Derived.Test.YtpojfebecmjloaaPWalSupersx0
import Derived.Test.YtpojfebecmjloaaPWalSupersx1
import Derived.Test.YtpojfebecmjloaaPWalSupersx3
import Derived.Test.YtpojfebecmjloaaPWalSupersx4
import Derived.Test.YtpojfebecmjloaaPWalSupersx5
import Derived.Test.YtpojfebecmjloaaPWalSupersx6
namespace Go.Proofs.Ytpojfebecmjloaa.PWalSupers
open Go.RowKit Go.Proofs.YtpojfebecmjloaaW.PrintWords Go.Proofs.YtpojfebecmjloaaW.PrintLast Go.Proofs.YtpojfebecmjloaaW.PrintMore
attribute [local go_sem] max2_int min2_int max_two min_two max_three min_three max_four min_four   -- for this text's walks alone
set_option linter.unusedVariables false
set_option linter.unusedSimpArgs false

/-! ### interregnumlaw04_answers: function 35 -/
-- FN rounds=0 making=1
-- IMPORT Derived.Test.YtpojfebecmjloaaMid
-- IMPORT Derived.Test.YtpojfebecmjloaaHelp
-- IMPORT Derived.OwnWalk
-- IMPORT Derived.Deep.RegionHeld3
-- IMPORT Derived.Lib.SlBytesConst
-- IMPORT Derived.KernelRfl
theorem wal_none_len (w : World) : Calls Try.prog 22 #[.pointer none] w fun e w' => e = .returned (.int .i64 0) ∧ w = w' := by
  go_enter Try.func22, Try.ntmps22
  go_wp2
  go_ret
  exact ⟨rfl, rfl⟩
theorem wal_none_check (w : World) : Calls Try.prog 59 #[.pointer none] w fun e w' => e = .returned (.int .i64 1) ∧ w = w' := by
  go_enter Try.func59, Try.ntmps59
  go_wp2
  go_ret
  exact ⟨rfl, rfl⟩
theorem wal_none_append (A : Option Addr) (n c : Nat) (w : World) : Calls Try.prog 36 #[.pointer none, .slice A n c] w fun e w' => e = .returned (.int .i64 1) ∧ w = w' := by
  go_enter Try.func36, Try.ntmps36
  go_wp2_with (go_at_call 59; refine (wal_none_check _).mono ?_; rintro e w' ⟨rfl, rfl⟩)
  go_ret
  exact ⟨rfl, rfl⟩
theorem wal_none_checkpoint (A : Option Addr) (n c : Nat) (w : World) : Calls Try.prog 37 #[.pointer none, .slice A n c] w fun e w' => e = .returned (.int .i64 1) ∧ w = w' := by
  go_enter Try.func37, Try.ntmps37
  go_wp2_with (go_at_call 59; refine (wal_none_check _).mono ?_; rintro e w' ⟨rfl, rfl⟩)
  go_ret
  exact ⟨rfl, rfl⟩
theorem wal_none_gen (w : World) : Calls Try.prog 38 #[.pointer none] w fun e w' => e = .returned (.int .i64 0) ∧ w = w' := by
  go_enter Try.func38, Try.ntmps38
  go_wp2
  go_ret
  exact ⟨rfl, rfl⟩
theorem wal_none_used (w : World) : Calls Try.prog 39 #[.pointer none] w fun e w' => e = .returned (.int .i64 0) ∧ w = w' := by
  go_enter Try.func39, Try.ntmps39
  go_wp2
  go_ret
  exact ⟨rfl, rfl⟩
theorem wal_open_none (w : World) : Calls Try.prog 34 #[.pointer none] w fun e w' => e = .returned (.tuple #[.pointer none, .slice none 0 0, .int .i64 1]) ∧ w = w' := by
  go_enter Try.func34, Try.ntmps34
  go_wp2_with (go_at_call 22; refine (wal_none_len _).mono ?_; rintro e w' ⟨rfl, rfl⟩)
  go_ret3
  exact ⟨rfl, rfl⟩
theorem wal_open_small (g : Nat) (s : Disk.DiskM) (w0 w : World) (hI : IsS71 w0 w g s) (h : Disk.len s < 4) : Calls Try.prog 34 #[.pointer (some ⟨g, 0, none⟩)] w fun e w' => e = .returned (.tuple #[.pointer none, .slice none 0 0, .int .i64 1]) ∧ w = w' := by
  have HI := Aside0.mk hI
  have d0 : decide (Disk.len s < 4) = true := decide_eq_true h
  clear hI h
  go_enter Try.func34, Try.ntmps34
  go_wp2_with (go_at_call 22; refine (sector_Disk_Len.calls0 g s w0 _ HI.out).mono ?_; rintro e w' ⟨rfl, rfl⟩)
  go_ret3
  exact ⟨rfl, rfl⟩
/-- A log's block. -/
def LogAt (W : World) (gl g : Nat) (gen at_ : Int) (down : Bool) : Prop := W.heap[gl]? = some (.cells #[.pointer (some ⟨g, 0, none⟩), .int .i64 gen, .int .i64 at_, .bool down] 96 (0, 0))
def tsLog : List Nat := 96 :: ts71
open Go.Proofs.Ytpojfebecmjloaa.Opq in
theorem KeepO.more {ts : List Nat} {t B : Nat} {w w' : World} (h : KeepO ts B w w') : KeepO (t :: ts) B w w' :=
  ⟨h.size, fun k hk hp => h.keep k hk (hp.imp id fun hn hq => hn (by
    revert hq
    unfold Priv
    split
    · exact fun hm => List.mem_cons_of_mem _ hm
    · exact id
    · exact id))⟩
open Go.Proofs.Ytpojfebecmjloaa.Opq in
theorem keep_log {B : Nat} {w w' : World} (h : KeepO ts71 B w w') : KeepO tsLog B w w' := KeepO.more h
open Go.Proofs.Ytpojfebecmjloaa.Opq in
theorem LogAt.keep {W W1 : World} {gl g : Nat} {gen at_ : Int} {down : Bool} {B : Nat} (h : LogAt W gl g gen at_ down) (hk : KeepO ts71 B W W1) : LogAt W1 gl g gen at_ down :=
  hk.blk h (by decide)
theorem LogAt.below {W W1 : World} {gl g : Nat} {gen at_ : Int} {down : Bool} (h : LogAt W gl g gen at_ down) (hb : Below W.heap.size W W1) : LogAt W1 gl g gen at_ down :=
  (hb.block _ (blk_lt h)).trans h
theorem LogAt.cells {W : World} {gl g : Nat} {gen at_ : Int} {down : Bool} (h : LogAt W gl g gen at_ down) :
    W.cell? ⟨gl, 0, none⟩ = some (.pointer (some ⟨g, 0, none⟩)) ∧ W.cell? ⟨gl, 1, none⟩ = some (.int .i64 gen) ∧ W.cell? ⟨gl, 2, none⟩ = some (.int .i64 at_) ∧ W.cell? ⟨gl, 3, none⟩ = some (.bool down) :=
  ⟨(blk_cell h 0).trans rfl, (blk_cell h 1).trans rfl, (blk_cell h 2).trans rfl, (blk_cell h 3).trans rfl⟩
theorem wal_bounds.calls0 (g : Nat) (s : Disk.DiskM) (a1 r1 r2 : Int) (s' : Disk.DiskM) (w0 w : World) (hI : IsS71 w0 w g s) (h : wal_bounds.f s a1 = some (r1, r2, s')) :
    Calls Try.prog 58 #[.pointer (some ⟨g, 0, none⟩), .int .i64 a1] w fun e w' => e = .returned (.tuple #[.int .i64 r1, .int .i64 r2]) ∧ w = w' := by
  have HI := Aside0.mk hI
  unfold wal_bounds.f sector_Disk_Len.f at h
  simp only [Option.bind_some, Option.some.injEq, Prod.mk.injEq] at h
  obtain ⟨rfl, rfl, rfl⟩ := h
  clear hI
  go_enter Try.func58, Try.ntmps58
  go_wp2_with (go_at_call 22; refine (sector_Disk_Len.calls0 g s w0 _ HI.out).mono ?_; rintro e w' ⟨rfl, rfl⟩)
  go_ret2
  exact ⟨rfl, rfl⟩
theorem wal_bounds.calls1 (g : Nat) (s : Disk.DiskM) (a1 r1 r2 : Int) (s' : Disk.DiskM) (w0 w : World) (hI : IsS71 w0 w g s) (h : wal_bounds.f s a1 = some (r1, r2, s')) :
    Calls Try.prog 58 #[.pointer (some ⟨g, 0, none⟩), .int .i64 a1] w fun e w' => e = .returned (.tuple #[.int .i64 r1, .int .i64 r2]) ∧ ∃ n, w.drewN n = w' :=
  (wal_bounds.calls0 g s a1 r1 r2 s' w0 w hI h).mono fun e w' ⟨he, hw⟩ => ⟨he, 0, hw⟩
theorem log_check (gl g : Nat) (gen at_ : Int) (down : Bool) (w : World) (hL : LogAt w gl g gen at_ down) :
    Calls Try.prog 59 #[.pointer (some ⟨gl, 0, none⟩)] w fun e w' => e = .returned (.int .i64 (if down = true then 4 else 0)) ∧ w = w' := by
  have hc := hL.cells.2.2.2
  clear hL
  cases down with
  | true =>
    go_enter Try.func59, Try.ntmps59
    go_wp2
    go_ret
    exact ⟨rfl, rfl⟩
  | false =>
    go_enter Try.func59, Try.ntmps59
    go_wp2
    go_ret
    exact ⟨rfl, rfl⟩
theorem log_gen (gl g : Nat) (gen at_ : Int) (down : Bool) (w : World) (hL : LogAt w gl g gen at_ down) :
    Calls Try.prog 38 #[.pointer (some ⟨gl, 0, none⟩)] w fun e w' => e = .returned (.int .i64 gen) ∧ w = w' := by
  have hc := hL.cells.2.1
  clear hL
  go_enter Try.func38, Try.ntmps38
  go_wp2
  go_ret
  exact ⟨rfl, rfl⟩
open Go.Proofs.Ytpojfebecmjloaa.Opq in
/-- What a store into a log's block leaves. -/
theorem log_stored {w0 w : World} {gl g : Nat} {gen at_ : Int} {down : Bool} {s : Disk.DiskM} (hL : LogAt w gl g gen at_ down) (hI : IsS71 w0 w g s) (hB : Below w0.heap.size w0 w) (hge : w0.heap.size ≤ gl) (i : Nat) (u : Value) :
    (w.setCell ⟨gl, i, none⟩ u).heap[gl]? = some (.cells (#[.pointer (some ⟨g, 0, none⟩), .int .i64 gen, .int .i64 at_, .bool down].setIfInBounds i u) 96 (0, 0)) ∧ IsS71 w0 (w.setCell ⟨gl, i, none⟩ u) g s ∧ Below w0.heap.size w0 (w.setCell ⟨gl, i, none⟩ u) ∧ KeepO tsLog w0.heap.size w (w.setCell ⟨gl, i, none⟩ u) := by
  refine ⟨blk_set hL i u, hI.frame (frame_far (NP.blk (show w.heap[gl]? = some (.cells _ 96 (0, 0)) from hL) (by decide)) u), hB.setCell hge u, (KeepO.refl tsLog w0.heap.size w).set (.inr ⟨hge, ?_⟩) u⟩
  show Priv tsLog w.heap[gl]?
  rw [show w.heap[gl]? = _ from hL]
  show _ ∈ tsLog
  decide
open Go.Proofs.Ytpojfebecmjloaa.Opq in
theorem log_done (gl g : Nat) (gen at_ : Int) (down : Bool) (s : Disk.DiskM) (e1 : Int) (w0 w : World) (hL : LogAt w gl g gen at_ down) (hI : IsS71 w0 w g s) (hB : Below w0.heap.size w0 w) (hge : w0.heap.size ≤ gl) :
    Calls Try.prog 60 #[.pointer (some ⟨gl, 0, none⟩), .int .i64 e1] w fun e w' => e = .returned (.int .i64 e1) ∧ LogAt w' gl g gen at_ (down || decide (e1 = 4)) ∧ IsS71 w0 w' g s ∧ Below w0.heap.size w0 w' ∧ KeepO tsLog w0.heap.size w w' := by
  have hc := hL.cells.2.2.2
  have hf : w.frozen? ⟨gl, 3, none⟩ = false := blk_frozen hL 3
  have HS := Aside0.mk (fun (b : Bool) (hb : b = (down || decide (e1 = 4))) => show LogAt (w.setCell ⟨gl, 3, none⟩ (.bool b)) gl g gen at_ (down || decide (e1 = 4)) ∧ IsS71 w0 (w.setCell ⟨gl, 3, none⟩ (.bool b)) g s ∧ Below w0.heap.size w0 (w.setCell ⟨gl, 3, none⟩ (.bool b)) ∧ KeepO tsLog w0.heap.size w (w.setCell ⟨gl, 3, none⟩ (.bool b)) by
    subst hb
    have h := log_stored hL hI hB hge 3 (.bool (down || decide (e1 = 4)))
    exact ⟨h.1, h.2⟩)
  clear hL hI hB hge
  cases down with
  | true =>
    go_enter Try.func60, Try.ntmps60
    go_wp2
    go_ret
    exact ⟨rfl, HS.out true rfl⟩
  | false =>
    by_cases h4 : e1 = 4
    · have d1 : (e1 == 4) = true := beq_iff_eq.2 h4
      have HE := Aside0.mk h4
      clear h4
      go_enter Try.func60, Try.ntmps60
      go_wp2
      go_ret
      exact ⟨rfl, HS.out true (by rw [HE.out]; rfl)⟩
    · have d1 : (e1 == 4) = false := beq_eq_false_iff_ne.2 h4
      have HE := Aside0.mk h4
      clear h4
      go_enter Try.func60, Try.ntmps60
      go_wp2
      go_ret
      exact ⟨rfl, HS.out false (by rw [decide_eq_false HE.out]; rfl)⟩
theorem log_used (gl g : Nat) (gen at_ r1 r2 : Int) (down : Bool) (s s' : Disk.DiskM) (w0 w : World) (hL : LogAt w gl g gen at_ down) (hI : IsS71 w0 w g s) (h : wal_bounds.f s gen = some (r1, r2, s')) :
    Calls Try.prog 39 #[.pointer (some ⟨gl, 0, none⟩)] w fun e w' => e = .returned (.int .i64 (wrap64 (at_ - r1))) ∧ ∃ n, w.drewN n = w' := by
  obtain ⟨hc0, hc1, hc2, hc3⟩ := hL.cells
  have HI := Aside0.mk hI
  have HL := Aside0.mk hL
  have H := Aside0.mk h
  clear hL hI h
  go_enter Try.func39, Try.ntmps39
  go_wp2_with fail
  go_quiet (first | (go_at_call 58; refine (wal_bounds.calls1 g s gen r1 r2 s' w0 _ ?g1 H.out).mono ?_; (case g1 => repeat (first | exact HI.out | apply IsS71.drewN | apply IsS71.drew)); rintro e w' ⟨rfl, ⟨nd, rfl⟩⟩; (try first | exact ⟨rfl, _, World.drewN_drewN _ _ _⟩ | exact ⟨rfl, _, Eq.trans (World.drewN_drewN _ _ _) (congrArg (World.drewN _) (Nat.add_assoc _ _ _))⟩)))
  go_wp2
  go_ret
  exact ⟨rfl, _, rfl⟩
def logAppend.f (k : Nat) (s : Disk.DiskM) (gen at_ : Int) (down : Bool) (l : List Int) : Option (Int × Int × Bool × Disk.DiskM) :=
  if down = true then some (4, at_, true, s) else (wal_bounds.f s gen).bind fun b => (region_Lay.f k s at_ b.2.1 gen l).bind fun t => some (t.2.1, (if t.2.1 = 0 then t.1 else at_), decide (t.2.1 = 4), t.2.2)
theorem logAppend.mono (s : Disk.DiskM) (gen at_ : Int) (down : Bool) (l : List Int) (k : Nat) : LeO (logAppend.f k s gen at_ down l) (logAppend.f (k + 1) s gen at_ down l) := by
  unfold logAppend.f
  repeat' first
      | (with_reducible exact region_Lay.mono _ _ _ _ _ _)
      | (with_reducible exact LeO.refl _)
      | (with_reducible refine LeO.ite ?_ ?_)
      | (with_reducible refine LeO.bind ?_ (fun _ => ?_))
set_option maxHeartbeats 4000000 in
set_option maxRecDepth 100000 in
open Go.Proofs.Ytpojfebecmjloaa.Opq in
theorem log_append (k gl g : Nat) (gen at_ : Int) (down : Bool) (s : Disk.DiskM) (A : Option Addr) (c : Nat) (l : List Int) (e1 at2 : Int) (down2 : Bool) (s2 : Disk.DiskM) (w0 w : World) (hL : LogAt w gl g gen at_ down) (hI : IsS71 w0 w g s) (hB : Below w0.heap.size w0 w) (hge : w0.heap.size ≤ gl)
    (hC : ∀ W', KeepO ts71 w0.heap.size w W' → Kd.C (Kd.int .u8) W' A l.length l) (hcc : l.length ≤ c) (h : logAppend.f k s gen at_ down l = some (e1, at2, down2, s2)) :
    Calls Try.prog 36 #[.pointer (some ⟨gl, 0, none⟩), .slice A l.length c] w fun e w' => e = .returned (.int .i64 e1) ∧ LogAt w' gl g gen at2 down2 ∧ IsS71 w0 w' g s2 ∧ Below w0.heap.size w0 w' ∧ KeepO tsLog w0.heap.size w w' := by
  unfold logAppend.f at h
  have HL := Aside0.mk hL
  have HI := Aside0.mk hI
  have HB := Aside0.mk hB
  have HGE := Aside0.mk hge
  have HC := Aside0.mk hC
  have HCC := Aside0.mk hcc
  obtain ⟨hc0, hc1, hc2, hc3⟩ := hL.cells
  clear hL hI hB hge hC hcc
  cases down with
  | true =>
    rw [if_pos rfl] at h
    simp only [Option.some.injEq, Prod.mk.injEq] at h
    obtain ⟨rfl, rfl, rfl, rfl⟩ := h
    go_enter Try.func36, Try.ntmps36
    go_wp2_with (go_at_call 59; refine (log_check gl g gen at_ true _ HL.out).mono ?_; rintro e w' ⟨rfl, rfl⟩)
    go_ret
    exact ⟨rfl, HL.out, HI.out, HB.out, KeepO.refl _ _ _⟩
  | false =>
    rw [if_neg (by decide)] at h
    obtain ⟨⟨b1, b2, b3⟩, hbd, h⟩ := Option.bind_eq_some_iff.mp h
    obtain ⟨⟨n, e, s3⟩, hlay, h⟩ := Option.bind_eq_some_iff.mp h
    dsimp only at h hlay
    have HBD := Aside0.mk hbd
    have HLAY := Aside0.mk hlay
    simp only [Option.some.injEq, Prod.mk.injEq] at h
    obtain ⟨rfl, hat, rfl, rfl⟩ := h
    have HAT := Aside0.mk hat
    clear hbd hlay hat
    go_enter Try.func36, Try.ntmps36
    go_wp2_with (go_at_call 59; refine (log_check gl g gen at_ false _ HL.out).mono ?_; rintro e w' ⟨rfl, rfl⟩)
    go_quiet (first | (go_at_call 58; refine (wal_bounds.calls1 g s gen b1 b2 b3 w0 _ ?g1 HBD.out).mono ?_; (case g1 => repeat (first | exact HI.out | apply IsS71.drewN | apply IsS71.drew)); rintro e w' ⟨rfl, ⟨nd, rfl⟩⟩; (try first | exact ⟨rfl, _, World.drewN_drewN _ _ _⟩ | exact ⟨rfl, _, Eq.trans (World.drewN_drewN _ _ _) (congrArg (World.drewN _) (Nat.add_assoc _ _ _))⟩)))
    go_wp2_with fail
    go_region_held3 (fun w' => w'.cell? ⟨gl, 0, none⟩ = some (.pointer (some ⟨g, 0, none⟩)) ∧ w'.cell? ⟨gl, 1, none⟩ = some (.int .i64 gen) ∧ w'.cell? ⟨gl, 2, none⟩ = some (.int .i64 at_)) (first | exact ⟨HL2.out.cells.1, HL2.out.cells.2.1, HL2.out.cells.2.2.1⟩ | exact ⟨hc0, hc1, hc2⟩) (first | (go_at_call 26; refine (region_Lay.calls k g s at_ b2 gen A c l n e s3 w0 _ ?g1 ?g2 ?g3 HCC.out HLAY.out).mono ?_; (case g1 => exact (HI.out.drewN _)); (case g2 => exact pw_below_drewN HB.out _); (case g3 => exact fun W_ hk => HC.out W_ ((KeepO.refl _ _ _).drewN.trans hk)); rintro e1 w2 ⟨rfl, hi, hb, hk⟩; have HK2 := Aside0.mk ((KeepO.refl ts71 w0.heap.size w).drewN.trans hk); have HL2 := Aside0.mk (HL.out.keep HK2.out); have HI2 := Aside0.mk hi; have HB2 := Aside0.mk hb; clear hi hb hk))
    have hf2 : w2.frozen? ⟨gl, 2, none⟩ = false := blk_frozen HL2.out 2
    have HS := Aside0.mk (log_stored HL2.out HI2.out HB2.out HGE.out 2 (.int .i64 n))
    by_cases he : e = 0
    · have d1 : (e == 0) = true := beq_iff_eq.2 he
      have HE := Aside0.mk he
      clear he hc0 hc1 hc2 hc3
      go_wp2_with (go_at_call 60; refine (log_done gl g gen n false s3 e w0 _ HS.out.1 HS.out.2.1 HS.out.2.2.1 HGE.out).mono ?_; rintro e1 w3 ⟨rfl, hl3, hi3, hb3, hk3⟩; have HL3 := Aside0.mk hl3; have HI3 := Aside0.mk hi3; have HB3 := Aside0.mk hb3; have HK3 := Aside0.mk (((keep_log HK2.out).trans HS.out.2.2.2).trans hk3); clear hl3 hi3 hb3 hk3)
      go_ret
      have hat := HAT.out
      rw [if_pos HE.out] at hat
      subst hat
      exact ⟨rfl, HL3.out, HI3.out, HB3.out, HK3.out⟩
    · have d1 : (e == 0) = false := beq_eq_false_iff_ne.2 he
      have HE := Aside0.mk he
      clear he hc0 hc1 hc2 hc3
      go_wp2_with (go_at_call 60; refine (log_done gl g gen at_ false s3 e w0 _ HL2.out HI2.out HB2.out HGE.out).mono ?_; rintro e1 w3 ⟨rfl, hl3, hi3, hb3, hk3⟩; have HL3 := Aside0.mk hl3; have HI3 := Aside0.mk hi3; have HB3 := Aside0.mk hb3; have HK3 := Aside0.mk ((keep_log HK2.out).trans hk3); clear hl3 hi3 hb3 hk3)
      go_ret
      have hat := HAT.out
      rw [if_neg HE.out] at hat
      subst hat
      exact ⟨rfl, HL3.out, HI3.out, HB3.out, HK3.out⟩
def logCheck.f (k : Nat) (s : Disk.DiskM) (gen at_ : Int) (down : Bool) (l : List Int) : Option (Int × Int × Int × Bool × Disk.DiskM) :=
  if down = true then some (4, gen, at_, true, s) else (wal_bounds.f s (wrap64 (gen + 1))).bind fun b =>
    if (l.length : Int) > 8192 then some (1, gen, at_, false, s) else (region_Size.f (l.length : Int)).bind fun z =>
      if wrap64 (gen + 1) > 2147483647 ∨ z > wrap64 (b.2.1 - b.1) then some (3, gen, at_, false, s) else
        (region_Clean.f k s b.1 b.2.1).bind fun c => if c.1 ≠ 0 then some (c.1, gen, at_, decide (c.1 = 4), c.2) else
          (region_Lay.f k c.2 b.1 b.2.1 (wrap64 (gen + 1)) l).bind fun t => if t.2.1 ≠ 0 then some (t.2.1, gen, at_, decide (t.2.1 = 4), t.2.2) else
            (wal_install.f k t.2.2 (wrap64 (gen + 1))).bind fun i => some (i.1, (if i.1 = 0 then wrap64 (gen + 1) else gen), (if i.1 = 0 then t.1 else at_), decide (i.1 = 4), i.2)
theorem logCheck.mono (s : Disk.DiskM) (gen at_ : Int) (down : Bool) (l : List Int) (k : Nat) : LeO (logCheck.f k s gen at_ down l) (logCheck.f (k + 1) s gen at_ down l) := by
  unfold logCheck.f
  repeat' first
      | (with_reducible exact region_Lay.mono _ _ _ _ _ _)
      | (with_reducible exact region_Clean.mono _ _ _ _)
      | (with_reducible exact wal_install.mono _ _ _)
      | (with_reducible exact LeO.refl _)
      | (with_reducible refine LeO.ite ?_ ?_)
      | (with_reducible refine LeO.bind ?_ (fun _ => ?_))
set_option maxHeartbeats 4000000 in
set_option maxRecDepth 100000 in
open Go.Proofs.Ytpojfebecmjloaa.Opq in
theorem log_checkpoint (k gl g : Nat) (gen at_ : Int) (down : Bool) (s : Disk.DiskM) (A : Option Addr) (c : Nat) (l : List Int) (e1 gen2 at2 : Int) (down2 : Bool) (s2 : Disk.DiskM) (w0 w : World) (hL : LogAt w gl g gen at_ down) (hI : IsS71 w0 w g s) (hB : Below w0.heap.size w0 w) (hge : w0.heap.size ≤ gl)
    (hC : ∀ W', KeepO ts71 w0.heap.size w W' → Kd.C (Kd.int .u8) W' A l.length l) (hcc : l.length ≤ c) (h : logCheck.f k s gen at_ down l = some (e1, gen2, at2, down2, s2)) :
    Calls Try.prog 37 #[.pointer (some ⟨gl, 0, none⟩), .slice A l.length c] w fun e w' => e = .returned (.int .i64 e1) ∧ LogAt w' gl g gen2 at2 down2 ∧ IsS71 w0 w' g s2 ∧ Below w0.heap.size w0 w' ∧ KeepO tsLog w0.heap.size w w' := by
  unfold logCheck.f at h
  have HL := Aside0.mk hL
  have HI := Aside0.mk hI
  have HB := Aside0.mk hB
  have HGE := Aside0.mk hge
  have HC := Aside0.mk hC
  have HCC := Aside0.mk hcc
  obtain ⟨hc0, hc1, hc2, hc3⟩ := hL.cells
  clear hL hI hB hge hC hcc
  cases down with
  | true =>
    rw [if_pos rfl] at h
    simp only [Option.some.injEq, Prod.mk.injEq] at h
    obtain ⟨rfl, rfl, rfl, rfl, rfl⟩ := h
    go_enter Try.func37, Try.ntmps37
    go_wp2_with (go_at_call 59; refine (log_check gl g gen at_ true _ HL.out).mono ?_; rintro e w' ⟨rfl, rfl⟩)
    go_ret
    exact ⟨rfl, HL.out, HI.out, HB.out, KeepO.refl _ _ _⟩
  | false =>
    rw [if_neg (by decide)] at h
    obtain ⟨⟨b1, b2, b3⟩, hbd, h⟩ := Option.bind_eq_some_iff.mp h
    dsimp only at h
    have HBD := Aside0.mk hbd
    clear hbd
    by_cases hlen : (l.length : Int) > 8192
    · rw [if_pos hlen] at h
      simp only [Option.some.injEq, Prod.mk.injEq] at h
      obtain ⟨rfl, rfl, rfl, rfl, rfl⟩ := h
      have d1 : decide ((l.length : Int) > 8192) = true := decide_eq_true hlen
      have d2 : decide (8192 < l.length) = true := decide_eq_true (by omega)
      clear hlen
      go_enter Try.func37, Try.ntmps37
      go_wp2_with (first | (go_at_call 59; refine (log_check gl g gen at_ false _ HL.out).mono ?_; rintro e w' ⟨rfl, rfl⟩) | (go_at_call 58; refine (wal_bounds.calls0 g s _ b1 b2 b3 w0 _ HI.out HBD.out).mono ?_; rintro e w' ⟨rfl, rfl⟩))
      go_ret
      exact ⟨rfl, HL.out, HI.out, HB.out, KeepO.refl _ _ _⟩
    rw [if_neg hlen] at h
    have d1 : decide ((l.length : Int) > 8192) = false := decide_eq_false hlen
    have d2 : decide (8192 < l.length) = false := decide_eq_false (by omega)
    clear hlen
    obtain ⟨z, hz, h⟩ := Option.bind_eq_some_iff.mp h
    have HZ := Aside0.mk hz
    clear hz
    by_cases hfull : wrap64 (gen + 1) > 2147483647 ∨ z > wrap64 (b2 - b1)
    · rw [if_pos hfull] at h
      simp only [Option.some.injEq, Prod.mk.injEq] at h
      obtain ⟨rfl, rfl, rfl, rfl, rfl⟩ := h
      by_cases hg : wrap64 (gen + 1) > 2147483647
      · have d3 : decide (2147483647 < wrap64 (gen + 1)) = true := decide_eq_true hg
        clear hg hfull
        go_enter Try.func37, Try.ntmps37
        go_wp2_with (first | (go_at_call 59; refine (log_check gl g gen at_ false _ HL.out).mono ?_; rintro e w' ⟨rfl, rfl⟩) | (go_at_call 58; refine (wal_bounds.calls0 g s _ b1 b2 b3 w0 _ HI.out HBD.out).mono ?_; rintro e w' ⟨rfl, rfl⟩))
        go_ret
        exact ⟨rfl, HL.out, HI.out, HB.out, KeepO.refl _ _ _⟩
      · have hz2 : z > wrap64 (b2 - b1) := hfull.resolve_left hg
        have d3 : decide (2147483647 < wrap64 (gen + 1)) = false := decide_eq_false hg
        have d4 : decide (wrap64 (b2 - b1) < z) = true := decide_eq_true hz2
        clear hg hfull hz2
        go_enter Try.func37, Try.ntmps37
        go_wp2_with (first | (go_at_call 59; refine (log_check gl g gen at_ false _ HL.out).mono ?_; rintro e w' ⟨rfl, rfl⟩) | (go_at_call 58; refine (wal_bounds.calls0 g s _ b1 b2 b3 w0 _ HI.out HBD.out).mono ?_; rintro e w' ⟨rfl, rfl⟩) | (go_at_call 45; refine (region_Size.calls (l.length : Int) z _ HZ.out).mono ?_; rintro e w5 ⟨rfl, hb5⟩; have HB5 := Aside0.mk hb5; clear hb5))
        go_ret
        exact ⟨rfl, HL.out.below HB5.out, HI.out.below HB5.out, below_weaken HB.out HB.out.size HB5.out, KeepO.of_below HB5.out⟩
    rw [if_neg hfull] at h
    have d3 : decide (2147483647 < wrap64 (gen + 1)) = false := decide_eq_false (fun h => hfull (.inl h))
    have d4 : decide (wrap64 (b2 - b1) < z) = false := decide_eq_false (fun h => hfull (.inr h))
    clear hfull
    obtain ⟨⟨ce, s3⟩, hcl, h⟩ := Option.bind_eq_some_iff.mp h
    have HCL := Aside0.mk hcl
    clear hcl
    dsimp only at h
    have H := Aside0.mk h
    clear h
    go_enter Try.func37, Try.ntmps37
    go_wp2_with (first | (go_at_call 59; refine (log_check gl g gen at_ false _ HL.out).mono ?_; rintro e w' ⟨rfl, rfl⟩) | (go_at_call 58; refine (wal_bounds.calls0 g s _ b1 b2 b3 w0 _ HI.out HBD.out).mono ?_; rintro e w' ⟨rfl, rfl⟩) | (go_at_call 45; refine (region_Size.calls (l.length : Int) z _ HZ.out).mono ?_; rintro e w5 ⟨rfl, hb5⟩; have HL5 := Aside0.mk (HL.out.below hb5); have HI5 := Aside0.mk (HI.out.below hb5); have HB5 := Aside0.mk (below_weaken HB.out HB.out.size hb5); have HK5 := Aside0.mk (KeepO.of_below (ts := ts71) (B := w0.heap.size) hb5); clear hb5 hc0 hc1 hc2 hc3 HL HI HB; obtain ⟨hc0, hc1, hc2, hc3⟩ := HL5.out.cells))
    refine (region_Clean.calls k g s b1 b2 ce s3 w0 _ HI5.out HB5.out HCL.out).mono ?_
    rintro e w6 ⟨rfl, hi, hb, hk⟩
    have HI := Aside0.mk hi
    have HB := Aside0.mk hb
    have HK := Aside0.mk (HK5.out.trans hk)
    have HL := Aside0.mk (HL5.out.keep hk)
    clear hi hb hk HI5 HB5 HK5 HL5 hc0 hc1 hc2 hc3
    obtain ⟨hc0, hc1, hc2, hc3⟩ := HL.out.cells
    by_cases hce : ce ≠ 0
    · have h := H.out
      rw [if_pos hce] at h
      simp only [Option.some.injEq, Prod.mk.injEq] at h
      obtain ⟨rfl, rfl, rfl, rfl, rfl⟩ := h
      have d5 : (ce != 0) = true := bne_iff_ne.2 hce
      clear hce H
      go_wp2_with (go_at_call 60; refine (log_done gl g gen at_ false s3 ce w0 _ HL.out HI.out HB.out HGE.out).mono ?_; rintro e1 w3 ⟨rfl, hl3, hi3, hb3, hk3⟩; have HL3 := Aside0.mk hl3; have HI3 := Aside0.mk hi3; have HB3 := Aside0.mk hb3; have HK3 := Aside0.mk ((keep_log HK.out).trans hk3); clear hl3 hi3 hb3 hk3)
      go_ret
      exact ⟨rfl, HL3.out, HI3.out, HB3.out, HK3.out⟩
    have h := H.out
    rw [if_neg hce] at h
    obtain rfl : ce = 0 := Decidable.of_not_not hce
    clear hce H
    obtain ⟨⟨n, te, s4⟩, hlay, h⟩ := Option.bind_eq_some_iff.mp h
    have HLAY := Aside0.mk hlay
    dsimp only at h
    have H := Aside0.mk h
    clear hlay h
    go_wp2_with fail
    refine (region_Lay.calls k g s3 b1 b2 (wrap64 (gen + 1)) A c l n te s4 w0 _ HI.out HB.out (fun W_ hk => HC.out W_ (HK.out.trans hk)) HCC.out HLAY.out).mono ?_
    rintro e w7 ⟨rfl, hi, hb, hk⟩
    have HI7 := Aside0.mk hi
    have HB7 := Aside0.mk hb
    have HK7 := Aside0.mk (HK.out.trans hk)
    have HL7 := Aside0.mk (HL.out.keep hk)
    clear hi hb hk HI HB HK HL hc0 hc1 hc2 hc3
    obtain ⟨hc0, hc1, hc2, hc3⟩ := HL7.out.cells
    by_cases hte : te ≠ 0
    · have h := H.out
      rw [if_pos hte] at h
      simp only [Option.some.injEq, Prod.mk.injEq] at h
      obtain ⟨rfl, rfl, rfl, rfl, rfl⟩ := h
      have d5 : (te != 0) = true := bne_iff_ne.2 hte
      clear hte H
      go_wp2_with (go_at_call 60; refine (log_done gl g gen at_ false s4 te w0 _ HL7.out HI7.out HB7.out HGE.out).mono ?_; rintro e1 w3 ⟨rfl, hl3, hi3, hb3, hk3⟩; have HL3 := Aside0.mk hl3; have HI3 := Aside0.mk hi3; have HB3 := Aside0.mk hb3; have HK3 := Aside0.mk ((keep_log HK7.out).trans hk3); clear hl3 hi3 hb3 hk3)
      go_ret
      exact ⟨rfl, HL3.out, HI3.out, HB3.out, HK3.out⟩
    have h := H.out
    rw [if_neg hte] at h
    obtain rfl : te = 0 := Decidable.of_not_not hte
    clear hte H
    obtain ⟨⟨ie, s5⟩, hins, h⟩ := Option.bind_eq_some_iff.mp h
    have HINS := Aside0.mk hins
    dsimp only at h
    simp only [Option.some.injEq, Prod.mk.injEq] at h
    obtain ⟨rfl, hg2, ha2, rfl, rfl⟩ := h
    have HG2 := Aside0.mk hg2
    have HA2 := Aside0.mk ha2
    clear hins hg2 ha2
    go_wp2_with fail
    refine (wal_install.calls k g s4 (wrap64 (gen + 1)) ie s5 w0 _ HI7.out HB7.out HINS.out).mono ?_
    rintro e w8 ⟨rfl, hi, hb, hk⟩
    have HI8 := Aside0.mk hi
    have HB8 := Aside0.mk hb
    have HK8 := Aside0.mk (HK7.out.trans hk)
    have HL8 := Aside0.mk (HL7.out.keep hk)
    clear hi hb hk HI7 HB7 HK7 HL7 hc0 hc1 hc2 hc3
    by_cases hie : ie = 0
    · have d5 : (ie == 0) = true := beq_iff_eq.2 hie
      have HE := Aside0.mk hie
      clear hie
      have HS1 := Aside0.mk (log_stored HL8.out HI8.out HB8.out HGE.out 1 (.int .i64 (wrap64 (gen + 1))))
      have hl9 : LogAt (w8.setCell ⟨gl, 1, none⟩ (.int .i64 (wrap64 (gen + 1)))) gl g (wrap64 (gen + 1)) at_ false := HS1.out.1
      have HS2 := Aside0.mk (log_stored hl9 HS1.out.2.1 HS1.out.2.2.1 HGE.out 2 (.int .i64 n))
      have hf1 : w8.frozen? ⟨gl, 1, none⟩ = false := blk_frozen HL8.out 1
      have hf2 : (w8.setCell ⟨gl, 1, none⟩ (.int .i64 (wrap64 (gen + 1)))).frozen? ⟨gl, 2, none⟩ = false := blk_frozen HS1.out.1 2
      have hc1 : w8.cell? ⟨gl, 1, none⟩ = some (.int .i64 gen) := HL8.out.cells.2.1
      have hc2 : w8.cell? ⟨gl, 2, none⟩ = some (.int .i64 at_) := HL8.out.cells.2.2.1
      have hf3 : w8.frozen? ⟨gl, 2, none⟩ = false := blk_frozen HL8.out 2
      clear hl9
      go_wp2_with (go_at_call 60; refine (log_done gl g (wrap64 (gen + 1)) n false s5 ie w0 _ HS2.out.1 HS2.out.2.1 HS2.out.2.2.1 HGE.out).mono ?_; rintro e1 w3 ⟨rfl, hl3, hi3, hb3, hk3⟩; have HL3 := Aside0.mk hl3; have HI3 := Aside0.mk hi3; have HB3 := Aside0.mk hb3; have HK3 := Aside0.mk ((((keep_log HK8.out).trans HS1.out.2.2.2).trans HS2.out.2.2.2).trans hk3); clear hl3 hi3 hb3 hk3)
      go_ret
      have hg2 := HG2.out
      have ha2 := HA2.out
      rw [if_pos HE.out] at hg2 ha2
      subst hg2 ha2
      exact ⟨rfl, HL3.out, HI3.out, HB3.out, HK3.out⟩
    · have d5 : (ie == 0) = false := beq_eq_false_iff_ne.2 hie
      have HE := Aside0.mk hie
      clear hie
      go_wp2_with (go_at_call 60; refine (log_done gl g gen at_ false s5 ie w0 _ HL8.out HI8.out HB8.out HGE.out).mono ?_; rintro e1 w3 ⟨rfl, hl3, hi3, hb3, hk3⟩; have HL3 := Aside0.mk hl3; have HI3 := Aside0.mk hi3; have HB3 := Aside0.mk hb3; have HK3 := Aside0.mk ((keep_log HK8.out).trans hk3); clear hl3 hi3 hb3 hk3)
      go_ret
      have hg2 := HG2.out
      have ha2 := HA2.out
      rw [if_neg HE.out] at hg2 ha2
      subst hg2 ha2
      exact ⟨rfl, HL3.out, HI3.out, HB3.out, HK3.out⟩
def logOpen2.f (k : Nat) (s : Disk.DiskM) (gen : Int) : Option (List (List Int) × Int × Int × Int × Disk.DiskM) :=
  (wal_bounds.f s gen).bind fun b => (region_Scan.f k s b.1 b.2.1 gen).bind fun t => (region_Clean.f k t.2.2 t.2.1 b.2.1).bind fun c => if c.1 = 0 then some (t.1, gen, t.2.1, 0, c.2) else some ([], 0, 0, c.1, c.2)
def logOpen.f (k : Nat) (s : Disk.DiskM) : Option (List (List Int) × Int × Int × Int × Disk.DiskM) :=
  if Disk.len s < 4 then some ([], 0, 0, 1, s) else (wal_newestGen.f k s).bind fun n =>
    if n.1 = 0 then (wal_format.f k n.2).bind fun t => if t.1 = 0 then logOpen2.f k t.2 1 else some ([], 0, 0, t.1, t.2) else logOpen2.f k n.2 n.1
theorem logOpen2.mono (s : Disk.DiskM) (gen : Int) (k : Nat) : LeO (logOpen2.f k s gen) (logOpen2.f (k + 1) s gen) := by
  unfold logOpen2.f
  repeat' first
      | (with_reducible exact region_Scan.mono _ _ _ _ _)
      | (with_reducible exact region_Clean.mono _ _ _ _)
      | (with_reducible exact LeO.refl _)
      | (with_reducible refine LeO.ite ?_ ?_)
      | (with_reducible refine LeO.bind ?_ (fun _ => ?_))
theorem logOpen.mono (s : Disk.DiskM) (k : Nat) : LeO (logOpen.f k s) (logOpen.f (k + 1) s) := by
  unfold logOpen.f
  repeat' first
      | (with_reducible exact wal_newestGen.mono _ _)
      | (with_reducible exact wal_format.mono _ _)
      | (with_reducible exact logOpen2.mono _ _ _)
      | (with_reducible exact LeO.refl _)
      | (with_reducible refine LeO.ite ?_ ?_)
      | (with_reducible refine LeO.bind ?_ (fun _ => ?_))
/-- What Open gives: a log, or none. -/
def OpenAt (w0 w w' : World) (g : Nat) (lp v0 : Value) (list : List (List Int)) (gen at_ err : Int) (s2 : Disk.DiskM) : Prop :=
  (∃ L, Kd.R (Kd.scalar sliceV sliceV_one) 22 w' w.heap.size (fun _ => True) v0 L ∧ RowsAt w' L list) ∧ ((err = 0 ∧ ∃ gl, lp = .pointer (some ⟨gl, 0, none⟩) ∧ LogAt w' gl g gen at_ false ∧ w.heap.size ≤ gl) ∨ (err ≠ 0 ∧ lp = .pointer none)) ∧
    IsS71 w0 w' g s2 ∧ Below w0.heap.size w0 w' ∧ Go.Proofs.Ytpojfebecmjloaa.Opq.KeepO ts71 w0.heap.size w w'
set_option maxHeartbeats 4000000 in
set_option maxRecDepth 100000 in
open Go.Proofs.Ytpojfebecmjloaa.Opq in
theorem log_open (k g : Nat) (s : Disk.DiskM) (list : List (List Int)) (gen at_ err : Int) (s2 : Disk.DiskM) (w0 w : World) (hI : IsS71 w0 w g s) (hB : Below w0.heap.size w0 w) (h : logOpen.f k s = some (list, gen, at_, err, s2)) :
    Calls Try.prog 34 #[.pointer (some ⟨g, 0, none⟩)] w fun e w' => ∃ lp v0, e = .returned (.tuple #[lp, v0, .int .i64 err]) ∧ OpenAt w0 w w' g lp v0 list gen at_ err s2 := by
  unfold logOpen.f at h
  have HI := Aside0.mk hI
  have HB := Aside0.mk hB
  clear hI hB
  by_cases hl : Disk.len s < 4
  · rw [if_pos hl] at h
    simp only [Option.some.injEq, Prod.mk.injEq] at h
    obtain ⟨rfl, rfl, rfl, rfl, rfl⟩ := h
    have d0 : decide (Disk.len s < 4) = true := decide_eq_true hl
    clear hl
    go_enter Try.func34, Try.ntmps34
    go_wp2_with (go_at_call 22; refine (sector_Disk_Len.calls0 g s w0 _ HI.out).mono ?_; rintro e w' ⟨rfl, rfl⟩)
    go_ret3
    exact ⟨_, _, rfl, ⟨[], Kd.R_nil _ _ _ _ _, RowsAt.nil _⟩, .inr ⟨by decide, rfl⟩, HI.out, HB.out, KeepO.refl _ _ _⟩
  rw [if_neg hl] at h
  have d0 : decide (Disk.len s < 4) = false := decide_eq_false hl
  clear hl
  obtain ⟨⟨n, s3⟩, hn, h⟩ := Option.bind_eq_some_iff.mp h
  have HN := Aside0.mk hn
  have H := Aside0.mk h
  clear hn h
  have h := H.out
  clear H
  by_cases hn0 : n = 0
  · rw [if_pos hn0] at h
    subst hn0
    obtain ⟨⟨fe, s5⟩, hf, h⟩ := Option.bind_eq_some_iff.mp h
    dsimp only at h
    have HF := Aside0.mk hf
    clear hf
    by_cases hfe : fe = 0
    · rw [if_pos hfe] at h
      subst hfe
      have H := Aside0.mk h
      clear h
      go_enter Try.func34, Try.ntmps34
      go_wp2_with (first | (go_at_call 22; refine (sector_Disk_Len.calls0 g s w0 _ HI.out).mono ?_; rintro e w' ⟨rfl, rfl⟩) | (go_at_call 56; refine (wal_newestGen.calls k g s 0 s3 w0 w HI.out HB.out HN.out).mono ?_; rintro e w1 ⟨rfl, hi, hb, hk⟩; clear HI HB HN; have HI := Aside0.mk hi; have HB := Aside0.mk hb; have HK := Aside0.mk hk; clear hi hb hk))
      go_wp2_with (go_at_call 57; refine (wal_format.calls k g s3 0 s5 w0 _ HI.out HB.out HF.out).mono ?_; rintro e w2 ⟨rfl, hi, hb, hk⟩; have HI2 := Aside0.mk hi; have HB2 := Aside0.mk hb; have HK2 := Aside0.mk (HK.out.trans hk); clear hi hb hk HI HB HK)
      have h := H.out
      clear H
      unfold logOpen2.f at h
      obtain ⟨⟨b1, b2, b3⟩, hbd, h⟩ := Option.bind_eq_some_iff.mp h
      obtain ⟨⟨x, y, s6⟩, hsc, h4⟩ := Option.bind_eq_some_iff.mp h
      clear h
      obtain ⟨⟨ce, s7⟩, hcl, h3⟩ := Option.bind_eq_some_iff.mp h4
      clear h4
      dsimp only at h3 hsc hcl
      have h := h3
      clear h3
      have HBD := Aside0.mk hbd
      have HSC := Aside0.mk hsc
      have HCL := Aside0.mk hcl
      have HGE := Aside0.mk (HK2.out).size
      clear hbd hsc hcl
      go_wp2_with (go_at_call 58; refine (wal_bounds.calls0 g s5 1 b1 b2 b3 w0 _ (HI2.out) HBD.out).mono ?_; rintro e w' ⟨rfl, rfl⟩)
      refine (region_Scan.calls k g s5 b1 b2 1 x y s6 w0 _ (HI2.out) (HB2.out) HSC.out).mono ?_
      rintro e w3 ⟨v0, L, rfl, hR, hL, hi, hb, hk⟩
      have HR := Aside0.mk (Kd.R_lower hR HGE.out)
      have HL := Aside0.mk hL
      have HI3 := Aside0.mk hi
      have HB3 := Aside0.mk hb
      have HK3 := Aside0.mk ((HK2.out).trans hk)
      clear hR hL hi hb hk
      go_wp2_with fail
      refine (region_Clean.calls k g s6 y b2 ce s7 w0 _ HI3.out HB3.out HCL.out).mono ?_
      rintro e w4 ⟨rfl, hi, hb, hk⟩
      have HI4 := Aside0.mk hi
      have HB4 := Aside0.mk hb
      have HK4 := Aside0.mk (HK3.out.trans hk)
      have HR4 := Aside0.mk (R_keep HR.out hk (by decide))
      have HL4 := Aside0.mk (HL.out.keepO hk (by decide))
      clear hi hb hk HI3 HB3 HK3 HR HL
      by_cases hce : ce = 0
      · rw [if_pos hce] at h
        simp only [Option.some.injEq, Prod.mk.injEq] at h
        obtain ⟨rfl, rfl, rfl, rfl, rfl⟩ := h
        have d7 : (ce != 0) = false := by rw [hce]; rfl
        clear hce
        go_wp2_with fail
        go_ret3
        exact ⟨_, _, rfl, ⟨L, Kd.R_alloc HR4.out _, HL4.out.below (below_alloc (Below.refl _ _) _)⟩, .inl ⟨rfl, _, rfl, heap_alloc_new _ _, HK4.out.size⟩, HI4.out.alloc _, below_alloc HB4.out _, HK4.out.alloc⟩
      · rw [if_neg hce] at h
        simp only [Option.some.injEq, Prod.mk.injEq] at h
        obtain ⟨rfl, rfl, rfl, rfl, rfl⟩ := h
        have d7 : (ce != 0) = true := bne_iff_ne.2 hce
        have HE := Aside0.mk hce
        clear hce
        go_wp2_with fail
        go_ret3
        exact ⟨_, _, rfl, ⟨[], Kd.R_nil _ _ _ _ _, RowsAt.nil _⟩, .inr ⟨HE.out, rfl⟩, HI4.out, HB4.out, HK4.out⟩
    · rw [if_neg hfe] at h
      simp only [Option.some.injEq, Prod.mk.injEq] at h
      obtain ⟨rfl, rfl, rfl, rfl, rfl⟩ := h
      have d1 : (fe != 0) = true := bne_iff_ne.2 hfe
      have HE := Aside0.mk hfe
      clear hfe
      go_enter Try.func34, Try.ntmps34
      go_wp2_with (first | (go_at_call 22; refine (sector_Disk_Len.calls0 g s w0 _ HI.out).mono ?_; rintro e w' ⟨rfl, rfl⟩) | (go_at_call 56; refine (wal_newestGen.calls k g s 0 s3 w0 w HI.out HB.out HN.out).mono ?_; rintro e w1 ⟨rfl, hi, hb, hk⟩; clear HI HB HN; have HI := Aside0.mk hi; have HB := Aside0.mk hb; have HK := Aside0.mk hk; clear hi hb hk))
      go_wp2_with (go_at_call 57; refine (wal_format.calls k g s3 fe s5 w0 _ HI.out HB.out HF.out).mono ?_; rintro e w2 ⟨rfl, hi, hb, hk⟩; have HI2 := Aside0.mk hi; have HB2 := Aside0.mk hb; have HK2 := Aside0.mk (HK.out.trans hk); clear hi hb hk)
      go_ret3
      exact ⟨_, _, rfl, ⟨[], Kd.R_nil _ _ _ _ _, RowsAt.nil _⟩, .inr ⟨HE.out, rfl⟩, HI2.out, HB2.out, HK2.out⟩
  · rw [if_neg hn0] at h
    have d1 : (n == 0) = false := beq_eq_false_iff_ne.2 hn0
    have H := Aside0.mk h
    clear h hn0
    go_enter Try.func34, Try.ntmps34
    go_wp2_with (first | (go_at_call 22; refine (sector_Disk_Len.calls0 g s w0 _ HI.out).mono ?_; rintro e w' ⟨rfl, rfl⟩) | (go_at_call 56; refine (wal_newestGen.calls k g s n s3 w0 w HI.out HB.out HN.out).mono ?_; rintro e w1 ⟨rfl, hi, hb, hk⟩; clear HI HB HN; have HI := Aside0.mk hi; have HB := Aside0.mk hb; have HK := Aside0.mk hk; clear hi hb hk))
    have h := H.out
    clear H
    unfold logOpen2.f at h
    obtain ⟨⟨b1, b2, b3⟩, hbd, h⟩ := Option.bind_eq_some_iff.mp h
    obtain ⟨⟨x, y, s6⟩, hsc, h4⟩ := Option.bind_eq_some_iff.mp h
    clear h
    obtain ⟨⟨ce, s7⟩, hcl, h3⟩ := Option.bind_eq_some_iff.mp h4
    clear h4
    dsimp only at h3 hsc hcl
    have h := h3
    clear h3
    have HBD := Aside0.mk hbd
    have HSC := Aside0.mk hsc
    have HCL := Aside0.mk hcl
    have HGE := Aside0.mk (HK.out).size
    clear hbd hsc hcl
    go_wp2_with (go_at_call 58; refine (wal_bounds.calls0 g s3 n b1 b2 b3 w0 _ (HI.out) HBD.out).mono ?_; rintro e w' ⟨rfl, rfl⟩)
    refine (region_Scan.calls k g s3 b1 b2 n x y s6 w0 _ (HI.out) (HB.out) HSC.out).mono ?_
    rintro e w3 ⟨v0, L, rfl, hR, hL, hi, hb, hk⟩
    have HR := Aside0.mk (Kd.R_lower hR HGE.out)
    have HL := Aside0.mk hL
    have HI3 := Aside0.mk hi
    have HB3 := Aside0.mk hb
    have HK3 := Aside0.mk ((HK.out).trans hk)
    clear hR hL hi hb hk
    go_wp2_with fail
    refine (region_Clean.calls k g s6 y b2 ce s7 w0 _ HI3.out HB3.out HCL.out).mono ?_
    rintro e w4 ⟨rfl, hi, hb, hk⟩
    have HI4 := Aside0.mk hi
    have HB4 := Aside0.mk hb
    have HK4 := Aside0.mk (HK3.out.trans hk)
    have HR4 := Aside0.mk (R_keep HR.out hk (by decide))
    have HL4 := Aside0.mk (HL.out.keepO hk (by decide))
    clear hi hb hk HI3 HB3 HK3 HR HL
    by_cases hce : ce = 0
    · rw [if_pos hce] at h
      simp only [Option.some.injEq, Prod.mk.injEq] at h
      obtain ⟨rfl, rfl, rfl, rfl, rfl⟩ := h
      have d7 : (ce != 0) = false := by rw [hce]; rfl
      clear hce
      go_wp2_with fail
      go_ret3
      exact ⟨_, _, rfl, ⟨L, Kd.R_alloc HR4.out _, HL4.out.below (below_alloc (Below.refl _ _) _)⟩, .inl ⟨rfl, _, rfl, heap_alloc_new _ _, HK4.out.size⟩, HI4.out.alloc _, below_alloc HB4.out _, HK4.out.alloc⟩
    · rw [if_neg hce] at h
      simp only [Option.some.injEq, Prod.mk.injEq] at h
      obtain ⟨rfl, rfl, rfl, rfl, rfl⟩ := h
      have d7 : (ce != 0) = true := bne_iff_ne.2 hce
      have HE := Aside0.mk hce
      clear hce
      go_wp2_with fail
      go_ret3
      exact ⟨_, _, rfl, ⟨[], Kd.R_nil _ _ _ _ _, RowsAt.nil _⟩, .inr ⟨HE.out, rfl⟩, HI4.out, HB4.out, HK4.out⟩
def interregnumlaw04_answers.f : Option Bool := some true
def ans04Disk1 : Disk.DiskM := ((logOpen.f 600 (Disk.new 40)).getD ([], 0, 0, 0, Disk.new 0)).2.2.2.2
def ans04Disk2 : Disk.DiskM := ((logAppend.f 600 ans04Disk1 1 21 false [104, 105]).getD (0, 0, false, Disk.new 0)).2.2.2
def ans04Disk3 : Disk.DiskM := ((logOpen.f 600 ans04Disk2).getD ([], 0, 0, 0, Disk.new 0)).2.2.2.2
theorem ans04_open : logOpen.f 600 (Disk.new 40) = some ([], 1, 21, 0, ans04Disk1) := by kernel_rfl
theorem ans04_append : logAppend.f 600 ans04Disk1 1 21 false [104, 105] = some (0, 23, false, ans04Disk2) := by kernel_rfl
theorem ans04_again : logOpen.f 600 ans04Disk2 = some ([[104, 105]], 1, 23, 0, ans04Disk3) := by kernel_rfl
theorem ans04_bounds : wal_bounds.f ans04Disk3 1 = some (21, 40, ans04Disk3) := by kernel_rfl
theorem ans04_block {w : World} {k : IntKind} {b n : Nat} {t : TypeId} {fr : Nat × Nat} {xs : List Int} (hb : w.heap[b]? = some (.cells (xs.map (Value.int k)).toArray t fr)) (hn : xs.length = n) (hm : xs.length ≤ 9223372036854775807) :
    Kd.C (Kd.int k) w (some ⟨b, 0, none⟩) n xs := by
  refine Kd.C_of_reads (d := 0) ⟨hn, by omega, fun h => ⟨_, rfl, fun j hj => ?_⟩⟩
  have e : (⟨b, 0, none⟩ : Addr).add j = ⟨b, j, none⟩ := by
    unfold Addr.add
    split
    · rename_i h0; rw [h0]
    · simp
  rw [e]
  simp only [World.cell?, hb]
  have hj' : j < xs.length := by omega
  simp [List.getD_eq_getElem?_getD, hj']
set_option maxHeartbeats 4000000 in
set_option maxRecDepth 100000 in
open Go.Proofs.Ytpojfebecmjloaa.Opq in
theorem interregnumlaw04_answers.calls (r : Bool) (w : World) (h : interregnumlaw04_answers.f = some r) :
    Calls Try.prog 35 #[] w fun e w' => e = .returned (.bool r) ∧ Below w.heap.size w w' := by
  obtain rfl := Option.some.inj h
  clear h
  have HO := Aside0.mk ans04_open
  have HP := Aside0.mk ans04_append
  have HQ := Aside0.mk ans04_again
  have HBD := Aside0.mk ans04_bounds
  have kc := fun (w : World) (C : Array Value) (n c : Nat) => Lib.run_convert_bytes_const (P := Try.prog) w 22 5 C n c Try.underlying22 Try.underlying5
  generalize ans04Disk1 = s1 at HO HP
  generalize ans04Disk2 = s2 at HP HQ
  generalize ans04Disk3 = s3 at HQ HBD
  go_enter Try.func35, Try.ntmps35
  go_wp2_with fail
  refine (sector_New.calls 40 (Disk.new 40) w w (Below.refl _ _) rfl).mono ?_
  rintro e w1 ⟨g, rfl, hi, hb, _⟩
  have HI := Aside0.mk hi
  have HB := Aside0.mk hb
  clear hi hb
  go_wp2_with fail
  refine (log_open 600 g (Disk.new 40) [] 1 21 0 s1 w w1 HI.out HB.out HO.out).mono ?_
  rintro e w2 ⟨lp, v0, rfl, ⟨L0, hR, hL⟩, hlog, hi, hb, _⟩
  rcases hlog with ⟨_, gl, rfl, hat, hge⟩ | ⟨h0, _⟩
  rotate_left
  · exact absurd rfl h0
  obtain ⟨A0, c0, rfl⟩ := Kd.R_slice hR
  have HGE := Aside0.mk (Nat.le_trans HB.out.size hge)
  clear HI HB hR hL hge
  have HI := Aside0.mk hi
  have HB := Aside0.mk hb
  have HL := Aside0.mk hat
  clear hi hb hat
  go_wp2_with fail
  have hb0 := heap_alloc_new w2 (.cells #[.int .u8 104, .int .u8 105] 5 (2, 3))
  have hal : Below w2.heap.size w2 (w2.alloc (.cells #[.int .u8 104, .int .u8 105] 5 (2, 3))) := below_alloc (Below.refl _ _) _
  refine (log_append 600 gl g 1 21 false s1 (some ⟨w2.heap.size, 0, none⟩) 2 [104, 105] 0 23 false s2 w _ (HL.out.below hal) (HI.out.alloc _) (below_weaken HB.out HB.out.size hal) HGE.out
    (fun W_ hk => ans04_block (t := 5) (fr := (2, 3)) (xs := [104, 105]) ((hk.keep w2.heap.size (by simp) (.inr (fun hp => by rw [hb0] at hp; exact absurd hp (show ¬ (5 ∈ ts71) by decide)))).trans hb0) rfl (by simp)) (by simp) HP.out).mono ?_
  rintro e w3 ⟨rfl, hl, hi, hb, _⟩
  clear hb0 hal HI HB HL
  have HI := Aside0.mk hi
  have HB := Aside0.mk hb
  have HL := Aside0.mk hl
  clear hi hb hl
  go_wp2_with fail
  refine (log_open 600 g s2 [[104, 105]] 1 23 0 s3 w w3 HI.out HB.out HQ.out).mono ?_
  rintro e w4 ⟨lp, v0, rfl, ⟨L, hR, hrows⟩, hlog, hi, hb, hk⟩
  have HL4 := Aside0.mk (HL.out.keep hk)
  rcases hlog with ⟨_, gl2, rfl, hat, hge⟩ | ⟨h0, _⟩
  rotate_left
  · exact absurd rfl h0
  obtain ⟨A1, c1, rfl⟩ := Kd.R_slice hR
  obtain ⟨hle, hat2⟩ := hrows
  match L, hle, hat2, hR with
  | [(A, n, c)], _, hat2, hR =>
  obtain ⟨hn, hnc, hlies⟩ := hat2 0 _ [104, 105] rfl rfl
  have hC := Lies.C hlies
  dsimp only at hn hnc hC
  obtain rfl : n = 2 := hn
  obtain ⟨_, _, hcl⟩ := Kd.reads_of_C (d := ((none, 0, 0) : Option Addr × Nat × Nat)) (Kd.R_reads' hR).2.2
  obtain ⟨ad, e1, hcell⟩ := hcl (by simp)
  subst e1
  have hc0 : w4.cell? ad = some (.slice A 2 c) := by
    have := hcell 0 (by simp)
    rwa [show ad.add 0 = ad by unfold Addr.add; rfl] at this
  have hcv := Kd.C_string (P := Try.prog) (A := A) (c := c) Try.underlying22 Try.underlying5 Try.underlying9 hC
  rw [show ([104, 105] : List Int).length = 2 from rfl] at hcv
  have hst : ((strOfNums [104, 105]).toList == ([104, 105] : List UInt8)) = true := by kernel_rfl
  clear HI HB kc HL
  have HI := Aside0.mk hi
  have HB := Aside0.mk hb
  clear hi hb hk hR hlies hC hcell hcl hat hat2 hge
  go_wp2_with (first | (go_at_call 38; refine (log_gen gl g 1 23 false _ HL4.out).mono ?_; rintro e w' ⟨rfl, rfl⟩) | (go_at_call 39; refine (log_used gl g 1 23 21 40 false s3 s3 w _ HL4.out HI.out HBD.out).mono ?_; rintro e w5 ⟨rfl, nq, rfl⟩))
  go_ret
  exact ⟨congrArg (fun b => Ending.returned (.bool b)) (show (wrap64 2 == 2) = true by kernel_rfl), pw_below_drewN HB.out _⟩


-- NOT PRINTED: function 37 (wal_Log_Checkpoint)

end Go.Proofs.Ytpojfebecmjloaa.PWalSupers
