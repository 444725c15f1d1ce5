-- Lean text by a program of this repo (wip/tools/printx.py), out of Lean's own print of the translation
import Derived.BigQuiet
import Derived.Deep.QuietTactic
import Derived.Test.YtpojfebecmjloaaMid
import Derived.Test.YtpojfebecmjloaaPWalSupersx0
import Derived.Test.YtpojfebecmjloaaPWalSupersx1
import Derived.Test.YtpojfebecmjloaaPWalSupersx2
import Derived.Test.YtpojfebecmjloaaPWalSupersx3
import Derived.Test.YtpojfebecmjloaaPWalSupersx4
namespace Go.Proofs.Ytpojfebecmjloaa.PWalSupers
open Go.RowKit Go.Proofs.YtpojfebecmjloaaW.PrintWords Go.Proofs.YtpojfebecmjloaaW.PrintLast Go.Proofs.YtpojfebecmjloaaW.PrintMore
attribute [local go_sem] max2_int min2_int max_two min_two max_three min_three max_four min_four   -- for this text's walks alone
set_option linter.unusedVariables false
set_option linter.unusedSimpArgs false

/-! ### region_Scan: function 27 -/
-- FN rounds=1 making=1
-- IMPORT Derived.Test.YtpojfebecmjloaaMid
def region_Scan.l0 : Nat → Int → Int → Int → List (List Int) → Disk.DiskM → Option ((List (List Int)) × Int × Disk.DiskM)
  | 0, _, _, _, _, _ => none
  | k + 1, x1, x2, x3, x10, x1000 => (region_one.f k x1000 x1 x2 x3).bind fun bt199 => (if bt199.2.1 = true then (if x10.length < 5864062014805 then ((region_Size.f (bt199.1.length : Int)).bind fun t207 => (region_Scan.l0 k (wrap64 (x1 + t207)) x2 x3 (x10 ++ [bt199.1]) bt199.2.2)) else (none)) else (some (x10, x1, bt199.2.2)))
def region_Scan.f (k : Nat) (s0_0 : Disk.DiskM) (a1 : Int) (a2 : Int) (a3 : Int) : Option ((List (List Int)) × Int × Disk.DiskM) := region_Scan.l0 k a1 a2 a3 ([] : List (List Int)) s0_0
theorem region_Scan.mono_l : ∀ k, (∀ y0 y1 y2 y3 y4, LeO (region_Scan.l0 k y0 y1 y2 y3 y4) (region_Scan.l0 (k + 1) y0 y1 y2 y3 y4))
  | 0 => fun _ _ _ _ _ r h => by simp [region_Scan.l0] at h
  | k + 1 => by
    have ih0 := region_Scan.mono_l k
    · intro y0 y1 y2 y3 y4
      unfold region_Scan.l0
      repeat' first
      | (with_reducible exact ih0 _ _ _ _ _)
      | (with_reducible exact region_one.mono _ _ _ _ _)
      | (with_reducible exact LeO.refl _)
      | (with_reducible exact LeO.none _)
      | (with_reducible refine LeO.ite ?_ ?_)
      | (with_reducible refine LeO.bind ?_ (fun _ => ?_))
      | exact ih0 _ _ _ _ _
      | exact region_one.mono _ _ _ _ _
      | exact LeO.none _
      | refine LeO.ite ?_ ?_
      | refine LeO.bind ?_ (fun _ => ?_)
theorem region_Scan.mono : ∀ a0 a1 a2 a3 k, LeO (region_Scan.f k a0 a1 a2 a3) (region_Scan.f (k + 1) a0 a1 a2 a3) := by
  intro a0 a1 a2 a3 k
  have ih0 := region_Scan.mono_l k
  unfold region_Scan.f
  repeat' first
      | (with_reducible exact ih0 _ _ _ _ _)
      | (with_reducible exact region_one.mono _ _ _ _ _)
      | (with_reducible exact LeO.refl _)
      | (with_reducible exact LeO.none _)
      | (with_reducible refine LeO.ite ?_ ?_)
      | (with_reducible refine LeO.bind ?_ (fun _ => ?_))
      | exact ih0 _ _ _ _ _
      | exact region_one.mono _ _ _ _ _
      | exact LeO.none _
      | refine LeO.ite ?_ ?_
      | refine LeO.bind ?_ (fun _ => ?_)
/-- A slice, as an element of a list of slices. -/
def sliceV (p : Option Addr × Nat × Nat) : Value := .slice p.1 p.2.1 p.2.2
theorem sliceV_one (p : Option Addr × Nat × Nat) : (sliceV p).oneCell' = true := rfl
/-- What the elements of a list of slices have. -/
def RowsAt (w : World) (L : List (Option Addr × Nat × Nat)) (r : List (List Int)) : Prop :=
  L.length = r.length ∧ ∀ (j : Nat) p xs, L[j]? = some p → r[j]? = some xs → p.2.1 = xs.length ∧ xs.length ≤ p.2.2 ∧ Lies w p.1 xs
theorem RowsAt.nil (w : World) : RowsAt w [] [] := ⟨rfl, fun j p xs h => by simp at h⟩
theorem RowsAt.keep {w w1 : World} {L : List (Option Addr × Nat × Nat)} {r : List (List Int)} (h : RowsAt w L r) (hk : ∀ (g : Nat) (cur : Array Value), w.heap[g]? = some (.cells cur 5 (0, 0)) → w1.heap[g]? = some (.cells cur 5 (0, 0))) : RowsAt w1 L r :=
  ⟨h.1, fun j p xs h1 h2 => ⟨(h.2 j p xs h1 h2).1, (h.2 j p xs h1 h2).2.1, Lies.keep (h.2 j p xs h1 h2).2.2 hk⟩⟩
theorem RowsAt.keepO {ts : List Nat} {B : Nat} {w w1 : World} {L : List (Option Addr × Nat × Nat)} {r : List (List Int)} (h : RowsAt w L r) (hk : Go.Proofs.Ytpojfebecmjloaa.Opq.KeepO ts B w w1) (ht : 5 ∉ ts) : RowsAt w1 L r :=
  RowsAt.keep h fun _ _ hb => hk.blk hb ht
theorem RowsAt.below {w w1 : World} {L : List (Option Addr × Nat × Nat)} {r : List (List Int)} (h : RowsAt w L r) (hb : Below w.heap.size w w1) : RowsAt w1 L r :=
  RowsAt.keep h fun _ _ hc => (hb.block _ (blk_lt hc)).trans hc
theorem RowsAt.snoc {w : World} {L : List (Option Addr × Nat × Nat)} {r : List (List Int)} {A : Option Addr} {c : Nat} {xs : List Int} (h : RowsAt w L r) (hc : xs.length ≤ c) (hl : Lies w A xs) : RowsAt w (L ++ [(A, xs.length, c)]) (r ++ [xs]) := by
  refine ⟨by simp [h.1], fun j p ys h1 h2 => ?_⟩
  rcases Nat.lt_trichotomy j L.length with hj | hj | hj
  · rw [List.getElem?_append_left hj] at h1
    rw [List.getElem?_append_left (by rw [← h.1]; exact hj)] at h2
    exact h.2 j p ys h1 h2
  · subst hj
    rw [List.getElem?_append_right (Nat.le_refl _), Nat.sub_self] at h1
    rw [h.1, List.getElem?_append_right (Nat.le_refl _), Nat.sub_self] at h2
    simp only [List.getElem?_cons_zero, Option.some.injEq] at h1 h2
    subst h1 h2
    exact ⟨rfl, hc, hl⟩
  · rw [List.getElem?_eq_none (by simp; omega)] at h1
    cases h1
set_option maxHeartbeats 8000000 in
set_option maxRecDepth 100000 in
open Go.Proofs.Ytpojfebecmjloaa.Opq in
theorem region_Scan.calls (k : Nat) (g : Nat) (s0_0 : Disk.DiskM) (a1 : Int) (a2 : Int) (a3 : Int) (r1 : List (List Int)) (r2 : Int) (r3 : Disk.DiskM) (w0 w : World) (hI : IsS71 w0 w g s0_0) (hB : Below w0.heap.size w0 w) (h : region_Scan.f k s0_0 a1 a2 a3 = some (r1, r2, r3)) :
    Calls Try.prog 27 #[.pointer (some ⟨g, 0, none⟩), .int .i64 a1, .int .i64 a2, .int .i64 a3] w fun e w' => ∃ (v0_ : Value) (L : List (Option Addr × Nat × Nat)), e = .returned (.tuple #[v0_, .int .i64 r2]) ∧ Kd.R (Kd.scalar sliceV sliceV_one) 22 w' w.heap.size (fun _ => True) v0_ L ∧ RowsAt w' L r1 ∧ IsS71 w0 w' g r3 ∧ Below w0.heap.size w0 w' ∧ KeepO ts71 w0.heap.size w w' := by
  have H := Aside0.mk (show region_Scan.l0 k a1 a2 a3 [] s0_0 = some (r1, r2, r3) from h)
  have HI0 := Aside0.mk hI
  have HB0 := Aside0.mk hB
  have HGE := Aside0.mk hB.size
  clear h hI hB
  go_enter Try.func27, Try.ntmps27
  go_wp2
  go_loopg [1, 10] k (fun kq v1 v10 wr => ∃ (i : Int) (out : List (List Int)) (sk : Disk.DiskM) (L : List (Option Addr × Nat × Nat)), v1 = .int .i64 i ∧ Aside0 (region_Scan.l0 kq i a2 a3 out sk = some (r1, r2, r3)) ∧ Aside0 (kq ≤ k) ∧ Aside0 (Kd.R (Kd.scalar sliceV sliceV_one) 22 wr w.heap.size (fun _ => True) v10 L) ∧ Aside0 (RowsAt wr L out) ∧ Aside0 (IsS71 w0 wr g sk) ∧ Aside0 (Below w0.heap.size w0 wr) ∧ Aside0 (KeepO ts71 w0.heap.size w wr))
  case atStart => exact ⟨a1, [], s0_0, [], rfl, H, ⟨Nat.le_refl _⟩, ⟨Kd.R_nil _ _ _ _ _⟩, ⟨RowsAt.nil _⟩, HI0, HB0, ⟨KeepO.refl _ _ _⟩⟩
  case round =>
    clear H HI0 HB0
    obtain ⟨i, out, sk, L, rfl, H, HQ, HR, HL, HI, HB, HK⟩ := hrel
    have h := H.out
    cases gk with
    | zero => simp [region_Scan.l0] at h
    | succ k3 =>
    simp only [region_Scan.l0] at h
    obtain ⟨⟨b, ok, s9⟩, hone, h⟩ := Option.bind_eq_some_iff.mp h
    have HO := Aside0.mk hone
    clear H hone
    cases ok with
    | false =>
      rw [if_neg (by simp)] at h
      simp only [Option.some.injEq, Prod.mk.injEq] at h
      obtain ⟨rfl, rfl, rfl⟩ := h
      go_wp2_with fail
      refine (region_one.calls k3 g sk i a2 a3 b false s9 w0 wr HI.out HB.out HO.out).mono ?_
      rintro e w5 ⟨Ar, cr, rfl, hcr, hLr, hi5, hb5, hk5⟩
      have HI5 := Aside0.mk hi5
      have HB5 := Aside0.mk hb5
      have HK5 := Aside0.mk (HK.out.trans hk5)
      have HL5 := Aside0.mk (HL.out.keepO hk5 (by decide))
      have HR5 := Aside0.mk (R_keep HR.out hk5 (by decide))
      clear hi5 hb5 hk5 hcr hLr HI HB HK HL HR
      go_wp2
      go_ret2
      exact ⟨_, _, rfl, HR5.out, HL5.out, HI5.out, HB5.out, HK5.out⟩
    | true =>
      rw [if_pos (by rfl)] at h
      by_cases hmax : out.length < 5864062014805
      rotate_left
      · rw [if_neg hmax] at h
        cases h
      rw [if_pos hmax] at h
      obtain ⟨sz, hsz, h⟩ := Option.bind_eq_some_iff.mp h
      have HS := Aside0.mk hsz
      have H := Aside0.mk h
      have HMX := Aside0.mk (show L.length < 5864062014805 by rw [HL.out.1]; exact hmax)
      clear hmax hsz h
      go_wp2_with fail
      refine (region_one.calls k3 g sk i a2 a3 b true s9 w0 wr HI.out HB.out HO.out).mono ?_
      rintro e w5 ⟨Ar, cr, rfl, hcr, hLr, hi5, hb5, hk5⟩
      have HI5 := Aside0.mk hi5
      have HB5 := Aside0.mk hb5
      have HK5 := Aside0.mk (HK.out.trans hk5)
      have HL5 := Aside0.mk ((HL.out.keepO hk5 (by decide)).snoc hcr hLr)
      have HR5 := Aside0.mk (R_keep HR.out hk5 (by decide))
      clear hi5 hb5 hk5 hcr hLr HI HB HK HL HR
      go_wp2_with ((with_reducible refine gate_builtin (b := .append) (xs := #[.tmp 25, .tmp 27]) rfl ?_); at_builtin; refine Kd.R_append (Kd.scalar sliceV sliceV_one) (w0 := w5) (W := w5) w.heap.size rfl (.tmp 25) (.tmp 27) 45 22 (.slice none 0 0) 24 rfl Try.underlying45 (show (Try.prog.info? 22).map (fun i => (i.zero, i.size, i.bytes)) = some (some (.slice none 0 0), 1, 24) from by kernel_rfl) rfl (by decide) (by omega) u10 L (Ar, b.length, cr) [.slice Ar b.length cr] (fun _ => True) (fun _ => False) rfl (by first | rfl | (simp [Act.eval]; done)) ?aP (fun _ hk => hk.elim) (fun _ _ => trivial) HR5.out (Below.refl _ _) HK5.out.size (by have := HMX.out; omega) ?_; (case aP => exact rfl); intro v7 w7 ho hb hg hat; have HR7 := Aside0.mk ho; have HI7 := Aside0.mk (HI5.out.grown hg (NPr.typed (Kd.R_typed HR5.out) (by decide))); have HB7 := Aside0.mk (below_weaken HB5.out (Nat.le_trans HGE.out (Nat.le_refl _)) hb); have HK7 := Aside0.mk (HK5.out.trans3 hg (Kd.R_base2 HR5.out)); have HL7 := Aside0.mk (RowsAt.keep HL5.out (fun g cur hc => (hg.block g (blk_lt hc) (Kd.R_ne HR5.out hc (by decide))).trans hc)); clear ho hb hg hat HR5 HI5 HB5 HK5 HL5)
      refine (region_Size.calls (b.length : Int) sz _ HS.out).mono ?_
      rintro e w8 ⟨rfl, hb8⟩
      have HI8 := Aside0.mk (HI7.out.below hb8)
      have HB8 := Aside0.mk (below_weaken HB7.out HB7.out.size hb8)
      have HK8 := Aside0.mk (HK7.out.below_trans hb8)
      have HL8 := Aside0.mk (HL7.out.below hb8)
      have HR8 := Aside0.mk (Kd.R_below HR7.out hb8)
      clear hb8 HI7 HB7 HK7 HL7 HR7
      go_wp2
      go_roundg k3
      case measure => have := HQ.out; omega
      case rel => exact ⟨wrap64 (i + sz), out ++ [b], s9, _, by go_num, H, ⟨by have := HQ.out; omega⟩, HR8, HL8, HI8, HB8, HK8⟩


/-! ### wal_super: function 69 -/
def wal_super.f (k : Nat) (a0 : Int) : Option (List Int) := (region_Put.f ([] : List Int) ((a0) % 4294967296)).bind fun t142 => ((sum_Of.f k t142).bind fun t145 => ((region_Put.f t142 t145).bind fun t146 => (some t146)))
theorem wal_super.mono : ∀ a0 k, LeO (wal_super.f k a0) (wal_super.f (k + 1) a0) := by
  intro a0 k
  unfold wal_super.f
  repeat' first
      | (with_reducible exact sum_Of.mono _ _)
      | (with_reducible exact LeO.refl _)
      | (with_reducible exact LeO.none _)
      | (with_reducible refine LeO.ite ?_ ?_)
      | (with_reducible refine LeO.bind ?_ (fun _ => ?_))
      | exact sum_Of.mono _ _
      | exact LeO.none _
      | refine LeO.ite ?_ ?_
      | refine LeO.bind ?_ (fun _ => ?_)
set_option maxHeartbeats 8000000 in
set_option maxRecDepth 100000 in
theorem wal_super.calls (k : Nat) (a0 : Int) (r : List Int) (w : World) (h : wal_super.f k a0 = some r) :
    Calls Try.prog 69 #[.int .i64 a0] w fun e w' => ∃ v0_ : Value, e = .returned (v0_) ∧ Kd.R (Kd.int .u8) 5 w' w.heap.size (fun _ => True) v0_ r ∧ Below w.heap.size w w' := by
  have HB := Aside0.mk (Below.refl w.heap.size w)
  have H : ((region_Put.f ([] : List Int) ((a0) % 4294967296)).bind fun t142 => ((sum_Of.f k t142).bind fun t145 => ((region_Put.f t142 t145).bind fun t146 => (some t146)))) = some r := h
  clear h
  replace H := Option.bind_eq_some_iff.mp H
  obtain ⟨t142, A20, H⟩ := H
  replace H : ((sum_Of.f k t142).bind fun t145 => ((region_Put.f t142 t145).bind fun t146 => (some t146))) = some r := H
  have A2 := Aside0.mk A20
  clear A20
  replace H := Option.bind_eq_some_iff.mp H
  obtain ⟨t145, A30, H⟩ := H
  replace H : ((region_Put.f t142 t145).bind fun t146 => (some t146)) = some r := H
  have A3 := Aside0.mk A30
  clear A30
  replace H := Option.bind_eq_some_iff.mp H
  obtain ⟨t146, A40, H⟩ := H
  replace H : (some t146) = some r := H
  have A4 := Aside0.mk A40
  clear A40
  obtain rfl := Option.some.inj H
  go_enter Try.func69, Try.ntmps69
  go_wp2_with (first | ((with_reducible refine gate_callee (f := 65) rfl ?_); refine goesL_ (some 6) rfl rfl Try.func65 (by kernel_rfl) rfl #[.slice none 0 0, .int .u32 ((a0) % 4294967296)] rfl (by (try simp only [List.map_toArray, List.map_cons, List.map_nil]); first | done | rfl | (simp only [List.length_drop, List.length_take]; rfl)) ?_; (refine (region_Put.calls (fun k_ => some k_ = (.slice none 0 0 : Value).ownBlock) (.slice none 0 0) ([] : List Int) ((a0) % 4294967296) t142 w _ ?side1 ?side2 A2.out).mono ?_); (case side1 => repeat (first | (with_reducible first | exact HB.out | apply below_alloc | apply pw_below_drewN | apply below_drew1) | exact HB.out)); (case side2 => exact Kd.R_nil _ _ _ _ _); rintro e w5 ⟨v143, rfl, ho0, hb, hkp⟩; refine ⟨_, rfl, ?_⟩; have n0_ := Aside0.mk (Kd.R_mono (ok' := fun k_ => True) ho0 (fun k_ hk_ => trivial)); have n1_ := Aside0.mk (hb); clear HB; have HO144 := n0_; have HB := n1_; clear n0_ n1_; (try clear hb); (try clear hkp); (try clear ho0); obtain ⟨Ao6, co6, eo6⟩ := Kd.R_slice HO144.out; subst eo6) | ((with_reducible refine gate_callee (f := 66) rfl ?_); refine goesL_ (some 9) rfl rfl Try.func66 (by kernel_rfl) rfl #[.slice Ao6 t142.length co6] rfl (by (try simp only [List.map_toArray, List.map_cons, List.map_nil]); first | done | rfl | (simp only [List.length_drop, List.length_take]; rfl)) ?_; (with_reducible refine (sum_Of.calls k _ _ t142 t145 _ ?side1 ?side2 A3.out).mono ?_); (case side1 => repeat (first | exact (Kd.R_reads' HO144.out).2.2 | (with_reducible refine Kd.C_alloc ?_ _) | (with_reducible refine Kd.C_drewN ?_ _) | (with_reducible refine Kd.C_drew ?_))); (case side2 => exact (Kd.R_reads' HO144.out).2.1); rintro e w' ⟨rfl, ⟨nd, rfl⟩⟩; refine ⟨_, rfl, ?_⟩) | ((with_reducible refine gate_callee (f := 65) rfl ?_); refine goesL_ (some 10) rfl rfl Try.func65 (by kernel_rfl) rfl #[.slice Ao6 t142.length co6, .int .u32 t145] rfl (by (try simp only [List.map_toArray, List.map_cons, List.map_nil]); first | done | rfl | (simp only [List.length_drop, List.length_take]; rfl)) ?_; (with_reducible refine (region_Put.calls (fun k_ => some k_ = (.slice Ao6 t142.length co6 : Value).ownBlock) (.slice Ao6 t142.length co6) t142 t145 t146 w _ ?side1 ?side2 A4.out).mono ?_); (case side1 => repeat (first | (with_reducible first | exact HB.out | apply below_alloc | apply pw_below_drewN | apply below_drew1) | exact HB.out)); (case side2 => exact Kd.R_tight rfl HO144.out); rintro e w7 ⟨v147, rfl, ho0, hb, hkp⟩; refine ⟨_, rfl, ?_⟩; have n0_ := Aside0.mk (Kd.R_mono (ok' := fun k_ => True) ho0 (fun k_ hk_ => trivial)); have n1_ := Aside0.mk (hb); clear HB; clear HO144; have HO148 := n0_; have HB := n1_; clear n0_ n1_; (try clear hb); (try clear hkp); (try clear ho0)))
  go_ret
  exact ⟨_, by first | rfl | (simp [errW_none, errW_some] <;> rfl) | (simp [*, errW_none, errW_some] <;> rfl), by (with_reducible repeat (first | apply Kd.R_alloc | apply Kd.R_drewN | apply Kd.R_drew)); exact HO148.out, by repeat (first | (with_reducible first | exact HB.out | apply below_alloc | apply pw_below_drewN | apply below_drew1) | exact HB.out)⟩

/-! ### wal_plain: function 70 -/
def wal_plain.l0 : Nat → List Int → Int → Int → Option (Bool)
  | 0, _, _, _ => none
  | k + 1, x5, x6, x7 => if x7 < x6 then (if 0 ≤ x7 then (if x7 < (x5.length : Int) then (if (rd x5 x7) = 0 then (wal_plain.l0 k x5 x6 (wrap64 (x7 + 1))) else (some false)) else (none)) else (none)) else (some true)
def wal_plain.f (k : Nat) (l0 : List Int) : Option (Bool) := wal_plain.l0 k l0 (l0.length : Int) 0
theorem wal_plain.mono_l : ∀ k, (∀ y0 y1 y2, LeO (wal_plain.l0 k y0 y1 y2) (wal_plain.l0 (k + 1) y0 y1 y2))
  | 0 => fun _ _ _ r h => by simp [wal_plain.l0] at h
  | k + 1 => by
    have ih0 := wal_plain.mono_l k
    · intro y0 y1 y2
      unfold wal_plain.l0
      repeat' first
      | (with_reducible exact ih0 _ _ _)
      | (with_reducible exact LeO.refl _)
      | (with_reducible exact LeO.none _)
      | (with_reducible refine LeO.ite ?_ ?_)
      | (with_reducible refine LeO.bind ?_ (fun _ => ?_))
      | exact ih0 _ _ _
      | exact LeO.none _
      | refine LeO.ite ?_ ?_
      | refine LeO.bind ?_ (fun _ => ?_)
theorem wal_plain.mono : ∀ a0 k, LeO (wal_plain.f k a0) (wal_plain.f (k + 1) a0) := by
  intro a0 k
  have ih0 := wal_plain.mono_l k
  unfold wal_plain.f
  repeat' first
      | (with_reducible exact ih0 _ _ _)
      | (with_reducible exact LeO.refl _)
      | (with_reducible exact LeO.none _)
      | (with_reducible refine LeO.ite ?_ ?_)
      | (with_reducible refine LeO.bind ?_ (fun _ => ?_))
      | exact ih0 _ _ _
      | exact LeO.none _
      | refine LeO.ite ?_ ?_
      | refine LeO.bind ?_ (fun _ => ?_)
set_option maxHeartbeats 8000000 in
set_option maxRecDepth 100000 in
theorem wal_plain.calls (k : Nat) (A0 : Option Addr) (c0 : Nat) (l0 : List Int) (r : Bool) (w : World) (hr0 : Kd.C (Kd.int .u8) w A0 l0.length l0) (hc0 : l0.length ≤ c0) (h : wal_plain.f k l0 = some r) :
    Calls Try.prog 70 #[.slice A0 l0.length c0] w fun e w' => e = .returned (.bool r) ∧ Drawn0 w w' := by
  have HR0 := Aside0.mk hr0
  have HC0 := Aside0.mk hc0
  clear hr0 hc0
  have H : (wal_plain.l0 k l0 (l0.length : Int) 0) = some r := h
  clear h
  have H' := Aside0.mk H
  clear H
  go_enter Try.func70, Try.ntmps70
  go_wp2
  go_loopg [7] k (fun kq v7 w' => ∃ (x7_1 : Int), v7 = .int .i64 x7_1 ∧ Aside0 (wal_plain.l0 kq l0 (l0.length : Int) x7_1 = some r) ∧ Aside0 (kq ≤ k) ∧ Drawn0 w w')
  case atStart => exact ⟨(0), (by first | rfl | (simp; done) | (simp [*]; done)), H', ⟨Nat.le_refl _⟩, by repeat (first | exact Drawn0.refl _ | apply Drawn0.step)⟩
  case round =>
    clear H'
    obtain ⟨x7_1, rfl, HA, HK1, ⟨m1, rfl⟩⟩ := hrel
    cases gk with
    | zero => exact absurd HA.out (by simp [wal_plain.l0])
    | succ k1 =>
      have H := HA.out
      clear HA
      simp only [wal_plain.l0] at H
      by_cases c2 : x7_1 < (l0.length : Int)
      · rw [if_pos c2] at H
        have c2b0 : decide (x7_1 < (l0.length : Int)) = true := decide_eq_true c2
        clear c2
        by_cases c3 : 0 ≤ x7_1
        · rw [if_pos c3] at H
          have c3b0 : decide (0 ≤ x7_1) = true := decide_eq_true c3
          clear c3
          by_cases c4 : x7_1 < (l0.length : Int)
          · rw [if_pos c4] at H
            have c4b0 : decide (x7_1 < (l0.length : Int)) = true := decide_eq_true c4
            clear c4
            by_cases c5 : (rd l0 x7_1) = 0
            · rw [if_pos c5] at H
              have c5b0 : ((rd l0 x7_1) == 0) = true := beq_iff_eq.mpr c5
              have c5b1 : ((rd l0 x7_1) != 0) = false := bne_eq_false_iff_eq.mpr c5
              clear c5
              have H' := Aside0.mk H
              clear H
              have p149 : 0 ≤ (x7_1 : Int) := of_decide_eq_true (by first | (with_reducible assumption) | assumption)
              have q149 : x7_1 < (l0.length : Int) := of_decide_eq_true (by first | (with_reducible assumption) | assumption)
              obtain ⟨ad149, e149, hx149_0⟩ := Kd.at_int HR0.out x7_1 p149 q149
              cases e149
              replace p149 := eq_true p149
              replace q149 := eq_true q149
              go_wp2
              go_roundg k1
              case measure => have := HK1.out; omega
              case rel => exact ⟨(wrap64 (x7_1 + 1)), (by first | rfl | (simp; done) | (simp [*]; done)), H', ⟨by have := HK1.out; omega⟩, by repeat (first | exact Drawn0.refl _ | apply Drawn0.step)⟩
            · rw [if_neg c5] at H
              have c5b0 : ((rd l0 x7_1) == 0) = false := beq_eq_false_iff_ne.mpr c5
              have c5b1 : ((rd l0 x7_1) != 0) = true := bne_iff_ne.mpr c5
              obtain rfl := Option.some.inj H
              have p149 : 0 ≤ (x7_1 : Int) := of_decide_eq_true (by first | (with_reducible assumption) | assumption)
              have q149 : x7_1 < (l0.length : Int) := of_decide_eq_true (by first | (with_reducible assumption) | assumption)
              obtain ⟨ad149, e149, hx149_0⟩ := Kd.at_int HR0.out x7_1 p149 q149
              cases e149
              replace p149 := eq_true p149
              replace q149 := eq_true q149
              go_wp2
              go_ret
              exact ⟨by first | rfl | (simp; done) | (simp [*]; done), by repeat (first | exact Drawn0.refl _ | apply Drawn0.step)⟩
          · rw [if_neg c4] at H
            exact absurd H (by simp)
        · rw [if_neg c3] at H
          exact absurd H (by simp)
      · rw [if_neg c2] at H
        have c2b0 : decide (x7_1 < (l0.length : Int)) = false := decide_eq_false c2
        clear c2
        obtain rfl := Option.some.inj H
        go_wp2
        go_ret
        exact ⟨by first | rfl | (simp; done) | (simp [*]; done), by repeat (first | exact Drawn0.refl _ | apply Drawn0.step)⟩

/-! ### wal_newestGen: function 56 -/
-- FN rounds=1 making=1
-- IMPORT Derived.Test.YtpojfebecmjloaaMid
-- IMPORT Derived.Deep.QuietTactic
-- IMPORT Derived.BigQuiet
mutual
def wal_newestGen.l0 : Nat → Int → Int → Disk.DiskM → Option (Int × Disk.DiskM)
  | 0, _, _, _ => none
  | k + 1, x3, x9, x1000 => if x9 < 2 then ((sector_Disk_Read.f x1000 x9).bind fun bt145 => ((region_Get.f bt145.1).bind fun t150 => (if (wrap64 (t150)) < 1 then (wal_newestGen.j1 k x3 bt145.1 (wrap64 (t150)) x9 true bt145.2.2) else (if (wrap64 (t150)) > 2147483647 then (wal_newestGen.j1 k x3 bt145.1 (wrap64 (t150)) x9 true bt145.2.2) else (wal_newestGen.j1 k x3 bt145.1 (wrap64 (t150)) x9 ((Int.tmod (wrap64 (t150)) 2) != x9) bt145.2.2))))) else (some (x3, x1000))
def wal_newestGen.j1 : Nat → Int → List Int → Int → Int → Bool → Disk.DiskM → Option (Int × Disk.DiskM)
  | 0, _, _, _, _, _, _ => none
  | k + 1, x3, x5, x7, x9, x32, x1000 => if x32 = true then (wal_newestGen.l0 k x3 (wrap64 (x9 + 1)) x1000) else ((wal_super.f k x7).bind fun t151 => (if 0 ≤ (t151.length : Int) then (if (t151.length : Int) ≤ (x5.length : Int) then (if (strOfNums t151).toList = (strOfNums (x5.take ((t151.length : Int) : Int).toNat)).toList then ((wal_plain.f k (x5.drop ((t151.length : Int) : Int).toNat)).bind fun t162 => (if t162 = true then (wal_newestGen.l0 k (mx x3 x7) (wrap64 (x9 + 1)) x1000) else (wal_newestGen.l0 k x3 (wrap64 (x9 + 1)) x1000))) else (wal_newestGen.l0 k x3 (wrap64 (x9 + 1)) x1000)) else (none)) else (none)))
end
def wal_newestGen.f (k : Nat) (s0_0 : Disk.DiskM) : Option (Int × Disk.DiskM) := wal_newestGen.l0 k 0 0 s0_0
theorem wal_newestGen.mono_l : ∀ k, (∀ y0 y1 y2, LeO (wal_newestGen.l0 k y0 y1 y2) (wal_newestGen.l0 (k + 1) y0 y1 y2)) ∧ (∀ y0 y1 y2 y3 y4 y5, LeO (wal_newestGen.j1 k y0 y1 y2 y3 y4 y5) (wal_newestGen.j1 (k + 1) y0 y1 y2 y3 y4 y5))
  | 0 => ⟨fun _ _ _ r h => by simp [wal_newestGen.l0] at h, fun _ _ _ _ _ _ r h => by simp [wal_newestGen.j1] at h⟩
  | k + 1 => by
    obtain ⟨ih0, ih1⟩ := wal_newestGen.mono_l k
    refine ⟨?_, ?_⟩
    · intro y0 y1 y2
      unfold wal_newestGen.l0
      repeat' first
      | (with_reducible exact ih0 _ _ _)
      | (with_reducible exact ih1 _ _ _ _ _ _)
      | (with_reducible exact wal_plain.mono _ _)
      | (with_reducible exact wal_super.mono _ _)
      | (with_reducible exact LeO.refl _)
      | (with_reducible exact LeO.none _)
      | (with_reducible refine LeO.ite ?_ ?_)
      | (with_reducible refine LeO.bind ?_ (fun _ => ?_))
      | exact ih0 _ _ _
      | exact ih1 _ _ _ _ _ _
      | exact wal_plain.mono _ _
      | exact wal_super.mono _ _
      | exact LeO.none _
      | refine LeO.ite ?_ ?_
      | refine LeO.bind ?_ (fun _ => ?_)
    · intro y0 y1 y2 y3 y4 y5
      unfold wal_newestGen.j1
      repeat' first
      | (with_reducible exact ih0 _ _ _)
      | (with_reducible exact ih1 _ _ _ _ _ _)
      | (with_reducible exact wal_plain.mono _ _)
      | (with_reducible exact wal_super.mono _ _)
      | (with_reducible exact LeO.refl _)
      | (with_reducible exact LeO.none _)
      | (with_reducible refine LeO.ite ?_ ?_)
      | (with_reducible refine LeO.bind ?_ (fun _ => ?_))
      | exact ih0 _ _ _
      | exact ih1 _ _ _ _ _ _
      | exact wal_plain.mono _ _
      | exact wal_super.mono _ _
      | exact LeO.none _
      | refine LeO.ite ?_ ?_
      | refine LeO.bind ?_ (fun _ => ?_)
theorem wal_newestGen.mono : ∀ a0 k, LeO (wal_newestGen.f k a0) (wal_newestGen.f (k + 1) a0) := by
  intro a0 k
  obtain ⟨ih0, ih1⟩ := wal_newestGen.mono_l k
  unfold wal_newestGen.f
  repeat' first
      | (with_reducible exact ih0 _ _ _)
      | (with_reducible exact ih1 _ _ _ _ _ _)
      | (with_reducible exact wal_plain.mono _ _)
      | (with_reducible exact wal_super.mono _ _)
      | (with_reducible exact LeO.refl _)
      | (with_reducible exact LeO.none _)
      | (with_reducible refine LeO.ite ?_ ?_)
      | (with_reducible refine LeO.bind ?_ (fun _ => ?_))
      | exact ih0 _ _ _
      | exact ih1 _ _ _ _ _ _
      | exact wal_plain.mono _ _
      | exact wal_super.mono _ _
      | exact LeO.none _
      | refine LeO.ite ?_ ?_
      | refine LeO.bind ?_ (fun _ => ?_)
set_option maxHeartbeats 8000000 in
set_option maxRecDepth 100000 in
theorem wal_newestGen.calls (k : Nat) (g : Nat) (s0_0 : Disk.DiskM) (r1 : Int) (r2 : Disk.DiskM) (w0 w : World) (hI : IsS71 w0 w g s0_0) (hB : Below w0.heap.size w0 w) (h : wal_newestGen.f k s0_0 = some (r1, r2)) :
    Calls Try.prog 56 #[.pointer (some ⟨g, 0, none⟩)] w fun e w' => e = .returned (.int .i64 r1) ∧ IsS71 w0 w' g r2 ∧ Below w0.heap.size w0 w' ∧ Go.Proofs.Ytpojfebecmjloaa.Opq.KeepO ts71 w0.heap.size w w' := by
  have HI0 := Aside0.mk hI
  have HK := Aside0.mk (Go.Proofs.Ytpojfebecmjloaa.Opq.KeepO.refl ts71 w0.heap.size w)
  have HL := Aside0.mk hB.size
  clear hI
  have HW0 := Aside0.mk hB.size
  have HB := Aside0.mk hB
  clear hB
  have H : (wal_newestGen.l0 k 0 0 s0_0) = some (r1, r2) := h
  clear h
  have H' := Aside0.mk H
  clear H
  go_enter Try.func56, Try.ntmps56
  go_wp2
  repeat (go_quiet (fail); try go_wp2)
  go_loopg [3, 9] k (fun kq v3 v9 w' => ∃ (x3_1 : Int) (x9_1 : Int) (x1000_1 : Disk.DiskM), v3 = .int .i64 x3_1 ∧ v9 = .int .i64 x9_1 ∧ Aside0 (wal_newestGen.l0 kq x3_1 x9_1 x1000_1 = some (r1, r2)) ∧ Aside0 (kq ≤ k) ∧ Aside0 (IsS71 w0 w' g x1000_1) ∧ Aside0 (Go.Proofs.Ytpojfebecmjloaa.Opq.KeepO ts71 w0.heap.size w w') ∧ Aside0 (Below w0.heap.size w0 w'))
  case atStart => exact ⟨(0), (0), (s0_0), (by first | rfl | (simp; done) | (simp [*]; done)), (by first | rfl | (simp; done) | (simp [*]; done)), H', ⟨Nat.le_refl _⟩, ⟨by repeat (first | (with_reducible first | exact HI0.out | apply IsS71.alloc | apply IsS71.drewN | apply IsS71.drew) | exact HI0.out)⟩, ⟨by repeat (first | (with_reducible first | exact HK.out | apply Go.Proofs.Ytpojfebecmjloaa.Opq.KeepO.drewN | apply Go.Proofs.Ytpojfebecmjloaa.Opq.KeepO.drew | apply Go.Proofs.Ytpojfebecmjloaa.Opq.KeepO.alloc) | exact HK.out)⟩, ⟨by repeat (first | (with_reducible first | exact HB.out | apply below_alloc | apply pw_below_drewN | apply below_drew1 | refine below_set ?_ (IsS71.ge HI0.out)) | exact HB.out)⟩⟩
  case round =>
    clear H'
    obtain ⟨x3_1, x9_1, x1000_1, rfl, rfl, HA, HK1, HI0, HK, HB⟩ := hrel
    cases gk with
    | zero => exact absurd HA.out (by simp [wal_newestGen.l0])
    | succ k1 =>
      have H := HA.out
      clear HA
      simp only [wal_newestGen.l0] at H
      by_cases c2 : x9_1 < 2
      · rw [if_pos c2] at H
        have c2b0 : decide (x9_1 < 2) = true := decide_eq_true c2
        clear c2
        replace H := Option.bind_eq_some_iff.mp H
        obtain ⟨⟨t145, t148, t149⟩, A30, H⟩ := H
        replace H : ((region_Get.f t145).bind fun t150 => (if (wrap64 (t150)) < 1 then (wal_newestGen.j1 k1 x3_1 t145 (wrap64 (t150)) x9_1 true t149) else (if (wrap64 (t150)) > 2147483647 then (wal_newestGen.j1 k1 x3_1 t145 (wrap64 (t150)) x9_1 true t149) else (wal_newestGen.j1 k1 x3_1 t145 (wrap64 (t150)) x9_1 ((Int.tmod (wrap64 (t150)) 2) != x9_1) t149)))) = some (r1, r2) := H
        have A3 := Aside0.mk A30
        clear A30
        replace H := Option.bind_eq_some_iff.mp H
        obtain ⟨t150, A40, H⟩ := H
        replace H : (if (wrap64 (t150)) < 1 then (wal_newestGen.j1 k1 x3_1 t145 (wrap64 (t150)) x9_1 true t149) else (if (wrap64 (t150)) > 2147483647 then (wal_newestGen.j1 k1 x3_1 t145 (wrap64 (t150)) x9_1 true t149) else (wal_newestGen.j1 k1 x3_1 t145 (wrap64 (t150)) x9_1 ((Int.tmod (wrap64 (t150)) 2) != x9_1) t149))) = some (r1, r2) := H
        have A4 := Aside0.mk A40
        clear A40
        have HC5 := Aside0.mk H
        clear H
        go_upto_region 7 with (first | (go_at_call 16; (with_reducible refine (sector_Disk_Read.calls g x1000_1 x9_1 t145 t148 t149 w0 _ ?side1 ?side2 A3.out).mono ?_); (case side1 => repeat (first | (with_reducible first | exact HI0.out | apply IsS71.alloc | apply IsS71.drewN | apply IsS71.drew) | exact HI0.out)); (case side2 => repeat (first | (with_reducible first | exact HB.out | apply below_alloc | apply pw_below_drewN | apply below_drew1 | refine below_set ?_ (IsS71.ge HI0.out)) | exact HB.out)); rintro e w6 ⟨v146, rfl, ho0, hi, hb, hk⟩; have n0_ := Aside0.mk (Kd.R_lower ho0 (Go.Proofs.Ytpojfebecmjloaa.Opq.KeepO.size (by repeat (first | (with_reducible first | exact HK.out | apply Go.Proofs.Ytpojfebecmjloaa.Opq.KeepO.drewN | apply Go.Proofs.Ytpojfebecmjloaa.Opq.KeepO.drew | apply Go.Proofs.Ytpojfebecmjloaa.Opq.KeepO.alloc) | exact HK.out)))); have n1_ := Aside0.mk (Go.Proofs.Ytpojfebecmjloaa.Opq.KeepO.trans (by repeat (first | (with_reducible first | exact HK.out | apply Go.Proofs.Ytpojfebecmjloaa.Opq.KeepO.drewN | apply Go.Proofs.Ytpojfebecmjloaa.Opq.KeepO.drew | apply Go.Proofs.Ytpojfebecmjloaa.Opq.KeepO.alloc) | exact HK.out)) hk); have n2_ := Aside0.mk (hb); have n3_ := Aside0.mk (hi); clear HK; clear HB; clear HI0; have HO147 := n0_; have HK := n1_; have HB := n2_; have HI0 := n3_; clear n0_ n1_ n2_ n3_; (try clear hb); (try clear hb2); (try clear hk); (try clear hi); (try clear ho0); obtain ⟨Ao7, co7, eo7⟩ := Kd.R_slice HO147.out; subst eo7) | (go_at_call 67; (with_reducible refine (region_Get.calls _ _ t145 t150 _ ?side1 ?side2 A4.out).mono ?_); (case side1 => repeat (first | exact (Kd.R_reads' HO147.out).2.2 | (with_reducible refine Kd.C_alloc ?_ _) | (with_reducible refine Kd.C_drewN ?_ _) | (with_reducible refine Kd.C_drew ?_))); (case side2 => exact (Kd.R_reads' HO147.out).2.1); rintro e w' ⟨rfl, ⟨nd, rfl⟩⟩; (try first | exact ⟨rfl, _, World.drewN_drewN _ _ _⟩ | exact ⟨rfl, _, Eq.trans (World.drewN_drewN _ _ _) (congrArg (World.drewN _) (Nat.add_assoc _ _ _))⟩)))
        repeat (go_quiet (first | (go_at_call 16; (with_reducible refine (sector_Disk_Read.calls g x1000_1 x9_1 t145 t148 t149 w0 _ ?side1 ?side2 A3.out).mono ?_); (case side1 => repeat (first | (with_reducible first | exact HI0.out | apply IsS71.alloc | apply IsS71.drewN | apply IsS71.drew) | exact HI0.out)); (case side2 => repeat (first | (with_reducible first | exact HB.out | apply below_alloc | apply pw_below_drewN | apply below_drew1 | refine below_set ?_ (IsS71.ge HI0.out)) | exact HB.out)); rintro e w6 ⟨v146, rfl, ho0, hi, hb, hk⟩; have n0_ := Aside0.mk (Kd.R_lower ho0 (Go.Proofs.Ytpojfebecmjloaa.Opq.KeepO.size (by repeat (first | (with_reducible first | exact HK.out | apply Go.Proofs.Ytpojfebecmjloaa.Opq.KeepO.drewN | apply Go.Proofs.Ytpojfebecmjloaa.Opq.KeepO.drew | apply Go.Proofs.Ytpojfebecmjloaa.Opq.KeepO.alloc) | exact HK.out)))); have n1_ := Aside0.mk (Go.Proofs.Ytpojfebecmjloaa.Opq.KeepO.trans (by repeat (first | (with_reducible first | exact HK.out | apply Go.Proofs.Ytpojfebecmjloaa.Opq.KeepO.drewN | apply Go.Proofs.Ytpojfebecmjloaa.Opq.KeepO.drew | apply Go.Proofs.Ytpojfebecmjloaa.Opq.KeepO.alloc) | exact HK.out)) hk); have n2_ := Aside0.mk (hb); have n3_ := Aside0.mk (hi); clear HK; clear HB; clear HI0; have HO147 := n0_; have HK := n1_; have HB := n2_; have HI0 := n3_; clear n0_ n1_ n2_ n3_; (try clear hb); (try clear hb2); (try clear hk); (try clear hi); (try clear ho0); obtain ⟨Ao7, co7, eo7⟩ := Kd.R_slice HO147.out; subst eo7) | (go_at_call 67; (with_reducible refine (region_Get.calls _ _ t145 t150 _ ?side1 ?side2 A4.out).mono ?_); (case side1 => repeat (first | exact (Kd.R_reads' HO147.out).2.2 | (with_reducible refine Kd.C_alloc ?_ _) | (with_reducible refine Kd.C_drewN ?_ _) | (with_reducible refine Kd.C_drew ?_))); (case side2 => exact (Kd.R_reads' HO147.out).2.1); rintro e w' ⟨rfl, ⟨nd, rfl⟩⟩; (try first | exact ⟨rfl, _, World.drewN_drewN _ _ _⟩ | exact ⟨rfl, _, Eq.trans (World.drewN_drewN _ _ _) (congrArg (World.drewN _) (Nat.add_assoc _ _ _))⟩))); go_upto_region 7 with (first | (go_at_call 16; (with_reducible refine (sector_Disk_Read.calls g x1000_1 x9_1 t145 t148 t149 w0 _ ?side1 ?side2 A3.out).mono ?_); (case side1 => repeat (first | (with_reducible first | exact HI0.out | apply IsS71.alloc | apply IsS71.drewN | apply IsS71.drew) | exact HI0.out)); (case side2 => repeat (first | (with_reducible first | exact HB.out | apply below_alloc | apply pw_below_drewN | apply below_drew1 | refine below_set ?_ (IsS71.ge HI0.out)) | exact HB.out)); rintro e w6 ⟨v146, rfl, ho0, hi, hb, hk⟩; have n0_ := Aside0.mk (Kd.R_lower ho0 (Go.Proofs.Ytpojfebecmjloaa.Opq.KeepO.size (by repeat (first | (with_reducible first | exact HK.out | apply Go.Proofs.Ytpojfebecmjloaa.Opq.KeepO.drewN | apply Go.Proofs.Ytpojfebecmjloaa.Opq.KeepO.drew | apply Go.Proofs.Ytpojfebecmjloaa.Opq.KeepO.alloc) | exact HK.out)))); have n1_ := Aside0.mk (Go.Proofs.Ytpojfebecmjloaa.Opq.KeepO.trans (by repeat (first | (with_reducible first | exact HK.out | apply Go.Proofs.Ytpojfebecmjloaa.Opq.KeepO.drewN | apply Go.Proofs.Ytpojfebecmjloaa.Opq.KeepO.drew | apply Go.Proofs.Ytpojfebecmjloaa.Opq.KeepO.alloc) | exact HK.out)) hk); have n2_ := Aside0.mk (hb); have n3_ := Aside0.mk (hi); clear HK; clear HB; clear HI0; have HO147 := n0_; have HK := n1_; have HB := n2_; have HI0 := n3_; clear n0_ n1_ n2_ n3_; (try clear hb); (try clear hb2); (try clear hk); (try clear hi); (try clear ho0); obtain ⟨Ao7, co7, eo7⟩ := Kd.R_slice HO147.out; subst eo7) | (go_at_call 67; (with_reducible refine (region_Get.calls _ _ t145 t150 _ ?side1 ?side2 A4.out).mono ?_); (case side1 => repeat (first | exact (Kd.R_reads' HO147.out).2.2 | (with_reducible refine Kd.C_alloc ?_ _) | (with_reducible refine Kd.C_drewN ?_ _) | (with_reducible refine Kd.C_drew ?_))); (case side2 => exact (Kd.R_reads' HO147.out).2.1); rintro e w' ⟨rfl, ⟨nd, rfl⟩⟩; (try first | exact ⟨rfl, _, World.drewN_drewN _ _ _⟩ | exact ⟨rfl, _, Eq.trans (World.drewN_drewN _ _ _) (congrArg (World.drewN _) (Nat.add_assoc _ _ _))⟩))))
        (try simp only [Act.put, List.setIfInBounds_toArray, List.set_cons_zero, List.set_cons_succ])
        go_cut [32] (fun v32 wc => ∃ (kq : Nat) (x32_4 : Bool), v32 = .bool x32_4 ∧ Aside0 (wal_newestGen.j1 kq x3_1 t145 (wrap64 (t150)) x9_1 x32_4 t149 = some (r1, r2)) ∧ Aside0 (kq ≤ k1) ∧ Aside0 (Kd.R (Kd.int .u8) 5 wc w.heap.size (fun _ => True) (.slice Ao7 t145.length co7) t145) ∧ Aside0 (IsS71 w0 wc g t149) ∧ Aside0 (Go.Proofs.Ytpojfebecmjloaa.Opq.KeepO ts71 w0.heap.size w wc) ∧ Aside0 (Below w0.heap.size w0 wc))
        case first =>
          have H := HC5.out
          clear HC5
          by_cases c8 : (wrap64 (t150)) < 1
          · rw [if_pos c8] at H
            have c8b0 : decide ((wrap64 (t150)) < 1) = true := decide_eq_true c8
            clear c8
            (first | rw [c8b0] | (simp only [i64_w, i32_w]; rw [c8b0]) | skip)
            have H' := Aside0.mk H
            clear H
            go_wp2
            repeat (go_quiet (fail); try go_wp2)
            go_meet
            case rel => exact ⟨_, (true), (by first | rfl | (simp; done) | (simp [*]; done)), H', ⟨by have := HK1.out; first | omega | exact Nat.le_refl _⟩, ⟨by (with_reducible repeat (first | apply Kd.R_alloc | apply Kd.R_drewN | apply Kd.R_drew)); exact HO147.out⟩, ⟨by repeat (first | (with_reducible first | exact HI0.out | apply IsS71.alloc | apply IsS71.drewN | apply IsS71.drew) | exact HI0.out)⟩, ⟨by repeat (first | (with_reducible first | exact HK.out | apply Go.Proofs.Ytpojfebecmjloaa.Opq.KeepO.drewN | apply Go.Proofs.Ytpojfebecmjloaa.Opq.KeepO.drew | apply Go.Proofs.Ytpojfebecmjloaa.Opq.KeepO.alloc) | exact HK.out)⟩, ⟨by repeat (first | (with_reducible first | exact HB.out | apply below_alloc | apply pw_below_drewN | apply below_drew1 | refine below_set ?_ (IsS71.ge HI0.out)) | exact HB.out)⟩⟩
          · rw [if_neg c8] at H
            have c8b0 : decide ((wrap64 (t150)) < 1) = false := decide_eq_false c8
            clear c8
            (first | rw [c8b0] | (simp only [i64_w, i32_w]; rw [c8b0]) | skip)
            by_cases c9 : (wrap64 (t150)) > 2147483647
            · rw [if_pos c9] at H
              have c9b0 : decide (2147483647 < (wrap64 (t150))) = true := decide_eq_true c9
              clear c9
              have H' := Aside0.mk H
              clear H
              go_wp2
              repeat (go_quiet (fail); try go_wp2)
              go_meet
              case rel => exact ⟨_, (true), (by first | rfl | (simp; done) | (simp [*]; done)), H', ⟨by have := HK1.out; first | omega | exact Nat.le_refl _⟩, ⟨by (with_reducible repeat (first | apply Kd.R_alloc | apply Kd.R_drewN | apply Kd.R_drew)); exact HO147.out⟩, ⟨by repeat (first | (with_reducible first | exact HI0.out | apply IsS71.alloc | apply IsS71.drewN | apply IsS71.drew) | exact HI0.out)⟩, ⟨by repeat (first | (with_reducible first | exact HK.out | apply Go.Proofs.Ytpojfebecmjloaa.Opq.KeepO.drewN | apply Go.Proofs.Ytpojfebecmjloaa.Opq.KeepO.drew | apply Go.Proofs.Ytpojfebecmjloaa.Opq.KeepO.alloc) | exact HK.out)⟩, ⟨by repeat (first | (with_reducible first | exact HB.out | apply below_alloc | apply pw_below_drewN | apply below_drew1 | refine below_set ?_ (IsS71.ge HI0.out)) | exact HB.out)⟩⟩
            · rw [if_neg c9] at H
              have c9b0 : decide (2147483647 < (wrap64 (t150))) = false := decide_eq_false c9
              clear c9
              have H' := Aside0.mk H
              clear H
              go_wp2
              repeat (go_quiet (fail); try go_wp2)
              go_meet
              case rel => exact ⟨_, (((Int.tmod (wrap64 (t150)) 2) != x9_1)), (by first | rfl | (simp; done) | (simp [*]; done)), H', ⟨by have := HK1.out; first | omega | exact Nat.le_refl _⟩, ⟨by (with_reducible repeat (first | apply Kd.R_alloc | apply Kd.R_drewN | apply Kd.R_drew)); exact HO147.out⟩, ⟨by repeat (first | (with_reducible first | exact HI0.out | apply IsS71.alloc | apply IsS71.drewN | apply IsS71.drew) | exact HI0.out)⟩, ⟨by repeat (first | (with_reducible first | exact HK.out | apply Go.Proofs.Ytpojfebecmjloaa.Opq.KeepO.drewN | apply Go.Proofs.Ytpojfebecmjloaa.Opq.KeepO.drew | apply Go.Proofs.Ytpojfebecmjloaa.Opq.KeepO.alloc) | exact HK.out)⟩, ⟨by repeat (first | (with_reducible first | exact HB.out | apply below_alloc | apply pw_below_drewN | apply below_drew1 | refine below_set ?_ (IsS71.ge HI0.out)) | exact HB.out)⟩⟩
        case rest =>
          clear HC5
          try clear c2
          try clear c2b0
          try clear p2
          try clear c5
          try clear p6
          try clear c8
          try clear c8b0
          try clear c9
          try clear c9b0
          obtain ⟨kq, x32_4, rfl, HA, HJ4, HO_5, HI0, HK, HB⟩ := hcut
          cases kq with
          | zero => exact absurd HA.out (by simp [wal_newestGen.j1])
          | succ kj4 =>
            have H := HA.out
            clear HA
            simp only [wal_newestGen.j1] at H
            by_cases c10 : x32_4 = true
            · subst c10
              have H1 : (wal_newestGen.l0 kj4 x3_1 (wrap64 (x9_1 + 1)) t149) = some (r1, r2) := by rw [if_pos rfl] at H; exact H
              clear H
              have H := H1
              clear H1
              have H' := Aside0.mk H
              clear H
              go_wp2
              repeat (go_quiet (fail); try go_wp2)
              go_roundg kj4
              case measure => have := HK1.out; have := HJ4.out; omega
              case rel => exact ⟨(x3_1), (wrap64 (x9_1 + 1)), (t149), (by first | rfl | (simp; done) | (simp [*]; done)), (by first | rfl | (simp; done) | (simp [*]; done)), H', ⟨by have := HK1.out; have := HJ4.out; omega⟩, ⟨by repeat (first | (with_reducible first | exact HI0.out | apply IsS71.alloc | apply IsS71.drewN | apply IsS71.drew) | exact HI0.out)⟩, ⟨by repeat (first | (with_reducible first | exact HK.out | apply Go.Proofs.Ytpojfebecmjloaa.Opq.KeepO.drewN | apply Go.Proofs.Ytpojfebecmjloaa.Opq.KeepO.drew | apply Go.Proofs.Ytpojfebecmjloaa.Opq.KeepO.alloc) | exact HK.out)⟩, ⟨by repeat (first | (with_reducible first | exact HB.out | apply below_alloc | apply pw_below_drewN | apply below_drew1 | refine below_set ?_ (IsS71.ge HI0.out)) | exact HB.out)⟩⟩
            · replace c10 := Bool.eq_false_iff.mpr c10
              subst c10
              have H1 : ((wal_super.f kj4 (wrap64 (t150))).bind fun t151 => (if 0 ≤ (t151.length : Int) then (if (t151.length : Int) ≤ (t145.length : Int) then (if (strOfNums t151).toList = (strOfNums (t145.take ((t151.length : Int) : Int).toNat)).toList then ((wal_plain.f kj4 (t145.drop ((t151.length : Int) : Int).toNat)).bind fun t162 => (if t162 = true then (wal_newestGen.l0 kj4 (mx x3_1 (wrap64 (t150))) (wrap64 (x9_1 + 1)) t149) else (wal_newestGen.l0 kj4 x3_1 (wrap64 (x9_1 + 1)) t149))) else (wal_newestGen.l0 kj4 x3_1 (wrap64 (x9_1 + 1)) t149)) else (none)) else (none))) = some (r1, r2) := by rw [if_neg (show ¬ (false = true) by decide)] at H; exact H
              clear H
              have H := H1
              clear H1
              replace H := Option.bind_eq_some_iff.mp H
              obtain ⟨t151, A110, H⟩ := H
              replace H : (if 0 ≤ (t151.length : Int) then (if (t151.length : Int) ≤ (t145.length : Int) then (if (strOfNums t151).toList = (strOfNums (t145.take ((t151.length : Int) : Int).toNat)).toList then ((wal_plain.f kj4 (t145.drop ((t151.length : Int) : Int).toNat)).bind fun t162 => (if t162 = true then (wal_newestGen.l0 kj4 (mx x3_1 (wrap64 (t150))) (wrap64 (x9_1 + 1)) t149) else (wal_newestGen.l0 kj4 x3_1 (wrap64 (x9_1 + 1)) t149))) else (wal_newestGen.l0 kj4 x3_1 (wrap64 (x9_1 + 1)) t149)) else (none)) else (none)) = some (r1, r2) := H
              have A11 := Aside0.mk A110
              clear A110
              by_cases c12 : 0 ≤ (t151.length : Int)
              · rw [if_pos c12] at H
                have c12b0 := eq_true c12
                have c12b1 : decide (0 ≤ (t151.length : Int)) = true := decide_eq_true c12
                clear c12
                by_cases c13 : (t151.length : Int) ≤ (t145.length : Int)
                · rw [if_pos c13] at H
                  have c13b0 := eq_true c13
                  have c13b1 : decide ((t151.length : Int) ≤ (t145.length : Int)) = true := decide_eq_true c13
                  clear c13
                  obtain ⟨y154, hy154⟩ : ∃ y_ : List Int, y_ = (t145.take ((t151.length : Int) : Int).toNat) := ⟨_, rfl⟩
                  replace H : (if (strOfNums t151).toList = (strOfNums y154).toList then ((wal_plain.f kj4 (t145.drop ((t151.length : Int) : Int).toNat)).bind fun t162 => (if t162 = true then (wal_newestGen.l0 kj4 (mx x3_1 (wrap64 (t150))) (wrap64 (x9_1 + 1)) t149) else (wal_newestGen.l0 kj4 x3_1 (wrap64 (x9_1 + 1)) t149))) else (wal_newestGen.l0 kj4 x3_1 (wrap64 (x9_1 + 1)) t149)) = some (r1, r2) := by first | (rw [hy154]; with_reducible exact H) | (have H2_ := (Option.bind_some _ _).symm.trans H; rw [hy154]; with_reducible exact H2_) | (have H2_ := (Option.bind_some _ _).symm.trans H; with_reducible exact H2_) | with_reducible exact H | (rw [hy154]; exact H) | exact H
                  have Ny154 := Aside0.mk hy154
                  clear hy154
                  by_cases c14 : (strOfNums t151).toList = (strOfNums y154).toList
                  · rw [if_pos c14] at H
                    have c14b0 : ((strOfNums t151).toList == (strOfNums y154).toList) = true := beq_iff_eq.mpr c14
                    have c14b1 : ((strOfNums t151).toList != (strOfNums y154).toList) = false := bne_eq_false_iff_eq.mpr c14
                    clear c14
                    have c15b0 := eq_true (of_decide_eq_true (by first | (with_reducible assumption) | assumption) : 0 ≤ (t151.length : Int))
                    have c16b0 := eq_true (of_decide_eq_true (by first | (with_reducible assumption) | assumption) : (t151.length : Int) ≤ (t145.length : Int))
                    obtain ⟨y158, hy158⟩ : ∃ y_ : List Int, y_ = (t145.drop ((t151.length : Int) : Int).toNat) := ⟨_, rfl⟩
                    replace H : ((wal_plain.f kj4 y158).bind fun t162 => (if t162 = true then (wal_newestGen.l0 kj4 (mx x3_1 (wrap64 (t150))) (wrap64 (x9_1 + 1)) t149) else (wal_newestGen.l0 kj4 x3_1 (wrap64 (x9_1 + 1)) t149))) = some (r1, r2) := by first | (rw [hy158]; with_reducible exact H) | (have H2_ := (Option.bind_some _ _).symm.trans H; rw [hy158]; with_reducible exact H2_) | (have H2_ := (Option.bind_some _ _).symm.trans H; with_reducible exact H2_) | with_reducible exact H | (rw [hy158]; exact H) | exact H
                    have Ny158 := Aside0.mk hy158
                    clear hy158
                    replace H := Option.bind_eq_some_iff.mp H
                    obtain ⟨t162, A170, H⟩ := H
                    replace H : (if t162 = true then (wal_newestGen.l0 kj4 (mx x3_1 (wrap64 (t150))) (wrap64 (x9_1 + 1)) t149) else (wal_newestGen.l0 kj4 x3_1 (wrap64 (x9_1 + 1)) t149)) = some (r1, r2) := H
                    have A17 := Aside0.mk A170
                    clear A170
                    by_cases c18 : t162 = true
                    · subst c18
                      have H1 : (wal_newestGen.l0 kj4 (mx x3_1 (wrap64 (t150))) (wrap64 (x9_1 + 1)) t149) = some (r1, r2) := by rw [if_pos rfl] at H; exact H
                      clear H
                      have H := H1
                      clear H1
                      obtain ⟨ji19, hji19⟩ : ∃ j_ : Int, (mx x3_1 (wrap64 (t150))) = j_ := ⟨_, rfl⟩
                      replace H : (wal_newestGen.l0 kj4 ji19 (wrap64 (x9_1 + 1)) t149) = some (r1, r2) := by first | (rw [hji19] at H; exact H) | (simp only [hji19] at H ⊢; exact H)
                      (try rw [hji19] at A11)
                      (try rw [hji19] at A17)
                      have hji19_ : (if x3_1 < (wrap64 (t150)) then (wrap64 (t150)) else x3_1) = ji19 := hji19
                      have H' := Aside0.mk H
                      clear H
                      go_wp2_with (first | (go_at_call 69; (with_reducible refine (wal_super.calls kj4 (wrap64 (t150)) t151 _ A11.out).mono ?_); rintro e w20 ⟨v152, rfl, ho0, hb⟩; have n0_ := Aside0.mk (Kd.R_elder' (by (with_reducible repeat (first | apply Kd.R_alloc | apply Kd.R_drewN | apply Kd.R_drew)); exact HO_5.out) (Kd.R_base ho0) hb); have n1_ := Aside0.mk (Kd.R_lower (Kd.R_new' ho0 (Kd.R_lt (by (with_reducible repeat (first | apply Kd.R_alloc | apply Kd.R_drewN | apply Kd.R_drew)); exact HO_5.out))) (Go.Proofs.Ytpojfebecmjloaa.Opq.KeepO.size (by repeat (first | (with_reducible first | exact HK.out | apply Go.Proofs.Ytpojfebecmjloaa.Opq.KeepO.drewN | apply Go.Proofs.Ytpojfebecmjloaa.Opq.KeepO.drew | apply Go.Proofs.Ytpojfebecmjloaa.Opq.KeepO.alloc) | exact HK.out)))); have n2_ := Aside0.mk (IsS71.below (by repeat (first | (with_reducible first | exact HI0.out | apply IsS71.alloc | apply IsS71.drewN | apply IsS71.drew) | exact HI0.out)) hb); have n3_ := Aside0.mk (Go.Proofs.Ytpojfebecmjloaa.Opq.KeepO.trans (by repeat (first | (with_reducible first | exact HK.out | apply Go.Proofs.Ytpojfebecmjloaa.Opq.KeepO.drewN | apply Go.Proofs.Ytpojfebecmjloaa.Opq.KeepO.drew | apply Go.Proofs.Ytpojfebecmjloaa.Opq.KeepO.alloc) | exact HK.out)) (Go.Proofs.Ytpojfebecmjloaa.Opq.KeepO.of_below hb)); have n4_ := Aside0.mk (below_step (by repeat (first | (with_reducible first | exact HB.out | apply below_alloc | apply pw_below_drewN | apply below_drew1 | refine below_set ?_ (IsS71.ge HI0.out)) | exact HB.out)) hb); clear HO_5; clear HI0; clear HK; clear HB; have HO_5 := n0_; have HO153 := n1_; have HI0 := n2_; have HK := n3_; have HB := n4_; clear n0_ n1_ n2_ n3_ n4_; (try clear hb); (try clear hb2); (try clear hk); (try clear hi); (try clear ho0); have hcv21 := fun m : Nat => own_string (P := Try.prog) Try.underlying22 Try.underlying5 Try.underlying9 (Kd.own_of_R (Kd.R_drewN HO153.out m)); obtain ⟨Ao22, co22, eo22⟩ := Kd.R_slice HO153.out; subst eo22; have q23 : ((t151.length : Int) : Int) ≤ ((t145.length : Int) : Int) := of_decide_eq_true (by first | (with_reducible assumption) | assumption); obtain ⟨i023, hi023, _, hsz23, _⟩ := info_parts (show (Try.prog.info? 5).map (fun i => (i.zero, i.size, i.bytes)) = some (some (.int .u8 0), 1, 1) from by kernel_rfl); have hroom23 : t145.length ≤ co7 := (Kd.R_reads' HO_5.out).2.1; have hC23 : Kd.C (Kd.int .u8) _ Ao7 t145.length t145 := (Kd.R_reads' HO_5.out).2.2; have hcut23 := cut_to (P := Try.prog) 22 5 .i64 Try.underlying22 hi023 Ao7 t145.length co7 (t151.length : Int) (of_decide_eq_true (by first | (with_reducible assumption) | assumption)) q23 hroom23; have hr23 := Kd.C_take (m := ((t151.length : Int) : Int).toNat) hC23 (by omega); have hy23 : y154.length = ((t151.length : Int) : Int).toNat := (by rw [Ny154.out, List.length_take]; omega); rw [← Ny154.out] at hr23; rw [← hy23] at hcut23; have HR157 := Aside0.mk hr23; have HC157 := Aside0.mk (show y154.length ≤ co7 from by omega); clear hr23 hC23 hroom23 hi023 hsz23; have KY23 := Aside0.mk hy23; clear hy23; have KL23 := Aside0.mk (show ((t151.length : Int) : Int).toNat ≤ t145.length from by omega); replace q23 := eq_true q23; have hcv24 := fun m : Nat => Kd.C_string (P := Try.prog) (A := Ao7) (c := co7) Try.underlying22 Try.underlying5 Try.underlying9 (Kd.C_drewN HR157.out m); have q25 : ((t151.length : Int) : Int) ≤ ((t145.length : Int) : Int) := of_decide_eq_true (by first | (with_reducible assumption) | assumption); obtain ⟨i025, hi025, _, hsz25, _⟩ := info_parts (show (Try.prog.info? 5).map (fun i => (i.zero, i.size, i.bytes)) = some (some (.int .u8 0), 1, 1) from by kernel_rfl); have hroom25 : t145.length ≤ co7 := (Kd.R_reads' HO_5.out).2.1; have hC25 : Kd.C (Kd.int .u8) _ Ao7 t145.length t145 := (Kd.R_reads' HO_5.out).2.2; have q025 : (0 : Int) ≤ ((t151.length : Int) : Int) := of_decide_eq_true (by first | (with_reducible assumption) | assumption); have hcut25 := cut_from (P := Try.prog) 22 5 .i64 Try.underlying22 hi025 1 hsz25 Ao7 t145.length co7 (t151.length : Int) q025 q25; have hr25 := Kd.C_drop (m := ((t151.length : Int) : Int).toNat) (c := co7) hC25 (by omega) hroom25; obtain ⟨A25, hA25⟩ : ∃ A1, A1 = (if co7 = ((t151.length : Int) : Int).toNat then Ao7 else (Ao7 : Option Addr).map (·.add (((t151.length : Int) : Int).toNat * 1))) := ⟨_, rfl⟩; obtain ⟨c25, hc25⟩ : ∃ c1, c1 = co7 - ((t151.length : Int) : Int).toNat := ⟨_, rfl⟩; have hy25 : y158.length = t145.length - ((t151.length : Int) : Int).toNat := (by rw [Ny158.out, List.length_drop] <;> omega); rw [show (t145).drop ((t151.length : Int) : Int).toNat = y158 from Ny158.out.symm] at hr25; replace hr25 : Kd.C (Kd.int .u8) _ A25 y158.length y158 := (by rw [hA25]; exact hr25); rw [← hy25, ← hA25, ← hc25] at hcut25; have HR161 := Aside0.mk hr25; have HC161 := Aside0.mk (show y158.length ≤ c25 from by rw [hy25, hc25]; exact Nat.sub_le_sub_right hroom25 _); clear hr25 hC25 hroom25 hi025 hsz25 hc25; have KY25 := Aside0.mk hy25; have KA25 := Aside0.mk hA25; clear hy25 hA25; have KL25 := Aside0.mk (show ((t151.length : Int) : Int).toNat ≤ t145.length from by omega); replace q25 := eq_true q25) | (go_at_call 70; (with_reducible refine (wal_plain.calls kj4 _ _ y158 true _ ?side1 ?side2 A17.out).mono ?_); (case side1 => repeat (first | exact (by repeat (first | (with_reducible exact HR161.out) | (with_reducible refine Kd.C_alloc ?_ _) | (with_reducible refine Kd.C_drewN ?_ _) | (with_reducible refine Kd.C_drew ?_) | exact HR161.out)) | (with_reducible refine Kd.C_alloc ?_ _) | (with_reducible refine Kd.C_drewN ?_ _) | (with_reducible refine Kd.C_drew ?_))); (case side2 => exact HC161.out); rintro e w' ⟨rfl, ⟨nd, rfl⟩⟩; (try first | exact ⟨rfl, _, World.drewN_drewN _ _ _⟩ | exact ⟨rfl, _, Eq.trans (World.drewN_drewN _ _ _) (congrArg (World.drewN _) (Nat.add_assoc _ _ _))⟩)))
                      repeat (go_quiet (first | (go_at_call 69; (with_reducible refine (wal_super.calls kj4 (wrap64 (t150)) t151 _ A11.out).mono ?_); rintro e w20 ⟨v152, rfl, ho0, hb⟩; have n0_ := Aside0.mk (Kd.R_elder' (by (with_reducible repeat (first | apply Kd.R_alloc | apply Kd.R_drewN | apply Kd.R_drew)); exact HO_5.out) (Kd.R_base ho0) hb); have n1_ := Aside0.mk (Kd.R_lower (Kd.R_new' ho0 (Kd.R_lt (by (with_reducible repeat (first | apply Kd.R_alloc | apply Kd.R_drewN | apply Kd.R_drew)); exact HO_5.out))) (Go.Proofs.Ytpojfebecmjloaa.Opq.KeepO.size (by repeat (first | (with_reducible first | exact HK.out | apply Go.Proofs.Ytpojfebecmjloaa.Opq.KeepO.drewN | apply Go.Proofs.Ytpojfebecmjloaa.Opq.KeepO.drew | apply Go.Proofs.Ytpojfebecmjloaa.Opq.KeepO.alloc) | exact HK.out)))); have n2_ := Aside0.mk (IsS71.below (by repeat (first | (with_reducible first | exact HI0.out | apply IsS71.alloc | apply IsS71.drewN | apply IsS71.drew) | exact HI0.out)) hb); have n3_ := Aside0.mk (Go.Proofs.Ytpojfebecmjloaa.Opq.KeepO.trans (by repeat (first | (with_reducible first | exact HK.out | apply Go.Proofs.Ytpojfebecmjloaa.Opq.KeepO.drewN | apply Go.Proofs.Ytpojfebecmjloaa.Opq.KeepO.drew | apply Go.Proofs.Ytpojfebecmjloaa.Opq.KeepO.alloc) | exact HK.out)) (Go.Proofs.Ytpojfebecmjloaa.Opq.KeepO.of_below hb)); have n4_ := Aside0.mk (below_step (by repeat (first | (with_reducible first | exact HB.out | apply below_alloc | apply pw_below_drewN | apply below_drew1 | refine below_set ?_ (IsS71.ge HI0.out)) | exact HB.out)) hb); clear HO_5; clear HI0; clear HK; clear HB; have HO_5 := n0_; have HO153 := n1_; have HI0 := n2_; have HK := n3_; have HB := n4_; clear n0_ n1_ n2_ n3_ n4_; (try clear hb); (try clear hb2); (try clear hk); (try clear hi); (try clear ho0); have hcv21 := fun m : Nat => own_string (P := Try.prog) Try.underlying22 Try.underlying5 Try.underlying9 (Kd.own_of_R (Kd.R_drewN HO153.out m)); obtain ⟨Ao22, co22, eo22⟩ := Kd.R_slice HO153.out; subst eo22; have q23 : ((t151.length : Int) : Int) ≤ ((t145.length : Int) : Int) := of_decide_eq_true (by first | (with_reducible assumption) | assumption); obtain ⟨i023, hi023, _, hsz23, _⟩ := info_parts (show (Try.prog.info? 5).map (fun i => (i.zero, i.size, i.bytes)) = some (some (.int .u8 0), 1, 1) from by kernel_rfl); have hroom23 : t145.length ≤ co7 := (Kd.R_reads' HO_5.out).2.1; have hC23 : Kd.C (Kd.int .u8) _ Ao7 t145.length t145 := (Kd.R_reads' HO_5.out).2.2; have hcut23 := cut_to (P := Try.prog) 22 5 .i64 Try.underlying22 hi023 Ao7 t145.length co7 (t151.length : Int) (of_decide_eq_true (by first | (with_reducible assumption) | assumption)) q23 hroom23; have hr23 := Kd.C_take (m := ((t151.length : Int) : Int).toNat) hC23 (by omega); have hy23 : y154.length = ((t151.length : Int) : Int).toNat := (by rw [Ny154.out, List.length_take]; omega); rw [← Ny154.out] at hr23; rw [← hy23] at hcut23; have HR157 := Aside0.mk hr23; have HC157 := Aside0.mk (show y154.length ≤ co7 from by omega); clear hr23 hC23 hroom23 hi023 hsz23; have KY23 := Aside0.mk hy23; clear hy23; have KL23 := Aside0.mk (show ((t151.length : Int) : Int).toNat ≤ t145.length from by omega); replace q23 := eq_true q23; have hcv24 := fun m : Nat => Kd.C_string (P := Try.prog) (A := Ao7) (c := co7) Try.underlying22 Try.underlying5 Try.underlying9 (Kd.C_drewN HR157.out m); have q25 : ((t151.length : Int) : Int) ≤ ((t145.length : Int) : Int) := of_decide_eq_true (by first | (with_reducible assumption) | assumption); obtain ⟨i025, hi025, _, hsz25, _⟩ := info_parts (show (Try.prog.info? 5).map (fun i => (i.zero, i.size, i.bytes)) = some (some (.int .u8 0), 1, 1) from by kernel_rfl); have hroom25 : t145.length ≤ co7 := (Kd.R_reads' HO_5.out).2.1; have hC25 : Kd.C (Kd.int .u8) _ Ao7 t145.length t145 := (Kd.R_reads' HO_5.out).2.2; have q025 : (0 : Int) ≤ ((t151.length : Int) : Int) := of_decide_eq_true (by first | (with_reducible assumption) | assumption); have hcut25 := cut_from (P := Try.prog) 22 5 .i64 Try.underlying22 hi025 1 hsz25 Ao7 t145.length co7 (t151.length : Int) q025 q25; have hr25 := Kd.C_drop (m := ((t151.length : Int) : Int).toNat) (c := co7) hC25 (by omega) hroom25; obtain ⟨A25, hA25⟩ : ∃ A1, A1 = (if co7 = ((t151.length : Int) : Int).toNat then Ao7 else (Ao7 : Option Addr).map (·.add (((t151.length : Int) : Int).toNat * 1))) := ⟨_, rfl⟩; obtain ⟨c25, hc25⟩ : ∃ c1, c1 = co7 - ((t151.length : Int) : Int).toNat := ⟨_, rfl⟩; have hy25 : y158.length = t145.length - ((t151.length : Int) : Int).toNat := (by rw [Ny158.out, List.length_drop] <;> omega); rw [show (t145).drop ((t151.length : Int) : Int).toNat = y158 from Ny158.out.symm] at hr25; replace hr25 : Kd.C (Kd.int .u8) _ A25 y158.length y158 := (by rw [hA25]; exact hr25); rw [← hy25, ← hA25, ← hc25] at hcut25; have HR161 := Aside0.mk hr25; have HC161 := Aside0.mk (show y158.length ≤ c25 from by rw [hy25, hc25]; exact Nat.sub_le_sub_right hroom25 _); clear hr25 hC25 hroom25 hi025 hsz25 hc25; have KY25 := Aside0.mk hy25; have KA25 := Aside0.mk hA25; clear hy25 hA25; have KL25 := Aside0.mk (show ((t151.length : Int) : Int).toNat ≤ t145.length from by omega); replace q25 := eq_true q25) | (go_at_call 70; (with_reducible refine (wal_plain.calls kj4 _ _ y158 true _ ?side1 ?side2 A17.out).mono ?_); (case side1 => repeat (first | exact (by repeat (first | (with_reducible exact HR161.out) | (with_reducible refine Kd.C_alloc ?_ _) | (with_reducible refine Kd.C_drewN ?_ _) | (with_reducible refine Kd.C_drew ?_) | exact HR161.out)) | (with_reducible refine Kd.C_alloc ?_ _) | (with_reducible refine Kd.C_drewN ?_ _) | (with_reducible refine Kd.C_drew ?_))); (case side2 => exact HC161.out); rintro e w' ⟨rfl, ⟨nd, rfl⟩⟩; (try first | exact ⟨rfl, _, World.drewN_drewN _ _ _⟩ | exact ⟨rfl, _, Eq.trans (World.drewN_drewN _ _ _) (congrArg (World.drewN _) (Nat.add_assoc _ _ _))⟩))); try go_wp2_with (first | (go_at_call 69; (with_reducible refine (wal_super.calls kj4 (wrap64 (t150)) t151 _ A11.out).mono ?_); rintro e w20 ⟨v152, rfl, ho0, hb⟩; have n0_ := Aside0.mk (Kd.R_elder' (by (with_reducible repeat (first | apply Kd.R_alloc | apply Kd.R_drewN | apply Kd.R_drew)); exact HO_5.out) (Kd.R_base ho0) hb); have n1_ := Aside0.mk (Kd.R_lower (Kd.R_new' ho0 (Kd.R_lt (by (with_reducible repeat (first | apply Kd.R_alloc | apply Kd.R_drewN | apply Kd.R_drew)); exact HO_5.out))) (Go.Proofs.Ytpojfebecmjloaa.Opq.KeepO.size (by repeat (first | (with_reducible first | exact HK.out | apply Go.Proofs.Ytpojfebecmjloaa.Opq.KeepO.drewN | apply Go.Proofs.Ytpojfebecmjloaa.Opq.KeepO.drew | apply Go.Proofs.Ytpojfebecmjloaa.Opq.KeepO.alloc) | exact HK.out)))); have n2_ := Aside0.mk (IsS71.below (by repeat (first | (with_reducible first | exact HI0.out | apply IsS71.alloc | apply IsS71.drewN | apply IsS71.drew) | exact HI0.out)) hb); have n3_ := Aside0.mk (Go.Proofs.Ytpojfebecmjloaa.Opq.KeepO.trans (by repeat (first | (with_reducible first | exact HK.out | apply Go.Proofs.Ytpojfebecmjloaa.Opq.KeepO.drewN | apply Go.Proofs.Ytpojfebecmjloaa.Opq.KeepO.drew | apply Go.Proofs.Ytpojfebecmjloaa.Opq.KeepO.alloc) | exact HK.out)) (Go.Proofs.Ytpojfebecmjloaa.Opq.KeepO.of_below hb)); have n4_ := Aside0.mk (below_step (by repeat (first | (with_reducible first | exact HB.out | apply below_alloc | apply pw_below_drewN | apply below_drew1 | refine below_set ?_ (IsS71.ge HI0.out)) | exact HB.out)) hb); clear HO_5; clear HI0; clear HK; clear HB; have HO_5 := n0_; have HO153 := n1_; have HI0 := n2_; have HK := n3_; have HB := n4_; clear n0_ n1_ n2_ n3_ n4_; (try clear hb); (try clear hb2); (try clear hk); (try clear hi); (try clear ho0); have hcv21 := fun m : Nat => own_string (P := Try.prog) Try.underlying22 Try.underlying5 Try.underlying9 (Kd.own_of_R (Kd.R_drewN HO153.out m)); obtain ⟨Ao22, co22, eo22⟩ := Kd.R_slice HO153.out; subst eo22; have q23 : ((t151.length : Int) : Int) ≤ ((t145.length : Int) : Int) := of_decide_eq_true (by first | (with_reducible assumption) | assumption); obtain ⟨i023, hi023, _, hsz23, _⟩ := info_parts (show (Try.prog.info? 5).map (fun i => (i.zero, i.size, i.bytes)) = some (some (.int .u8 0), 1, 1) from by kernel_rfl); have hroom23 : t145.length ≤ co7 := (Kd.R_reads' HO_5.out).2.1; have hC23 : Kd.C (Kd.int .u8) _ Ao7 t145.length t145 := (Kd.R_reads' HO_5.out).2.2; have hcut23 := cut_to (P := Try.prog) 22 5 .i64 Try.underlying22 hi023 Ao7 t145.length co7 (t151.length : Int) (of_decide_eq_true (by first | (with_reducible assumption) | assumption)) q23 hroom23; have hr23 := Kd.C_take (m := ((t151.length : Int) : Int).toNat) hC23 (by omega); have hy23 : y154.length = ((t151.length : Int) : Int).toNat := (by rw [Ny154.out, List.length_take]; omega); rw [← Ny154.out] at hr23; rw [← hy23] at hcut23; have HR157 := Aside0.mk hr23; have HC157 := Aside0.mk (show y154.length ≤ co7 from by omega); clear hr23 hC23 hroom23 hi023 hsz23; have KY23 := Aside0.mk hy23; clear hy23; have KL23 := Aside0.mk (show ((t151.length : Int) : Int).toNat ≤ t145.length from by omega); replace q23 := eq_true q23; have hcv24 := fun m : Nat => Kd.C_string (P := Try.prog) (A := Ao7) (c := co7) Try.underlying22 Try.underlying5 Try.underlying9 (Kd.C_drewN HR157.out m); have q25 : ((t151.length : Int) : Int) ≤ ((t145.length : Int) : Int) := of_decide_eq_true (by first | (with_reducible assumption) | assumption); obtain ⟨i025, hi025, _, hsz25, _⟩ := info_parts (show (Try.prog.info? 5).map (fun i => (i.zero, i.size, i.bytes)) = some (some (.int .u8 0), 1, 1) from by kernel_rfl); have hroom25 : t145.length ≤ co7 := (Kd.R_reads' HO_5.out).2.1; have hC25 : Kd.C (Kd.int .u8) _ Ao7 t145.length t145 := (Kd.R_reads' HO_5.out).2.2; have q025 : (0 : Int) ≤ ((t151.length : Int) : Int) := of_decide_eq_true (by first | (with_reducible assumption) | assumption); have hcut25 := cut_from (P := Try.prog) 22 5 .i64 Try.underlying22 hi025 1 hsz25 Ao7 t145.length co7 (t151.length : Int) q025 q25; have hr25 := Kd.C_drop (m := ((t151.length : Int) : Int).toNat) (c := co7) hC25 (by omega) hroom25; obtain ⟨A25, hA25⟩ : ∃ A1, A1 = (if co7 = ((t151.length : Int) : Int).toNat then Ao7 else (Ao7 : Option Addr).map (·.add (((t151.length : Int) : Int).toNat * 1))) := ⟨_, rfl⟩; obtain ⟨c25, hc25⟩ : ∃ c1, c1 = co7 - ((t151.length : Int) : Int).toNat := ⟨_, rfl⟩; have hy25 : y158.length = t145.length - ((t151.length : Int) : Int).toNat := (by rw [Ny158.out, List.length_drop] <;> omega); rw [show (t145).drop ((t151.length : Int) : Int).toNat = y158 from Ny158.out.symm] at hr25; replace hr25 : Kd.C (Kd.int .u8) _ A25 y158.length y158 := (by rw [hA25]; exact hr25); rw [← hy25, ← hA25, ← hc25] at hcut25; have HR161 := Aside0.mk hr25; have HC161 := Aside0.mk (show y158.length ≤ c25 from by rw [hy25, hc25]; exact Nat.sub_le_sub_right hroom25 _); clear hr25 hC25 hroom25 hi025 hsz25 hc25; have KY25 := Aside0.mk hy25; have KA25 := Aside0.mk hA25; clear hy25 hA25; have KL25 := Aside0.mk (show ((t151.length : Int) : Int).toNat ≤ t145.length from by omega); replace q25 := eq_true q25) | (go_at_call 70; (with_reducible refine (wal_plain.calls kj4 _ _ y158 true _ ?side1 ?side2 A17.out).mono ?_); (case side1 => repeat (first | exact (by repeat (first | (with_reducible exact HR161.out) | (with_reducible refine Kd.C_alloc ?_ _) | (with_reducible refine Kd.C_drewN ?_ _) | (with_reducible refine Kd.C_drew ?_) | exact HR161.out)) | (with_reducible refine Kd.C_alloc ?_ _) | (with_reducible refine Kd.C_drewN ?_ _) | (with_reducible refine Kd.C_drew ?_))); (case side2 => exact HC161.out); rintro e w' ⟨rfl, ⟨nd, rfl⟩⟩; (try first | exact ⟨rfl, _, World.drewN_drewN _ _ _⟩ | exact ⟨rfl, _, Eq.trans (World.drewN_drewN _ _ _) (congrArg (World.drewN _) (Nat.add_assoc _ _ _))⟩))))
                      go_roundg kj4
                      case measure => have := HK1.out; have := HJ4.out; omega
                      case rel => exact ⟨(ji19), (wrap64 (x9_1 + 1)), (t149), (by first | rfl | (simp; done) | (simp only [← hji19] <;> (first | rfl | simp)) | (simp [*]; done)), (by first | rfl | (simp; done) | (simp [*]; done)), H', ⟨by have := HK1.out; have := HJ4.out; omega⟩, ⟨by repeat (first | (with_reducible first | exact HI0.out | apply IsS71.alloc | apply IsS71.drewN | apply IsS71.drew) | exact HI0.out)⟩, ⟨by repeat (first | (with_reducible first | exact HK.out | apply Go.Proofs.Ytpojfebecmjloaa.Opq.KeepO.drewN | apply Go.Proofs.Ytpojfebecmjloaa.Opq.KeepO.drew | apply Go.Proofs.Ytpojfebecmjloaa.Opq.KeepO.alloc) | exact HK.out)⟩, ⟨by repeat (first | (with_reducible first | exact HB.out | apply below_alloc | apply pw_below_drewN | apply below_drew1 | refine below_set ?_ (IsS71.ge HI0.out)) | exact HB.out)⟩⟩
                    · replace c18 := Bool.eq_false_iff.mpr c18
                      subst c18
                      have H1 : (wal_newestGen.l0 kj4 x3_1 (wrap64 (x9_1 + 1)) t149) = some (r1, r2) := by rw [if_neg (show ¬ (false = true) by decide)] at H; exact H
                      clear H
                      have H := H1
                      clear H1
                      have H' := Aside0.mk H
                      clear H
                      go_wp2_with (first | (go_at_call 69; (with_reducible refine (wal_super.calls kj4 (wrap64 (t150)) t151 _ A11.out).mono ?_); rintro e w26 ⟨v152, rfl, ho0, hb⟩; have n0_ := Aside0.mk (Kd.R_elder' (by (with_reducible repeat (first | apply Kd.R_alloc | apply Kd.R_drewN | apply Kd.R_drew)); exact HO_5.out) (Kd.R_base ho0) hb); have n1_ := Aside0.mk (Kd.R_lower (Kd.R_new' ho0 (Kd.R_lt (by (with_reducible repeat (first | apply Kd.R_alloc | apply Kd.R_drewN | apply Kd.R_drew)); exact HO_5.out))) (Go.Proofs.Ytpojfebecmjloaa.Opq.KeepO.size (by repeat (first | (with_reducible first | exact HK.out | apply Go.Proofs.Ytpojfebecmjloaa.Opq.KeepO.drewN | apply Go.Proofs.Ytpojfebecmjloaa.Opq.KeepO.drew | apply Go.Proofs.Ytpojfebecmjloaa.Opq.KeepO.alloc) | exact HK.out)))); have n2_ := Aside0.mk (IsS71.below (by repeat (first | (with_reducible first | exact HI0.out | apply IsS71.alloc | apply IsS71.drewN | apply IsS71.drew) | exact HI0.out)) hb); have n3_ := Aside0.mk (Go.Proofs.Ytpojfebecmjloaa.Opq.KeepO.trans (by repeat (first | (with_reducible first | exact HK.out | apply Go.Proofs.Ytpojfebecmjloaa.Opq.KeepO.drewN | apply Go.Proofs.Ytpojfebecmjloaa.Opq.KeepO.drew | apply Go.Proofs.Ytpojfebecmjloaa.Opq.KeepO.alloc) | exact HK.out)) (Go.Proofs.Ytpojfebecmjloaa.Opq.KeepO.of_below hb)); have n4_ := Aside0.mk (below_step (by repeat (first | (with_reducible first | exact HB.out | apply below_alloc | apply pw_below_drewN | apply below_drew1 | refine below_set ?_ (IsS71.ge HI0.out)) | exact HB.out)) hb); clear HO_5; clear HI0; clear HK; clear HB; have HO_5 := n0_; have HO153 := n1_; have HI0 := n2_; have HK := n3_; have HB := n4_; clear n0_ n1_ n2_ n3_ n4_; (try clear hb); (try clear hb2); (try clear hk); (try clear hi); (try clear ho0); have hcv27 := fun m : Nat => own_string (P := Try.prog) Try.underlying22 Try.underlying5 Try.underlying9 (Kd.own_of_R (Kd.R_drewN HO153.out m)); obtain ⟨Ao28, co28, eo28⟩ := Kd.R_slice HO153.out; subst eo28; have q29 : ((t151.length : Int) : Int) ≤ ((t145.length : Int) : Int) := of_decide_eq_true (by first | (with_reducible assumption) | assumption); obtain ⟨i029, hi029, _, hsz29, _⟩ := info_parts (show (Try.prog.info? 5).map (fun i => (i.zero, i.size, i.bytes)) = some (some (.int .u8 0), 1, 1) from by kernel_rfl); have hroom29 : t145.length ≤ co7 := (Kd.R_reads' HO_5.out).2.1; have hC29 : Kd.C (Kd.int .u8) _ Ao7 t145.length t145 := (Kd.R_reads' HO_5.out).2.2; have hcut29 := cut_to (P := Try.prog) 22 5 .i64 Try.underlying22 hi029 Ao7 t145.length co7 (t151.length : Int) (of_decide_eq_true (by first | (with_reducible assumption) | assumption)) q29 hroom29; have hr29 := Kd.C_take (m := ((t151.length : Int) : Int).toNat) hC29 (by omega); have hy29 : y154.length = ((t151.length : Int) : Int).toNat := (by rw [Ny154.out, List.length_take]; omega); rw [← Ny154.out] at hr29; rw [← hy29] at hcut29; have HR157 := Aside0.mk hr29; have HC157 := Aside0.mk (show y154.length ≤ co7 from by omega); clear hr29 hC29 hroom29 hi029 hsz29; have KY29 := Aside0.mk hy29; clear hy29; have KL29 := Aside0.mk (show ((t151.length : Int) : Int).toNat ≤ t145.length from by omega); replace q29 := eq_true q29; have hcv30 := fun m : Nat => Kd.C_string (P := Try.prog) (A := Ao7) (c := co7) Try.underlying22 Try.underlying5 Try.underlying9 (Kd.C_drewN HR157.out m); have q31 : ((t151.length : Int) : Int) ≤ ((t145.length : Int) : Int) := of_decide_eq_true (by first | (with_reducible assumption) | assumption); obtain ⟨i031, hi031, _, hsz31, _⟩ := info_parts (show (Try.prog.info? 5).map (fun i => (i.zero, i.size, i.bytes)) = some (some (.int .u8 0), 1, 1) from by kernel_rfl); have hroom31 : t145.length ≤ co7 := (Kd.R_reads' HO_5.out).2.1; have hC31 : Kd.C (Kd.int .u8) _ Ao7 t145.length t145 := (Kd.R_reads' HO_5.out).2.2; have q031 : (0 : Int) ≤ ((t151.length : Int) : Int) := of_decide_eq_true (by first | (with_reducible assumption) | assumption); have hcut31 := cut_from (P := Try.prog) 22 5 .i64 Try.underlying22 hi031 1 hsz31 Ao7 t145.length co7 (t151.length : Int) q031 q31; have hr31 := Kd.C_drop (m := ((t151.length : Int) : Int).toNat) (c := co7) hC31 (by omega) hroom31; obtain ⟨A31, hA31⟩ : ∃ A1, A1 = (if co7 = ((t151.length : Int) : Int).toNat then Ao7 else (Ao7 : Option Addr).map (·.add (((t151.length : Int) : Int).toNat * 1))) := ⟨_, rfl⟩; obtain ⟨c31, hc31⟩ : ∃ c1, c1 = co7 - ((t151.length : Int) : Int).toNat := ⟨_, rfl⟩; have hy31 : y158.length = t145.length - ((t151.length : Int) : Int).toNat := (by rw [Ny158.out, List.length_drop] <;> omega); rw [show (t145).drop ((t151.length : Int) : Int).toNat = y158 from Ny158.out.symm] at hr31; replace hr31 : Kd.C (Kd.int .u8) _ A31 y158.length y158 := (by rw [hA31]; exact hr31); rw [← hy31, ← hA31, ← hc31] at hcut31; have HR161 := Aside0.mk hr31; have HC161 := Aside0.mk (show y158.length ≤ c31 from by rw [hy31, hc31]; exact Nat.sub_le_sub_right hroom31 _); clear hr31 hC31 hroom31 hi031 hsz31 hc31; have KY31 := Aside0.mk hy31; have KA31 := Aside0.mk hA31; clear hy31 hA31; have KL31 := Aside0.mk (show ((t151.length : Int) : Int).toNat ≤ t145.length from by omega); replace q31 := eq_true q31) | (go_at_call 70; (with_reducible refine (wal_plain.calls kj4 _ _ y158 false _ ?side1 ?side2 A17.out).mono ?_); (case side1 => repeat (first | exact (by repeat (first | (with_reducible exact HR161.out) | (with_reducible refine Kd.C_alloc ?_ _) | (with_reducible refine Kd.C_drewN ?_ _) | (with_reducible refine Kd.C_drew ?_) | exact HR161.out)) | (with_reducible refine Kd.C_alloc ?_ _) | (with_reducible refine Kd.C_drewN ?_ _) | (with_reducible refine Kd.C_drew ?_))); (case side2 => exact HC161.out); rintro e w' ⟨rfl, ⟨nd, rfl⟩⟩; (try first | exact ⟨rfl, _, World.drewN_drewN _ _ _⟩ | exact ⟨rfl, _, Eq.trans (World.drewN_drewN _ _ _) (congrArg (World.drewN _) (Nat.add_assoc _ _ _))⟩)))
                      repeat (go_quiet (first | (go_at_call 69; (with_reducible refine (wal_super.calls kj4 (wrap64 (t150)) t151 _ A11.out).mono ?_); rintro e w26 ⟨v152, rfl, ho0, hb⟩; have n0_ := Aside0.mk (Kd.R_elder' (by (with_reducible repeat (first | apply Kd.R_alloc | apply Kd.R_drewN | apply Kd.R_drew)); exact HO_5.out) (Kd.R_base ho0) hb); have n1_ := Aside0.mk (Kd.R_lower (Kd.R_new' ho0 (Kd.R_lt (by (with_reducible repeat (first | apply Kd.R_alloc | apply Kd.R_drewN | apply Kd.R_drew)); exact HO_5.out))) (Go.Proofs.Ytpojfebecmjloaa.Opq.KeepO.size (by repeat (first | (with_reducible first | exact HK.out | apply Go.Proofs.Ytpojfebecmjloaa.Opq.KeepO.drewN | apply Go.Proofs.Ytpojfebecmjloaa.Opq.KeepO.drew | apply Go.Proofs.Ytpojfebecmjloaa.Opq.KeepO.alloc) | exact HK.out)))); have n2_ := Aside0.mk (IsS71.below (by repeat (first | (with_reducible first | exact HI0.out | apply IsS71.alloc | apply IsS71.drewN | apply IsS71.drew) | exact HI0.out)) hb); have n3_ := Aside0.mk (Go.Proofs.Ytpojfebecmjloaa.Opq.KeepO.trans (by repeat (first | (with_reducible first | exact HK.out | apply Go.Proofs.Ytpojfebecmjloaa.Opq.KeepO.drewN | apply Go.Proofs.Ytpojfebecmjloaa.Opq.KeepO.drew | apply Go.Proofs.Ytpojfebecmjloaa.Opq.KeepO.alloc) | exact HK.out)) (Go.Proofs.Ytpojfebecmjloaa.Opq.KeepO.of_below hb)); have n4_ := Aside0.mk (below_step (by repeat (first | (with_reducible first | exact HB.out | apply below_alloc | apply pw_below_drewN | apply below_drew1 | refine below_set ?_ (IsS71.ge HI0.out)) | exact HB.out)) hb); clear HO_5; clear HI0; clear HK; clear HB; have HO_5 := n0_; have HO153 := n1_; have HI0 := n2_; have HK := n3_; have HB := n4_; clear n0_ n1_ n2_ n3_ n4_; (try clear hb); (try clear hb2); (try clear hk); (try clear hi); (try clear ho0); have hcv27 := fun m : Nat => own_string (P := Try.prog) Try.underlying22 Try.underlying5 Try.underlying9 (Kd.own_of_R (Kd.R_drewN HO153.out m)); obtain ⟨Ao28, co28, eo28⟩ := Kd.R_slice HO153.out; subst eo28; have q29 : ((t151.length : Int) : Int) ≤ ((t145.length : Int) : Int) := of_decide_eq_true (by first | (with_reducible assumption) | assumption); obtain ⟨i029, hi029, _, hsz29, _⟩ := info_parts (show (Try.prog.info? 5).map (fun i => (i.zero, i.size, i.bytes)) = some (some (.int .u8 0), 1, 1) from by kernel_rfl); have hroom29 : t145.length ≤ co7 := (Kd.R_reads' HO_5.out).2.1; have hC29 : Kd.C (Kd.int .u8) _ Ao7 t145.length t145 := (Kd.R_reads' HO_5.out).2.2; have hcut29 := cut_to (P := Try.prog) 22 5 .i64 Try.underlying22 hi029 Ao7 t145.length co7 (t151.length : Int) (of_decide_eq_true (by first | (with_reducible assumption) | assumption)) q29 hroom29; have hr29 := Kd.C_take (m := ((t151.length : Int) : Int).toNat) hC29 (by omega); have hy29 : y154.length = ((t151.length : Int) : Int).toNat := (by rw [Ny154.out, List.length_take]; omega); rw [← Ny154.out] at hr29; rw [← hy29] at hcut29; have HR157 := Aside0.mk hr29; have HC157 := Aside0.mk (show y154.length ≤ co7 from by omega); clear hr29 hC29 hroom29 hi029 hsz29; have KY29 := Aside0.mk hy29; clear hy29; have KL29 := Aside0.mk (show ((t151.length : Int) : Int).toNat ≤ t145.length from by omega); replace q29 := eq_true q29; have hcv30 := fun m : Nat => Kd.C_string (P := Try.prog) (A := Ao7) (c := co7) Try.underlying22 Try.underlying5 Try.underlying9 (Kd.C_drewN HR157.out m); have q31 : ((t151.length : Int) : Int) ≤ ((t145.length : Int) : Int) := of_decide_eq_true (by first | (with_reducible assumption) | assumption); obtain ⟨i031, hi031, _, hsz31, _⟩ := info_parts (show (Try.prog.info? 5).map (fun i => (i.zero, i.size, i.bytes)) = some (some (.int .u8 0), 1, 1) from by kernel_rfl); have hroom31 : t145.length ≤ co7 := (Kd.R_reads' HO_5.out).2.1; have hC31 : Kd.C (Kd.int .u8) _ Ao7 t145.length t145 := (Kd.R_reads' HO_5.out).2.2; have q031 : (0 : Int) ≤ ((t151.length : Int) : Int) := of_decide_eq_true (by first | (with_reducible assumption) | assumption); have hcut31 := cut_from (P := Try.prog) 22 5 .i64 Try.underlying22 hi031 1 hsz31 Ao7 t145.length co7 (t151.length : Int) q031 q31; have hr31 := Kd.C_drop (m := ((t151.length : Int) : Int).toNat) (c := co7) hC31 (by omega) hroom31; obtain ⟨A31, hA31⟩ : ∃ A1, A1 = (if co7 = ((t151.length : Int) : Int).toNat then Ao7 else (Ao7 : Option Addr).map (·.add (((t151.length : Int) : Int).toNat * 1))) := ⟨_, rfl⟩; obtain ⟨c31, hc31⟩ : ∃ c1, c1 = co7 - ((t151.length : Int) : Int).toNat := ⟨_, rfl⟩; have hy31 : y158.length = t145.length - ((t151.length : Int) : Int).toNat := (by rw [Ny158.out, List.length_drop] <;> omega); rw [show (t145).drop ((t151.length : Int) : Int).toNat = y158 from Ny158.out.symm] at hr31; replace hr31 : Kd.C (Kd.int .u8) _ A31 y158.length y158 := (by rw [hA31]; exact hr31); rw [← hy31, ← hA31, ← hc31] at hcut31; have HR161 := Aside0.mk hr31; have HC161 := Aside0.mk (show y158.length ≤ c31 from by rw [hy31, hc31]; exact Nat.sub_le_sub_right hroom31 _); clear hr31 hC31 hroom31 hi031 hsz31 hc31; have KY31 := Aside0.mk hy31; have KA31 := Aside0.mk hA31; clear hy31 hA31; have KL31 := Aside0.mk (show ((t151.length : Int) : Int).toNat ≤ t145.length from by omega); replace q31 := eq_true q31) | (go_at_call 70; (with_reducible refine (wal_plain.calls kj4 _ _ y158 false _ ?side1 ?side2 A17.out).mono ?_); (case side1 => repeat (first | exact (by repeat (first | (with_reducible exact HR161.out) | (with_reducible refine Kd.C_alloc ?_ _) | (with_reducible refine Kd.C_drewN ?_ _) | (with_reducible refine Kd.C_drew ?_) | exact HR161.out)) | (with_reducible refine Kd.C_alloc ?_ _) | (with_reducible refine Kd.C_drewN ?_ _) | (with_reducible refine Kd.C_drew ?_))); (case side2 => exact HC161.out); rintro e w' ⟨rfl, ⟨nd, rfl⟩⟩; (try first | exact ⟨rfl, _, World.drewN_drewN _ _ _⟩ | exact ⟨rfl, _, Eq.trans (World.drewN_drewN _ _ _) (congrArg (World.drewN _) (Nat.add_assoc _ _ _))⟩))); try go_wp2_with (first | (go_at_call 69; (with_reducible refine (wal_super.calls kj4 (wrap64 (t150)) t151 _ A11.out).mono ?_); rintro e w26 ⟨v152, rfl, ho0, hb⟩; have n0_ := Aside0.mk (Kd.R_elder' (by (with_reducible repeat (first | apply Kd.R_alloc | apply Kd.R_drewN | apply Kd.R_drew)); exact HO_5.out) (Kd.R_base ho0) hb); have n1_ := Aside0.mk (Kd.R_lower (Kd.R_new' ho0 (Kd.R_lt (by (with_reducible repeat (first | apply Kd.R_alloc | apply Kd.R_drewN | apply Kd.R_drew)); exact HO_5.out))) (Go.Proofs.Ytpojfebecmjloaa.Opq.KeepO.size (by repeat (first | (with_reducible first | exact HK.out | apply Go.Proofs.Ytpojfebecmjloaa.Opq.KeepO.drewN | apply Go.Proofs.Ytpojfebecmjloaa.Opq.KeepO.drew | apply Go.Proofs.Ytpojfebecmjloaa.Opq.KeepO.alloc) | exact HK.out)))); have n2_ := Aside0.mk (IsS71.below (by repeat (first | (with_reducible first | exact HI0.out | apply IsS71.alloc | apply IsS71.drewN | apply IsS71.drew) | exact HI0.out)) hb); have n3_ := Aside0.mk (Go.Proofs.Ytpojfebecmjloaa.Opq.KeepO.trans (by repeat (first | (with_reducible first | exact HK.out | apply Go.Proofs.Ytpojfebecmjloaa.Opq.KeepO.drewN | apply Go.Proofs.Ytpojfebecmjloaa.Opq.KeepO.drew | apply Go.Proofs.Ytpojfebecmjloaa.Opq.KeepO.alloc) | exact HK.out)) (Go.Proofs.Ytpojfebecmjloaa.Opq.KeepO.of_below hb)); have n4_ := Aside0.mk (below_step (by repeat (first | (with_reducible first | exact HB.out | apply below_alloc | apply pw_below_drewN | apply below_drew1 | refine below_set ?_ (IsS71.ge HI0.out)) | exact HB.out)) hb); clear HO_5; clear HI0; clear HK; clear HB; have HO_5 := n0_; have HO153 := n1_; have HI0 := n2_; have HK := n3_; have HB := n4_; clear n0_ n1_ n2_ n3_ n4_; (try clear hb); (try clear hb2); (try clear hk); (try clear hi); (try clear ho0); have hcv27 := fun m : Nat => own_string (P := Try.prog) Try.underlying22 Try.underlying5 Try.underlying9 (Kd.own_of_R (Kd.R_drewN HO153.out m)); obtain ⟨Ao28, co28, eo28⟩ := Kd.R_slice HO153.out; subst eo28; have q29 : ((t151.length : Int) : Int) ≤ ((t145.length : Int) : Int) := of_decide_eq_true (by first | (with_reducible assumption) | assumption); obtain ⟨i029, hi029, _, hsz29, _⟩ := info_parts (show (Try.prog.info? 5).map (fun i => (i.zero, i.size, i.bytes)) = some (some (.int .u8 0), 1, 1) from by kernel_rfl); have hroom29 : t145.length ≤ co7 := (Kd.R_reads' HO_5.out).2.1; have hC29 : Kd.C (Kd.int .u8) _ Ao7 t145.length t145 := (Kd.R_reads' HO_5.out).2.2; have hcut29 := cut_to (P := Try.prog) 22 5 .i64 Try.underlying22 hi029 Ao7 t145.length co7 (t151.length : Int) (of_decide_eq_true (by first | (with_reducible assumption) | assumption)) q29 hroom29; have hr29 := Kd.C_take (m := ((t151.length : Int) : Int).toNat) hC29 (by omega); have hy29 : y154.length = ((t151.length : Int) : Int).toNat := (by rw [Ny154.out, List.length_take]; omega); rw [← Ny154.out] at hr29; rw [← hy29] at hcut29; have HR157 := Aside0.mk hr29; have HC157 := Aside0.mk (show y154.length ≤ co7 from by omega); clear hr29 hC29 hroom29 hi029 hsz29; have KY29 := Aside0.mk hy29; clear hy29; have KL29 := Aside0.mk (show ((t151.length : Int) : Int).toNat ≤ t145.length from by omega); replace q29 := eq_true q29; have hcv30 := fun m : Nat => Kd.C_string (P := Try.prog) (A := Ao7) (c := co7) Try.underlying22 Try.underlying5 Try.underlying9 (Kd.C_drewN HR157.out m); have q31 : ((t151.length : Int) : Int) ≤ ((t145.length : Int) : Int) := of_decide_eq_true (by first | (with_reducible assumption) | assumption); obtain ⟨i031, hi031, _, hsz31, _⟩ := info_parts (show (Try.prog.info? 5).map (fun i => (i.zero, i.size, i.bytes)) = some (some (.int .u8 0), 1, 1) from by kernel_rfl); have hroom31 : t145.length ≤ co7 := (Kd.R_reads' HO_5.out).2.1; have hC31 : Kd.C (Kd.int .u8) _ Ao7 t145.length t145 := (Kd.R_reads' HO_5.out).2.2; have q031 : (0 : Int) ≤ ((t151.length : Int) : Int) := of_decide_eq_true (by first | (with_reducible assumption) | assumption); have hcut31 := cut_from (P := Try.prog) 22 5 .i64 Try.underlying22 hi031 1 hsz31 Ao7 t145.length co7 (t151.length : Int) q031 q31; have hr31 := Kd.C_drop (m := ((t151.length : Int) : Int).toNat) (c := co7) hC31 (by omega) hroom31; obtain ⟨A31, hA31⟩ : ∃ A1, A1 = (if co7 = ((t151.length : Int) : Int).toNat then Ao7 else (Ao7 : Option Addr).map (·.add (((t151.length : Int) : Int).toNat * 1))) := ⟨_, rfl⟩; obtain ⟨c31, hc31⟩ : ∃ c1, c1 = co7 - ((t151.length : Int) : Int).toNat := ⟨_, rfl⟩; have hy31 : y158.length = t145.length - ((t151.length : Int) : Int).toNat := (by rw [Ny158.out, List.length_drop] <;> omega); rw [show (t145).drop ((t151.length : Int) : Int).toNat = y158 from Ny158.out.symm] at hr31; replace hr31 : Kd.C (Kd.int .u8) _ A31 y158.length y158 := (by rw [hA31]; exact hr31); rw [← hy31, ← hA31, ← hc31] at hcut31; have HR161 := Aside0.mk hr31; have HC161 := Aside0.mk (show y158.length ≤ c31 from by rw [hy31, hc31]; exact Nat.sub_le_sub_right hroom31 _); clear hr31 hC31 hroom31 hi031 hsz31 hc31; have KY31 := Aside0.mk hy31; have KA31 := Aside0.mk hA31; clear hy31 hA31; have KL31 := Aside0.mk (show ((t151.length : Int) : Int).toNat ≤ t145.length from by omega); replace q31 := eq_true q31) | (go_at_call 70; (with_reducible refine (wal_plain.calls kj4 _ _ y158 false _ ?side1 ?side2 A17.out).mono ?_); (case side1 => repeat (first | exact (by repeat (first | (with_reducible exact HR161.out) | (with_reducible refine Kd.C_alloc ?_ _) | (with_reducible refine Kd.C_drewN ?_ _) | (with_reducible refine Kd.C_drew ?_) | exact HR161.out)) | (with_reducible refine Kd.C_alloc ?_ _) | (with_reducible refine Kd.C_drewN ?_ _) | (with_reducible refine Kd.C_drew ?_))); (case side2 => exact HC161.out); rintro e w' ⟨rfl, ⟨nd, rfl⟩⟩; (try first | exact ⟨rfl, _, World.drewN_drewN _ _ _⟩ | exact ⟨rfl, _, Eq.trans (World.drewN_drewN _ _ _) (congrArg (World.drewN _) (Nat.add_assoc _ _ _))⟩))))
                      go_roundg kj4
                      case measure => have := HK1.out; have := HJ4.out; omega
                      case rel => exact ⟨(x3_1), (wrap64 (x9_1 + 1)), (t149), (by first | rfl | (simp; done) | (simp [*]; done)), (by first | rfl | (simp; done) | (simp [*]; done)), H', ⟨by have := HK1.out; have := HJ4.out; omega⟩, ⟨by repeat (first | (with_reducible first | exact HI0.out | apply IsS71.alloc | apply IsS71.drewN | apply IsS71.drew) | exact HI0.out)⟩, ⟨by repeat (first | (with_reducible first | exact HK.out | apply Go.Proofs.Ytpojfebecmjloaa.Opq.KeepO.drewN | apply Go.Proofs.Ytpojfebecmjloaa.Opq.KeepO.drew | apply Go.Proofs.Ytpojfebecmjloaa.Opq.KeepO.alloc) | exact HK.out)⟩, ⟨by repeat (first | (with_reducible first | exact HB.out | apply below_alloc | apply pw_below_drewN | apply below_drew1 | refine below_set ?_ (IsS71.ge HI0.out)) | exact HB.out)⟩⟩
                  · rw [if_neg c14] at H
                    have c14b0 : ((strOfNums t151).toList == (strOfNums y154).toList) = false := beq_eq_false_iff_ne.mpr c14
                    have c14b1 : ((strOfNums t151).toList != (strOfNums y154).toList) = true := bne_iff_ne.mpr c14
                    have H' := Aside0.mk H
                    clear H
                    go_wp2_with (first | (go_at_call 69; (with_reducible refine (wal_super.calls kj4 (wrap64 (t150)) t151 _ A11.out).mono ?_); rintro e w32 ⟨v152, rfl, ho0, hb⟩; have n0_ := Aside0.mk (Kd.R_elder' (by (with_reducible repeat (first | apply Kd.R_alloc | apply Kd.R_drewN | apply Kd.R_drew)); exact HO_5.out) (Kd.R_base ho0) hb); have n1_ := Aside0.mk (Kd.R_lower (Kd.R_new' ho0 (Kd.R_lt (by (with_reducible repeat (first | apply Kd.R_alloc | apply Kd.R_drewN | apply Kd.R_drew)); exact HO_5.out))) (Go.Proofs.Ytpojfebecmjloaa.Opq.KeepO.size (by repeat (first | (with_reducible first | exact HK.out | apply Go.Proofs.Ytpojfebecmjloaa.Opq.KeepO.drewN | apply Go.Proofs.Ytpojfebecmjloaa.Opq.KeepO.drew | apply Go.Proofs.Ytpojfebecmjloaa.Opq.KeepO.alloc) | exact HK.out)))); have n2_ := Aside0.mk (IsS71.below (by repeat (first | (with_reducible first | exact HI0.out | apply IsS71.alloc | apply IsS71.drewN | apply IsS71.drew) | exact HI0.out)) hb); have n3_ := Aside0.mk (Go.Proofs.Ytpojfebecmjloaa.Opq.KeepO.trans (by repeat (first | (with_reducible first | exact HK.out | apply Go.Proofs.Ytpojfebecmjloaa.Opq.KeepO.drewN | apply Go.Proofs.Ytpojfebecmjloaa.Opq.KeepO.drew | apply Go.Proofs.Ytpojfebecmjloaa.Opq.KeepO.alloc) | exact HK.out)) (Go.Proofs.Ytpojfebecmjloaa.Opq.KeepO.of_below hb)); have n4_ := Aside0.mk (below_step (by repeat (first | (with_reducible first | exact HB.out | apply below_alloc | apply pw_below_drewN | apply below_drew1 | refine below_set ?_ (IsS71.ge HI0.out)) | exact HB.out)) hb); clear HO_5; clear HI0; clear HK; clear HB; have HO_5 := n0_; have HO153 := n1_; have HI0 := n2_; have HK := n3_; have HB := n4_; clear n0_ n1_ n2_ n3_ n4_; (try clear hb); (try clear hb2); (try clear hk); (try clear hi); (try clear ho0); have hcv33 := fun m : Nat => own_string (P := Try.prog) Try.underlying22 Try.underlying5 Try.underlying9 (Kd.own_of_R (Kd.R_drewN HO153.out m)); obtain ⟨Ao34, co34, eo34⟩ := Kd.R_slice HO153.out; subst eo34; have q35 : ((t151.length : Int) : Int) ≤ ((t145.length : Int) : Int) := of_decide_eq_true (by first | (with_reducible assumption) | assumption); obtain ⟨i035, hi035, _, hsz35, _⟩ := info_parts (show (Try.prog.info? 5).map (fun i => (i.zero, i.size, i.bytes)) = some (some (.int .u8 0), 1, 1) from by kernel_rfl); have hroom35 : t145.length ≤ co7 := (Kd.R_reads' HO_5.out).2.1; have hC35 : Kd.C (Kd.int .u8) _ Ao7 t145.length t145 := (Kd.R_reads' HO_5.out).2.2; have hcut35 := cut_to (P := Try.prog) 22 5 .i64 Try.underlying22 hi035 Ao7 t145.length co7 (t151.length : Int) (of_decide_eq_true (by first | (with_reducible assumption) | assumption)) q35 hroom35; have hr35 := Kd.C_take (m := ((t151.length : Int) : Int).toNat) hC35 (by omega); have hy35 : y154.length = ((t151.length : Int) : Int).toNat := (by rw [Ny154.out, List.length_take]; omega); rw [← Ny154.out] at hr35; rw [← hy35] at hcut35; have HR157 := Aside0.mk hr35; have HC157 := Aside0.mk (show y154.length ≤ co7 from by omega); clear hr35 hC35 hroom35 hi035 hsz35; have KY35 := Aside0.mk hy35; clear hy35; have KL35 := Aside0.mk (show ((t151.length : Int) : Int).toNat ≤ t145.length from by omega); replace q35 := eq_true q35; have hcv36 := fun m : Nat => Kd.C_string (P := Try.prog) (A := Ao7) (c := co7) Try.underlying22 Try.underlying5 Try.underlying9 (Kd.C_drewN HR157.out m)))
                    repeat (go_quiet (first | (go_at_call 69; (with_reducible refine (wal_super.calls kj4 (wrap64 (t150)) t151 _ A11.out).mono ?_); rintro e w32 ⟨v152, rfl, ho0, hb⟩; have n0_ := Aside0.mk (Kd.R_elder' (by (with_reducible repeat (first | apply Kd.R_alloc | apply Kd.R_drewN | apply Kd.R_drew)); exact HO_5.out) (Kd.R_base ho0) hb); have n1_ := Aside0.mk (Kd.R_lower (Kd.R_new' ho0 (Kd.R_lt (by (with_reducible repeat (first | apply Kd.R_alloc | apply Kd.R_drewN | apply Kd.R_drew)); exact HO_5.out))) (Go.Proofs.Ytpojfebecmjloaa.Opq.KeepO.size (by repeat (first | (with_reducible first | exact HK.out | apply Go.Proofs.Ytpojfebecmjloaa.Opq.KeepO.drewN | apply Go.Proofs.Ytpojfebecmjloaa.Opq.KeepO.drew | apply Go.Proofs.Ytpojfebecmjloaa.Opq.KeepO.alloc) | exact HK.out)))); have n2_ := Aside0.mk (IsS71.below (by repeat (first | (with_reducible first | exact HI0.out | apply IsS71.alloc | apply IsS71.drewN | apply IsS71.drew) | exact HI0.out)) hb); have n3_ := Aside0.mk (Go.Proofs.Ytpojfebecmjloaa.Opq.KeepO.trans (by repeat (first | (with_reducible first | exact HK.out | apply Go.Proofs.Ytpojfebecmjloaa.Opq.KeepO.drewN | apply Go.Proofs.Ytpojfebecmjloaa.Opq.KeepO.drew | apply Go.Proofs.Ytpojfebecmjloaa.Opq.KeepO.alloc) | exact HK.out)) (Go.Proofs.Ytpojfebecmjloaa.Opq.KeepO.of_below hb)); have n4_ := Aside0.mk (below_step (by repeat (first | (with_reducible first | exact HB.out | apply below_alloc | apply pw_below_drewN | apply below_drew1 | refine below_set ?_ (IsS71.ge HI0.out)) | exact HB.out)) hb); clear HO_5; clear HI0; clear HK; clear HB; have HO_5 := n0_; have HO153 := n1_; have HI0 := n2_; have HK := n3_; have HB := n4_; clear n0_ n1_ n2_ n3_ n4_; (try clear hb); (try clear hb2); (try clear hk); (try clear hi); (try clear ho0); have hcv33 := fun m : Nat => own_string (P := Try.prog) Try.underlying22 Try.underlying5 Try.underlying9 (Kd.own_of_R (Kd.R_drewN HO153.out m)); obtain ⟨Ao34, co34, eo34⟩ := Kd.R_slice HO153.out; subst eo34; have q35 : ((t151.length : Int) : Int) ≤ ((t145.length : Int) : Int) := of_decide_eq_true (by first | (with_reducible assumption) | assumption); obtain ⟨i035, hi035, _, hsz35, _⟩ := info_parts (show (Try.prog.info? 5).map (fun i => (i.zero, i.size, i.bytes)) = some (some (.int .u8 0), 1, 1) from by kernel_rfl); have hroom35 : t145.length ≤ co7 := (Kd.R_reads' HO_5.out).2.1; have hC35 : Kd.C (Kd.int .u8) _ Ao7 t145.length t145 := (Kd.R_reads' HO_5.out).2.2; have hcut35 := cut_to (P := Try.prog) 22 5 .i64 Try.underlying22 hi035 Ao7 t145.length co7 (t151.length : Int) (of_decide_eq_true (by first | (with_reducible assumption) | assumption)) q35 hroom35; have hr35 := Kd.C_take (m := ((t151.length : Int) : Int).toNat) hC35 (by omega); have hy35 : y154.length = ((t151.length : Int) : Int).toNat := (by rw [Ny154.out, List.length_take]; omega); rw [← Ny154.out] at hr35; rw [← hy35] at hcut35; have HR157 := Aside0.mk hr35; have HC157 := Aside0.mk (show y154.length ≤ co7 from by omega); clear hr35 hC35 hroom35 hi035 hsz35; have KY35 := Aside0.mk hy35; clear hy35; have KL35 := Aside0.mk (show ((t151.length : Int) : Int).toNat ≤ t145.length from by omega); replace q35 := eq_true q35; have hcv36 := fun m : Nat => Kd.C_string (P := Try.prog) (A := Ao7) (c := co7) Try.underlying22 Try.underlying5 Try.underlying9 (Kd.C_drewN HR157.out m))); try go_wp2_with (first | (go_at_call 69; (with_reducible refine (wal_super.calls kj4 (wrap64 (t150)) t151 _ A11.out).mono ?_); rintro e w32 ⟨v152, rfl, ho0, hb⟩; have n0_ := Aside0.mk (Kd.R_elder' (by (with_reducible repeat (first | apply Kd.R_alloc | apply Kd.R_drewN | apply Kd.R_drew)); exact HO_5.out) (Kd.R_base ho0) hb); have n1_ := Aside0.mk (Kd.R_lower (Kd.R_new' ho0 (Kd.R_lt (by (with_reducible repeat (first | apply Kd.R_alloc | apply Kd.R_drewN | apply Kd.R_drew)); exact HO_5.out))) (Go.Proofs.Ytpojfebecmjloaa.Opq.KeepO.size (by repeat (first | (with_reducible first | exact HK.out | apply Go.Proofs.Ytpojfebecmjloaa.Opq.KeepO.drewN | apply Go.Proofs.Ytpojfebecmjloaa.Opq.KeepO.drew | apply Go.Proofs.Ytpojfebecmjloaa.Opq.KeepO.alloc) | exact HK.out)))); have n2_ := Aside0.mk (IsS71.below (by repeat (first | (with_reducible first | exact HI0.out | apply IsS71.alloc | apply IsS71.drewN | apply IsS71.drew) | exact HI0.out)) hb); have n3_ := Aside0.mk (Go.Proofs.Ytpojfebecmjloaa.Opq.KeepO.trans (by repeat (first | (with_reducible first | exact HK.out | apply Go.Proofs.Ytpojfebecmjloaa.Opq.KeepO.drewN | apply Go.Proofs.Ytpojfebecmjloaa.Opq.KeepO.drew | apply Go.Proofs.Ytpojfebecmjloaa.Opq.KeepO.alloc) | exact HK.out)) (Go.Proofs.Ytpojfebecmjloaa.Opq.KeepO.of_below hb)); have n4_ := Aside0.mk (below_step (by repeat (first | (with_reducible first | exact HB.out | apply below_alloc | apply pw_below_drewN | apply below_drew1 | refine below_set ?_ (IsS71.ge HI0.out)) | exact HB.out)) hb); clear HO_5; clear HI0; clear HK; clear HB; have HO_5 := n0_; have HO153 := n1_; have HI0 := n2_; have HK := n3_; have HB := n4_; clear n0_ n1_ n2_ n3_ n4_; (try clear hb); (try clear hb2); (try clear hk); (try clear hi); (try clear ho0); have hcv33 := fun m : Nat => own_string (P := Try.prog) Try.underlying22 Try.underlying5 Try.underlying9 (Kd.own_of_R (Kd.R_drewN HO153.out m)); obtain ⟨Ao34, co34, eo34⟩ := Kd.R_slice HO153.out; subst eo34; have q35 : ((t151.length : Int) : Int) ≤ ((t145.length : Int) : Int) := of_decide_eq_true (by first | (with_reducible assumption) | assumption); obtain ⟨i035, hi035, _, hsz35, _⟩ := info_parts (show (Try.prog.info? 5).map (fun i => (i.zero, i.size, i.bytes)) = some (some (.int .u8 0), 1, 1) from by kernel_rfl); have hroom35 : t145.length ≤ co7 := (Kd.R_reads' HO_5.out).2.1; have hC35 : Kd.C (Kd.int .u8) _ Ao7 t145.length t145 := (Kd.R_reads' HO_5.out).2.2; have hcut35 := cut_to (P := Try.prog) 22 5 .i64 Try.underlying22 hi035 Ao7 t145.length co7 (t151.length : Int) (of_decide_eq_true (by first | (with_reducible assumption) | assumption)) q35 hroom35; have hr35 := Kd.C_take (m := ((t151.length : Int) : Int).toNat) hC35 (by omega); have hy35 : y154.length = ((t151.length : Int) : Int).toNat := (by rw [Ny154.out, List.length_take]; omega); rw [← Ny154.out] at hr35; rw [← hy35] at hcut35; have HR157 := Aside0.mk hr35; have HC157 := Aside0.mk (show y154.length ≤ co7 from by omega); clear hr35 hC35 hroom35 hi035 hsz35; have KY35 := Aside0.mk hy35; clear hy35; have KL35 := Aside0.mk (show ((t151.length : Int) : Int).toNat ≤ t145.length from by omega); replace q35 := eq_true q35; have hcv36 := fun m : Nat => Kd.C_string (P := Try.prog) (A := Ao7) (c := co7) Try.underlying22 Try.underlying5 Try.underlying9 (Kd.C_drewN HR157.out m))))
                    go_roundg kj4
                    case measure => have := HK1.out; have := HJ4.out; omega
                    case rel => exact ⟨(x3_1), (wrap64 (x9_1 + 1)), (t149), (by first | rfl | (simp; done) | (simp [*]; done)), (by first | rfl | (simp; done) | (simp [*]; done)), H', ⟨by have := HK1.out; have := HJ4.out; omega⟩, ⟨by repeat (first | (with_reducible first | exact HI0.out | apply IsS71.alloc | apply IsS71.drewN | apply IsS71.drew) | exact HI0.out)⟩, ⟨by repeat (first | (with_reducible first | exact HK.out | apply Go.Proofs.Ytpojfebecmjloaa.Opq.KeepO.drewN | apply Go.Proofs.Ytpojfebecmjloaa.Opq.KeepO.drew | apply Go.Proofs.Ytpojfebecmjloaa.Opq.KeepO.alloc) | exact HK.out)⟩, ⟨by repeat (first | (with_reducible first | exact HB.out | apply below_alloc | apply pw_below_drewN | apply below_drew1 | refine below_set ?_ (IsS71.ge HI0.out)) | exact HB.out)⟩⟩
                · rw [if_neg c13] at H
                  exact absurd H (by simp)
              · rw [if_neg c12] at H
                exact absurd H (by simp)
      · rw [if_neg c2] at H
        have c2b0 : decide (x9_1 < 2) = false := decide_eq_false c2
        clear c2
        simp only [Option.some.injEq, Prod.mk.injEq] at H
        obtain ⟨rfl, rfl⟩ := H
        go_wp2
        repeat (go_quiet (fail); try go_wp2)
        go_ret
        exact ⟨by first | rfl | (simp [errW_none, errW_some] <;> rfl) | (simp [*, errW_none, errW_some] <;> rfl), by repeat (first | (with_reducible first | exact HI0.out | apply IsS71.alloc | apply IsS71.drewN | apply IsS71.drew) | exact HI0.out), by repeat (first | (with_reducible first | exact HB.out | apply below_alloc | apply pw_below_drewN | apply below_drew1 | refine below_set ?_ (IsS71.ge HI0.out)) | exact HB.out), by repeat (first | (with_reducible first | exact HK.out | apply Go.Proofs.Ytpojfebecmjloaa.Opq.KeepO.drewN | apply Go.Proofs.Ytpojfebecmjloaa.Opq.KeepO.drew | apply Go.Proofs.Ytpojfebecmjloaa.Opq.KeepO.alloc) | exact HK.out)⟩



/-! ### wal_bounds: function 58 -/
def wal_bounds.f (s0_0 : Disk.DiskM) (a1 : Int) : Option (Int × Int × Disk.DiskM) := (sector_Disk_Len.f s0_0).bind fun bt150 => (some (wrap64 (2 + (wrap64 ((Int.tmod a1 2) * (wrap64 (Int.tdiv (wrap64 (bt150.1 - 2)) 2))))), wrap64 ((wrap64 (2 + (wrap64 ((Int.tmod a1 2) * (wrap64 (Int.tdiv (wrap64 (bt150.1 - 2)) 2)))))) + (wrap64 (Int.tdiv (wrap64 (bt150.1 - 2)) 2))), bt150.2))
set_option maxHeartbeats 8000000 in
set_option maxRecDepth 100000 in
theorem wal_bounds.calls (g : Nat) (s0_0 : Disk.DiskM) (a1 : Int) (r1 : Int) (r2 : Int) (r3 : Disk.DiskM) (w0 w : World) (hI : IsS71 w0 w g s0_0) (hB : Below w0.heap.size w0 w) (h : wal_bounds.f s0_0 a1 = some (r1, r2, r3)) :
    Calls Try.prog 58 #[.pointer (some ⟨g, 0, none⟩), .int .i64 a1] w fun e w' => e = .returned (.tuple #[.int .i64 r1, .int .i64 r2]) ∧ IsS71 w0 w' g r3 ∧ Below w0.heap.size w0 w' ∧ Go.Proofs.Ytpojfebecmjloaa.Opq.KeepO ts71 w0.heap.size w w' := by
  have HI0 := Aside0.mk hI
  have HK := Aside0.mk (Go.Proofs.Ytpojfebecmjloaa.Opq.KeepO.refl ts71 w0.heap.size w)
  have HL := Aside0.mk hB.size
  clear hI
  have HW0 := Aside0.mk hB.size
  have HB := Aside0.mk hB
  clear hB
  have H : ((sector_Disk_Len.f s0_0).bind fun bt150 => (some (wrap64 (2 + (wrap64 ((Int.tmod a1 2) * (wrap64 (Int.tdiv (wrap64 (bt150.1 - 2)) 2))))), wrap64 ((wrap64 (2 + (wrap64 ((Int.tmod a1 2) * (wrap64 (Int.tdiv (wrap64 (bt150.1 - 2)) 2)))))) + (wrap64 (Int.tdiv (wrap64 (bt150.1 - 2)) 2))), bt150.2))) = some (r1, r2, r3) := h
  clear h
  replace H := Option.bind_eq_some_iff.mp H
  obtain ⟨⟨t150, t151⟩, A30, H⟩ := H
  replace H : (some (wrap64 (2 + (wrap64 ((Int.tmod a1 2) * (wrap64 (Int.tdiv (wrap64 (t150 - 2)) 2))))), wrap64 ((wrap64 (2 + (wrap64 ((Int.tmod a1 2) * (wrap64 (Int.tdiv (wrap64 (t150 - 2)) 2)))))) + (wrap64 (Int.tdiv (wrap64 (t150 - 2)) 2))), t151)) = some (r1, r2, r3) := H
  have A3 := Aside0.mk A30
  clear A30
  simp only [Option.some.injEq, Prod.mk.injEq] at H
  obtain ⟨rfl, rfl, rfl⟩ := H
  go_enter Try.func58, Try.ntmps58
  go_wp2_with (first | ((with_reducible refine gate_callee (f := 22) rfl ?_); refine goesL_ (some 8) rfl rfl Try.func22 (by kernel_rfl) rfl #[.pointer (some ⟨g, 0, none⟩)] rfl (by (try simp only [List.map_toArray, List.map_cons, List.map_nil]); first | done | rfl | (simp only [List.length_drop, List.length_take]; rfl)) ?_; (with_reducible refine (sector_Disk_Len.calls g s0_0 t150 t151 w0 _ ?side1 ?side2 A3.out).mono ?_); (case side1 => repeat (first | (with_reducible first | exact HI0.out | apply IsS71.alloc | apply IsS71.drewN | apply IsS71.drew) | exact HI0.out)); (case side2 => repeat (first | (with_reducible first | exact HB.out | apply below_alloc | apply pw_below_drewN | apply below_drew1 | refine below_set ?_ (IsS71.ge HI0.out)) | exact HB.out)); rintro e w4 ⟨rfl, hi, hb, hk⟩; refine ⟨_, rfl, ?_⟩; have n0_ := Aside0.mk (Go.Proofs.Ytpojfebecmjloaa.Opq.KeepO.trans (by repeat (first | (with_reducible first | exact HK.out | apply Go.Proofs.Ytpojfebecmjloaa.Opq.KeepO.drewN | apply Go.Proofs.Ytpojfebecmjloaa.Opq.KeepO.drew | apply Go.Proofs.Ytpojfebecmjloaa.Opq.KeepO.alloc) | exact HK.out)) hk); have n1_ := Aside0.mk (hb); have n2_ := Aside0.mk (hi); clear HK; clear HB; clear HI0; have HK := n0_; have HB := n1_; have HI0 := n2_; clear n0_ n1_ n2_; (try clear hb); (try clear hb2); (try clear hk); (try clear hi)))
  go_ret2
  exact ⟨by first | rfl | (simp [errW_none, errW_some] <;> rfl) | (simp [*, errW_none, errW_some] <;> rfl), by repeat (first | (with_reducible first | exact HI0.out | apply IsS71.alloc | apply IsS71.drewN | apply IsS71.drew) | exact HI0.out), by repeat (first | (with_reducible first | exact HB.out | apply below_alloc | apply pw_below_drewN | apply below_drew1 | refine below_set ?_ (IsS71.ge HI0.out)) | exact HB.out), by repeat (first | (with_reducible first | exact HK.out | apply Go.Proofs.Ytpojfebecmjloaa.Opq.KeepO.drewN | apply Go.Proofs.Ytpojfebecmjloaa.Opq.KeepO.drew | apply Go.Proofs.Ytpojfebecmjloaa.Opq.KeepO.alloc) | exact HK.out)⟩

/-! ### wal_install: function 61 -/
def wal_install.f (k : Nat) (s0_0 : Disk.DiskM) (a1 : Int) : Option (Int × Disk.DiskM) := (wal_super.f k a1).bind fun t152 => ((sector_Disk_Write.f s0_0 (Int.tmod a1 2) t152).bind fun bt155 => (if bt155.1 = 0 then ((sector_Disk_Flush.f bt155.2).bind fun bt157 => (some (bt157.1, bt157.2))) else (some (bt155.1, bt155.2))))
theorem wal_install.mono : ∀ a0 a1 k, LeO (wal_install.f k a0 a1) (wal_install.f (k + 1) a0 a1) := by
  intro a0 a1 k
  unfold wal_install.f
  repeat' first
      | (with_reducible exact wal_super.mono _ _)
      | (with_reducible exact LeO.refl _)
      | (with_reducible exact LeO.none _)
      | (with_reducible refine LeO.ite ?_ ?_)
      | (with_reducible refine LeO.bind ?_ (fun _ => ?_))
      | exact wal_super.mono _ _
      | exact LeO.none _
      | refine LeO.ite ?_ ?_
      | refine LeO.bind ?_ (fun _ => ?_)
set_option maxHeartbeats 8000000 in
set_option maxRecDepth 100000 in
theorem wal_install.calls (k : Nat) (g : Nat) (s0_0 : Disk.DiskM) (a1 : Int) (r1 : Int) (r2 : Disk.DiskM) (w0 w : World) (hI : IsS71 w0 w g s0_0) (hB : Below w0.heap.size w0 w) (h : wal_install.f k s0_0 a1 = some (r1, r2)) :
    Calls Try.prog 61 #[.pointer (some ⟨g, 0, none⟩), .int .i64 a1] w fun e w' => e = .returned (.int .i64 r1) ∧ IsS71 w0 w' g r2 ∧ Below w0.heap.size w0 w' ∧ Go.Proofs.Ytpojfebecmjloaa.Opq.KeepO ts71 w0.heap.size w w' := by
  have HI0 := Aside0.mk hI
  have HK := Aside0.mk (Go.Proofs.Ytpojfebecmjloaa.Opq.KeepO.refl ts71 w0.heap.size w)
  have HL := Aside0.mk hB.size
  clear hI
  have HW0 := Aside0.mk hB.size
  have HB := Aside0.mk hB
  clear hB
  have H : ((wal_super.f k a1).bind fun t152 => ((sector_Disk_Write.f s0_0 (Int.tmod a1 2) t152).bind fun bt155 => (if bt155.1 = 0 then ((sector_Disk_Flush.f bt155.2).bind fun bt157 => (some (bt157.1, bt157.2))) else (some (bt155.1, bt155.2))))) = some (r1, r2) := h
  clear h
  replace H := Option.bind_eq_some_iff.mp H
  obtain ⟨t152, A30, H⟩ := H
  replace H : ((sector_Disk_Write.f s0_0 (Int.tmod a1 2) t152).bind fun bt155 => (if bt155.1 = 0 then ((sector_Disk_Flush.f bt155.2).bind fun bt157 => (some (bt157.1, bt157.2))) else (some (bt155.1, bt155.2)))) = some (r1, r2) := H
  have A3 := Aside0.mk A30
  clear A30
  replace H := Option.bind_eq_some_iff.mp H
  obtain ⟨⟨t155, t156⟩, A40, H⟩ := H
  replace H : (if t155 = 0 then ((sector_Disk_Flush.f t156).bind fun bt157 => (some (bt157.1, bt157.2))) else (some (t155, t156))) = some (r1, r2) := H
  have A4 := Aside0.mk A40
  clear A40
  by_cases c5 : t155 = 0
  · rw [if_pos c5] at H
    have c5b0 : (t155 == 0) = true := beq_iff_eq.mpr c5
    have c5b1 : (t155 != 0) = false := bne_eq_false_iff_eq.mpr c5
    clear c5
    replace H := Option.bind_eq_some_iff.mp H
    obtain ⟨⟨t157, t158⟩, A60, H⟩ := H
    replace H : (some (t157, t158)) = some (r1, r2) := H
    have A6 := Aside0.mk A60
    clear A60
    simp only [Option.some.injEq, Prod.mk.injEq] at H
    obtain ⟨rfl, rfl⟩ := H
    go_enter Try.func61, Try.ntmps61
    go_wp2_with (first | ((with_reducible refine gate_callee (f := 69) rfl ?_); refine goesL_ (some 10) rfl rfl Try.func69 (by kernel_rfl) rfl #[.int .i64 a1] rfl (by (try simp only [List.map_toArray, List.map_cons, List.map_nil]); first | done | rfl | (simp only [List.length_drop, List.length_take]; rfl)) ?_; (with_reducible refine (wal_super.calls k a1 t152 _ A3.out).mono ?_); rintro e w7 ⟨v153, rfl, ho0, hb⟩; refine ⟨_, rfl, ?_⟩; have n0_ := Aside0.mk (Kd.R_lower ho0 (Go.Proofs.Ytpojfebecmjloaa.Opq.KeepO.size (by repeat (first | (with_reducible first | exact HK.out | apply Go.Proofs.Ytpojfebecmjloaa.Opq.KeepO.drewN | apply Go.Proofs.Ytpojfebecmjloaa.Opq.KeepO.drew | apply Go.Proofs.Ytpojfebecmjloaa.Opq.KeepO.alloc) | exact HK.out)))); have n1_ := Aside0.mk (IsS71.below (by repeat (first | (with_reducible first | exact HI0.out | apply IsS71.alloc | apply IsS71.drewN | apply IsS71.drew) | exact HI0.out)) hb); have n2_ := Aside0.mk (Go.Proofs.Ytpojfebecmjloaa.Opq.KeepO.trans (by repeat (first | (with_reducible first | exact HK.out | apply Go.Proofs.Ytpojfebecmjloaa.Opq.KeepO.drewN | apply Go.Proofs.Ytpojfebecmjloaa.Opq.KeepO.drew | apply Go.Proofs.Ytpojfebecmjloaa.Opq.KeepO.alloc) | exact HK.out)) (Go.Proofs.Ytpojfebecmjloaa.Opq.KeepO.of_below hb)); have n3_ := Aside0.mk (below_step (by repeat (first | (with_reducible first | exact HB.out | apply below_alloc | apply pw_below_drewN | apply below_drew1 | refine below_set ?_ (IsS71.ge HI0.out)) | exact HB.out)) hb); clear HI0; clear HK; clear HB; have HO154 := n0_; have HI0 := n1_; have HK := n2_; have HB := n3_; clear n0_ n1_ n2_ n3_; (try clear hb); (try clear hb2); (try clear hk); (try clear hi); (try clear ho0); obtain ⟨Ao8, co8, eo8⟩ := Kd.R_slice HO154.out; subst eo8) | ((with_reducible refine gate_callee (f := 14) rfl ?_); refine goesL_ (some 11) rfl rfl Try.func14 (by kernel_rfl) rfl #[.pointer (some ⟨g, 0, none⟩), .int .i64 (Int.tmod a1 2), .slice Ao8 t152.length co8] rfl (by (try simp only [List.map_toArray, List.map_cons, List.map_nil]); first | done | rfl | (simp only [List.length_drop, List.length_take]; rfl)) ?_; (with_reducible refine (sector_Disk_Write.calls g s0_0 (Int.tmod a1 2) _ _ t152 t155 t156 w0 _ ?side1 ?side2 ?side3 ?side4 A4.out).mono ?_); (case side1 => repeat (first | (with_reducible first | exact HI0.out | apply IsS71.alloc | apply IsS71.drewN | apply IsS71.drew) | exact HI0.out)); (case side2 => repeat (first | (with_reducible first | exact HB.out | apply below_alloc | apply pw_below_drewN | apply below_drew1 | refine below_set ?_ (IsS71.ge HI0.out)) | exact HB.out)); (case side3 => exact Go.Proofs.Ytpojfebecmjloaa.Opq.C_ownR (by (with_reducible repeat (first | apply Kd.R_alloc | apply Kd.R_drewN | apply Kd.R_drew)); exact HO154.out) (by decide)); (case side4 => exact (Kd.R_reads' HO154.out).2.1); rintro e w9 ⟨rfl, hi, hb, hk⟩; refine ⟨_, rfl, ?_⟩; have n0_ := Aside0.mk (Go.Proofs.Ytpojfebecmjloaa.Opq.R_keep (by (with_reducible repeat (first | apply Kd.R_alloc | apply Kd.R_drewN | apply Kd.R_drew)); exact HO154.out) hk (by decide)); have n1_ := Aside0.mk (Go.Proofs.Ytpojfebecmjloaa.Opq.KeepO.trans (by repeat (first | (with_reducible first | exact HK.out | apply Go.Proofs.Ytpojfebecmjloaa.Opq.KeepO.drewN | apply Go.Proofs.Ytpojfebecmjloaa.Opq.KeepO.drew | apply Go.Proofs.Ytpojfebecmjloaa.Opq.KeepO.alloc) | exact HK.out)) hk); have n2_ := Aside0.mk (hb); have n3_ := Aside0.mk (hi); clear HO154; clear HK; clear HB; clear HI0; have HO154 := n0_; have HK := n1_; have HB := n2_; have HI0 := n3_; clear n0_ n1_ n2_ n3_; (try clear hb); (try clear hb2); (try clear hk); (try clear hi)) | ((with_reducible refine gate_callee (f := 21) rfl ?_); refine goesL_ (some 16) rfl rfl Try.func21 (by kernel_rfl) rfl #[.pointer (some ⟨g, 0, none⟩)] rfl (by (try simp only [List.map_toArray, List.map_cons, List.map_nil]); first | done | rfl | (simp only [List.length_drop, List.length_take]; rfl)) ?_; (with_reducible refine (sector_Disk_Flush.calls g t156 t157 t158 w0 _ ?side1 ?side2 A6.out).mono ?_); (case side1 => repeat (first | (with_reducible first | exact HI0.out | apply IsS71.alloc | apply IsS71.drewN | apply IsS71.drew) | exact HI0.out)); (case side2 => repeat (first | (with_reducible first | exact HB.out | apply below_alloc | apply pw_below_drewN | apply below_drew1 | refine below_set ?_ (IsS71.ge HI0.out)) | exact HB.out)); rintro e w10 ⟨rfl, hi, hb, hk⟩; refine ⟨_, rfl, ?_⟩; have n0_ := Aside0.mk (Go.Proofs.Ytpojfebecmjloaa.Opq.R_keep (by (with_reducible repeat (first | apply Kd.R_alloc | apply Kd.R_drewN | apply Kd.R_drew)); exact HO154.out) hk (by decide)); have n1_ := Aside0.mk (Go.Proofs.Ytpojfebecmjloaa.Opq.KeepO.trans (by repeat (first | (with_reducible first | exact HK.out | apply Go.Proofs.Ytpojfebecmjloaa.Opq.KeepO.drewN | apply Go.Proofs.Ytpojfebecmjloaa.Opq.KeepO.drew | apply Go.Proofs.Ytpojfebecmjloaa.Opq.KeepO.alloc) | exact HK.out)) hk); have n2_ := Aside0.mk (hb); have n3_ := Aside0.mk (hi); clear HO154; clear HK; clear HB; clear HI0; have HO154 := n0_; have HK := n1_; have HB := n2_; have HI0 := n3_; clear n0_ n1_ n2_ n3_; (try clear hb); (try clear hb2); (try clear hk); (try clear hi)))
    go_ret
    exact ⟨by first | rfl | (simp [errW_none, errW_some] <;> rfl) | (simp [*, errW_none, errW_some] <;> rfl), by repeat (first | (with_reducible first | exact HI0.out | apply IsS71.alloc | apply IsS71.drewN | apply IsS71.drew) | exact HI0.out), by repeat (first | (with_reducible first | exact HB.out | apply below_alloc | apply pw_below_drewN | apply below_drew1 | refine below_set ?_ (IsS71.ge HI0.out)) | exact HB.out), by repeat (first | (with_reducible first | exact HK.out | apply Go.Proofs.Ytpojfebecmjloaa.Opq.KeepO.drewN | apply Go.Proofs.Ytpojfebecmjloaa.Opq.KeepO.drew | apply Go.Proofs.Ytpojfebecmjloaa.Opq.KeepO.alloc) | exact HK.out)⟩
  · rw [if_neg c5] at H
    have c5b0 : (t155 == 0) = false := beq_eq_false_iff_ne.mpr c5
    have c5b1 : (t155 != 0) = true := bne_iff_ne.mpr c5
    simp only [Option.some.injEq, Prod.mk.injEq] at H
    obtain ⟨rfl, rfl⟩ := H
    go_enter Try.func61, Try.ntmps61
    go_wp2_with (first | ((with_reducible refine gate_callee (f := 69) rfl ?_); refine goesL_ (some 10) rfl rfl Try.func69 (by kernel_rfl) rfl #[.int .i64 a1] rfl (by (try simp only [List.map_toArray, List.map_cons, List.map_nil]); first | done | rfl | (simp only [List.length_drop, List.length_take]; rfl)) ?_; (with_reducible refine (wal_super.calls k a1 t152 _ A3.out).mono ?_); rintro e w11 ⟨v153, rfl, ho0, hb⟩; refine ⟨_, rfl, ?_⟩; have n0_ := Aside0.mk (Kd.R_lower ho0 (Go.Proofs.Ytpojfebecmjloaa.Opq.KeepO.size (by repeat (first | (with_reducible first | exact HK.out | apply Go.Proofs.Ytpojfebecmjloaa.Opq.KeepO.drewN | apply Go.Proofs.Ytpojfebecmjloaa.Opq.KeepO.drew | apply Go.Proofs.Ytpojfebecmjloaa.Opq.KeepO.alloc) | exact HK.out)))); have n1_ := Aside0.mk (IsS71.below (by repeat (first | (with_reducible first | exact HI0.out | apply IsS71.alloc | apply IsS71.drewN | apply IsS71.drew) | exact HI0.out)) hb); have n2_ := Aside0.mk (Go.Proofs.Ytpojfebecmjloaa.Opq.KeepO.trans (by repeat (first | (with_reducible first | exact HK.out | apply Go.Proofs.Ytpojfebecmjloaa.Opq.KeepO.drewN | apply Go.Proofs.Ytpojfebecmjloaa.Opq.KeepO.drew | apply Go.Proofs.Ytpojfebecmjloaa.Opq.KeepO.alloc) | exact HK.out)) (Go.Proofs.Ytpojfebecmjloaa.Opq.KeepO.of_below hb)); have n3_ := Aside0.mk (below_step (by repeat (first | (with_reducible first | exact HB.out | apply below_alloc | apply pw_below_drewN | apply below_drew1 | refine below_set ?_ (IsS71.ge HI0.out)) | exact HB.out)) hb); clear HI0; clear HK; clear HB; have HO154 := n0_; have HI0 := n1_; have HK := n2_; have HB := n3_; clear n0_ n1_ n2_ n3_; (try clear hb); (try clear hb2); (try clear hk); (try clear hi); (try clear ho0); obtain ⟨Ao12, co12, eo12⟩ := Kd.R_slice HO154.out; subst eo12) | ((with_reducible refine gate_callee (f := 14) rfl ?_); refine goesL_ (some 11) rfl rfl Try.func14 (by kernel_rfl) rfl #[.pointer (some ⟨g, 0, none⟩), .int .i64 (Int.tmod a1 2), .slice Ao12 t152.length co12] rfl (by (try simp only [List.map_toArray, List.map_cons, List.map_nil]); first | done | rfl | (simp only [List.length_drop, List.length_take]; rfl)) ?_; (with_reducible refine (sector_Disk_Write.calls g s0_0 (Int.tmod a1 2) _ _ t152 t155 t156 w0 _ ?side1 ?side2 ?side3 ?side4 A4.out).mono ?_); (case side1 => repeat (first | (with_reducible first | exact HI0.out | apply IsS71.alloc | apply IsS71.drewN | apply IsS71.drew) | exact HI0.out)); (case side2 => repeat (first | (with_reducible first | exact HB.out | apply below_alloc | apply pw_below_drewN | apply below_drew1 | refine below_set ?_ (IsS71.ge HI0.out)) | exact HB.out)); (case side3 => exact Go.Proofs.Ytpojfebecmjloaa.Opq.C_ownR (by (with_reducible repeat (first | apply Kd.R_alloc | apply Kd.R_drewN | apply Kd.R_drew)); exact HO154.out) (by decide)); (case side4 => exact (Kd.R_reads' HO154.out).2.1); rintro e w13 ⟨rfl, hi, hb, hk⟩; refine ⟨_, rfl, ?_⟩; have n0_ := Aside0.mk (Go.Proofs.Ytpojfebecmjloaa.Opq.R_keep (by (with_reducible repeat (first | apply Kd.R_alloc | apply Kd.R_drewN | apply Kd.R_drew)); exact HO154.out) hk (by decide)); have n1_ := Aside0.mk (Go.Proofs.Ytpojfebecmjloaa.Opq.KeepO.trans (by repeat (first | (with_reducible first | exact HK.out | apply Go.Proofs.Ytpojfebecmjloaa.Opq.KeepO.drewN | apply Go.Proofs.Ytpojfebecmjloaa.Opq.KeepO.drew | apply Go.Proofs.Ytpojfebecmjloaa.Opq.KeepO.alloc) | exact HK.out)) hk); have n2_ := Aside0.mk (hb); have n3_ := Aside0.mk (hi); clear HO154; clear HK; clear HB; clear HI0; have HO154 := n0_; have HK := n1_; have HB := n2_; have HI0 := n3_; clear n0_ n1_ n2_ n3_; (try clear hb); (try clear hb2); (try clear hk); (try clear hi)))
    go_ret
    exact ⟨by first | rfl | (simp [errW_none, errW_some] <;> rfl) | (simp [*, errW_none, errW_some] <;> rfl), by repeat (first | (with_reducible first | exact HI0.out | apply IsS71.alloc | apply IsS71.drewN | apply IsS71.drew) | exact HI0.out), by repeat (first | (with_reducible first | exact HB.out | apply below_alloc | apply pw_below_drewN | apply below_drew1 | refine below_set ?_ (IsS71.ge HI0.out)) | exact HB.out), by repeat (first | (with_reducible first | exact HK.out | apply Go.Proofs.Ytpojfebecmjloaa.Opq.KeepO.drewN | apply Go.Proofs.Ytpojfebecmjloaa.Opq.KeepO.drew | apply Go.Proofs.Ytpojfebecmjloaa.Opq.KeepO.alloc) | exact HK.out)⟩

/-! ### wal_format: function 57 -/
def wal_format.f (k : Nat) (s0_0 : Disk.DiskM) : Option (Int × Disk.DiskM) := (wal_bounds.f s0_0 1).bind fun bt159 => ((region_Clean.f k bt159.2.2 bt159.1 bt159.2.1).bind fun bt162 => (if bt162.1 = 0 then ((wal_install.f k bt162.2 1).bind fun bt164 => (some (bt164.1, bt164.2))) else (some (bt162.1, bt162.2))))
theorem wal_format.mono : ∀ a0 k, LeO (wal_format.f k a0) (wal_format.f (k + 1) a0) := by
  intro a0 k
  unfold wal_format.f
  repeat' first
      | (with_reducible exact region_Clean.mono _ _ _ _)
      | (with_reducible exact wal_install.mono _ _ _)
      | (with_reducible exact LeO.refl _)
      | (with_reducible exact LeO.none _)
      | (with_reducible refine LeO.ite ?_ ?_)
      | (with_reducible refine LeO.bind ?_ (fun _ => ?_))
      | exact region_Clean.mono _ _ _ _
      | exact wal_install.mono _ _ _
      | exact LeO.none _
      | refine LeO.ite ?_ ?_
      | refine LeO.bind ?_ (fun _ => ?_)
set_option maxHeartbeats 8000000 in
set_option maxRecDepth 100000 in
theorem wal_format.calls (k : Nat) (g : Nat) (s0_0 : Disk.DiskM) (r1 : Int) (r2 : Disk.DiskM) (w0 w : World) (hI : IsS71 w0 w g s0_0) (hB : Below w0.heap.size w0 w) (h : wal_format.f k s0_0 = some (r1, r2)) :
    Calls Try.prog 57 #[.pointer (some ⟨g, 0, none⟩)] w fun e w' => e = .returned (.int .i64 r1) ∧ IsS71 w0 w' g r2 ∧ Below w0.heap.size w0 w' ∧ Go.Proofs.Ytpojfebecmjloaa.Opq.KeepO ts71 w0.heap.size w w' := by
  have HI0 := Aside0.mk hI
  have HK := Aside0.mk (Go.Proofs.Ytpojfebecmjloaa.Opq.KeepO.refl ts71 w0.heap.size w)
  have HL := Aside0.mk hB.size
  clear hI
  have HW0 := Aside0.mk hB.size
  have HB := Aside0.mk hB
  clear hB
  have H : ((wal_bounds.f s0_0 1).bind fun bt159 => ((region_Clean.f k bt159.2.2 bt159.1 bt159.2.1).bind fun bt162 => (if bt162.1 = 0 then ((wal_install.f k bt162.2 1).bind fun bt164 => (some (bt164.1, bt164.2))) else (some (bt162.1, bt162.2))))) = some (r1, r2) := h
  clear h
  replace H := Option.bind_eq_some_iff.mp H
  obtain ⟨⟨t159, t160, t161⟩, A20, H⟩ := H
  replace H : ((region_Clean.f k t161 t159 t160).bind fun bt162 => (if bt162.1 = 0 then ((wal_install.f k bt162.2 1).bind fun bt164 => (some (bt164.1, bt164.2))) else (some (bt162.1, bt162.2)))) = some (r1, r2) := H
  have A2 := Aside0.mk A20
  clear A20
  replace H := Option.bind_eq_some_iff.mp H
  obtain ⟨⟨t162, t163⟩, A30, H⟩ := H
  replace H : (if t162 = 0 then ((wal_install.f k t163 1).bind fun bt164 => (some (bt164.1, bt164.2))) else (some (t162, t163))) = some (r1, r2) := H
  have A3 := Aside0.mk A30
  clear A30
  by_cases c4 : t162 = 0
  · rw [if_pos c4] at H
    have c4b0 : (t162 == 0) = true := beq_iff_eq.mpr c4
    have c4b1 : (t162 != 0) = false := bne_eq_false_iff_eq.mpr c4
    clear c4
    replace H := Option.bind_eq_some_iff.mp H
    obtain ⟨⟨t164, t165⟩, A50, H⟩ := H
    replace H : (some (t164, t165)) = some (r1, r2) := H
    have A5 := Aside0.mk A50
    clear A50
    simp only [Option.some.injEq, Prod.mk.injEq] at H
    obtain ⟨rfl, rfl⟩ := H
    go_enter Try.func57, Try.ntmps57
    go_wp2_with (first | ((with_reducible refine gate_callee (f := 58) rfl ?_); refine goesL_ (some 8) rfl rfl Try.func58 (by kernel_rfl) rfl #[.pointer (some ⟨g, 0, none⟩), .int .i64 1] rfl (by (try simp only [List.map_toArray, List.map_cons, List.map_nil]); first | done | rfl | (simp only [List.length_drop, List.length_take]; rfl)) ?_; (with_reducible refine (wal_bounds.calls g s0_0 1 t159 t160 t161 w0 _ ?side1 ?side2 A2.out).mono ?_); (case side1 => repeat (first | (with_reducible first | exact HI0.out | apply IsS71.alloc | apply IsS71.drewN | apply IsS71.drew) | exact HI0.out)); (case side2 => repeat (first | (with_reducible first | exact HB.out | apply below_alloc | apply pw_below_drewN | apply below_drew1 | refine below_set ?_ (IsS71.ge HI0.out)) | exact HB.out)); rintro e w6 ⟨rfl, hi, hb, hk⟩; refine ⟨_, rfl, ?_⟩; have n0_ := Aside0.mk (Go.Proofs.Ytpojfebecmjloaa.Opq.KeepO.trans (by repeat (first | (with_reducible first | exact HK.out | apply Go.Proofs.Ytpojfebecmjloaa.Opq.KeepO.drewN | apply Go.Proofs.Ytpojfebecmjloaa.Opq.KeepO.drew | apply Go.Proofs.Ytpojfebecmjloaa.Opq.KeepO.alloc) | exact HK.out)) hk); have n1_ := Aside0.mk (hb); have n2_ := Aside0.mk (hi); clear HK; clear HB; clear HI0; have HK := n0_; have HB := n1_; have HI0 := n2_; clear n0_ n1_ n2_; (try clear hb); (try clear hb2); (try clear hk); (try clear hi)) | ((with_reducible refine gate_callee (f := 25) rfl ?_); refine goesL_ (some 14) rfl rfl Try.func25 (by kernel_rfl) rfl #[.pointer (some ⟨g, 0, none⟩), .int .i64 t159, .int .i64 t160] rfl (by (try simp only [List.map_toArray, List.map_cons, List.map_nil]); first | done | rfl | (simp only [List.length_drop, List.length_take]; rfl)) ?_; (with_reducible refine (region_Clean.calls k g t161 t159 t160 t162 t163 w0 _ ?side1 ?side2 A3.out).mono ?_); (case side1 => repeat (first | (with_reducible first | exact HI0.out | apply IsS71.alloc | apply IsS71.drewN | apply IsS71.drew) | exact HI0.out)); (case side2 => repeat (first | (with_reducible first | exact HB.out | apply below_alloc | apply pw_below_drewN | apply below_drew1 | refine below_set ?_ (IsS71.ge HI0.out)) | exact HB.out)); rintro e w7 ⟨rfl, hi, hb, hk⟩; refine ⟨_, rfl, ?_⟩; have n0_ := Aside0.mk (Go.Proofs.Ytpojfebecmjloaa.Opq.KeepO.trans (by repeat (first | (with_reducible first | exact HK.out | apply Go.Proofs.Ytpojfebecmjloaa.Opq.KeepO.drewN | apply Go.Proofs.Ytpojfebecmjloaa.Opq.KeepO.drew | apply Go.Proofs.Ytpojfebecmjloaa.Opq.KeepO.alloc) | exact HK.out)) hk); have n1_ := Aside0.mk (hb); have n2_ := Aside0.mk (hi); clear HK; clear HB; clear HI0; have HK := n0_; have HB := n1_; have HI0 := n2_; clear n0_ n1_ n2_; (try clear hb); (try clear hb2); (try clear hk); (try clear hi)) | ((with_reducible refine gate_callee (f := 61) rfl ?_); refine goesL_ (some 19) rfl rfl Try.func61 (by kernel_rfl) rfl #[.pointer (some ⟨g, 0, none⟩), .int .i64 1] rfl (by (try simp only [List.map_toArray, List.map_cons, List.map_nil]); first | done | rfl | (simp only [List.length_drop, List.length_take]; rfl)) ?_; (with_reducible refine (wal_install.calls k g t163 1 t164 t165 w0 _ ?side1 ?side2 A5.out).mono ?_); (case side1 => repeat (first | (with_reducible first | exact HI0.out | apply IsS71.alloc | apply IsS71.drewN | apply IsS71.drew) | exact HI0.out)); (case side2 => repeat (first | (with_reducible first | exact HB.out | apply below_alloc | apply pw_below_drewN | apply below_drew1 | refine below_set ?_ (IsS71.ge HI0.out)) | exact HB.out)); rintro e w8 ⟨rfl, hi, hb, hk⟩; refine ⟨_, rfl, ?_⟩; have n0_ := Aside0.mk (Go.Proofs.Ytpojfebecmjloaa.Opq.KeepO.trans (by repeat (first | (with_reducible first | exact HK.out | apply Go.Proofs.Ytpojfebecmjloaa.Opq.KeepO.drewN | apply Go.Proofs.Ytpojfebecmjloaa.Opq.KeepO.drew | apply Go.Proofs.Ytpojfebecmjloaa.Opq.KeepO.alloc) | exact HK.out)) hk); have n1_ := Aside0.mk (hb); have n2_ := Aside0.mk (hi); clear HK; clear HB; clear HI0; have HK := n0_; have HB := n1_; have HI0 := n2_; clear n0_ n1_ n2_; (try clear hb); (try clear hb2); (try clear hk); (try clear hi)))
    go_ret
    exact ⟨by first | rfl | (simp [errW_none, errW_some] <;> rfl) | (simp [*, errW_none, errW_some] <;> rfl), by repeat (first | (with_reducible first | exact HI0.out | apply IsS71.alloc | apply IsS71.drewN | apply IsS71.drew) | exact HI0.out), by repeat (first | (with_reducible first | exact HB.out | apply below_alloc | apply pw_below_drewN | apply below_drew1 | refine below_set ?_ (IsS71.ge HI0.out)) | exact HB.out), by repeat (first | (with_reducible first | exact HK.out | apply Go.Proofs.Ytpojfebecmjloaa.Opq.KeepO.drewN | apply Go.Proofs.Ytpojfebecmjloaa.Opq.KeepO.drew | apply Go.Proofs.Ytpojfebecmjloaa.Opq.KeepO.alloc) | exact HK.out)⟩
  · rw [if_neg c4] at H
    have c4b0 : (t162 == 0) = false := beq_eq_false_iff_ne.mpr c4
    have c4b1 : (t162 != 0) = true := bne_iff_ne.mpr c4
    simp only [Option.some.injEq, Prod.mk.injEq] at H
    obtain ⟨rfl, rfl⟩ := H
    go_enter Try.func57, Try.ntmps57
    go_wp2_with (first | ((with_reducible refine gate_callee (f := 58) rfl ?_); refine goesL_ (some 8) rfl rfl Try.func58 (by kernel_rfl) rfl #[.pointer (some ⟨g, 0, none⟩), .int .i64 1] rfl (by (try simp only [List.map_toArray, List.map_cons, List.map_nil]); first | done | rfl | (simp only [List.length_drop, List.length_take]; rfl)) ?_; (with_reducible refine (wal_bounds.calls g s0_0 1 t159 t160 t161 w0 _ ?side1 ?side2 A2.out).mono ?_); (case side1 => repeat (first | (with_reducible first | exact HI0.out | apply IsS71.alloc | apply IsS71.drewN | apply IsS71.drew) | exact HI0.out)); (case side2 => repeat (first | (with_reducible first | exact HB.out | apply below_alloc | apply pw_below_drewN | apply below_drew1 | refine below_set ?_ (IsS71.ge HI0.out)) | exact HB.out)); rintro e w9 ⟨rfl, hi, hb, hk⟩; refine ⟨_, rfl, ?_⟩; have n0_ := Aside0.mk (Go.Proofs.Ytpojfebecmjloaa.Opq.KeepO.trans (by repeat (first | (with_reducible first | exact HK.out | apply Go.Proofs.Ytpojfebecmjloaa.Opq.KeepO.drewN | apply Go.Proofs.Ytpojfebecmjloaa.Opq.KeepO.drew | apply Go.Proofs.Ytpojfebecmjloaa.Opq.KeepO.alloc) | exact HK.out)) hk); have n1_ := Aside0.mk (hb); have n2_ := Aside0.mk (hi); clear HK; clear HB; clear HI0; have HK := n0_; have HB := n1_; have HI0 := n2_; clear n0_ n1_ n2_; (try clear hb); (try clear hb2); (try clear hk); (try clear hi)) | ((with_reducible refine gate_callee (f := 25) rfl ?_); refine goesL_ (some 14) rfl rfl Try.func25 (by kernel_rfl) rfl #[.pointer (some ⟨g, 0, none⟩), .int .i64 t159, .int .i64 t160] rfl (by (try simp only [List.map_toArray, List.map_cons, List.map_nil]); first | done | rfl | (simp only [List.length_drop, List.length_take]; rfl)) ?_; (with_reducible refine (region_Clean.calls k g t161 t159 t160 t162 t163 w0 _ ?side1 ?side2 A3.out).mono ?_); (case side1 => repeat (first | (with_reducible first | exact HI0.out | apply IsS71.alloc | apply IsS71.drewN | apply IsS71.drew) | exact HI0.out)); (case side2 => repeat (first | (with_reducible first | exact HB.out | apply below_alloc | apply pw_below_drewN | apply below_drew1 | refine below_set ?_ (IsS71.ge HI0.out)) | exact HB.out)); rintro e w10 ⟨rfl, hi, hb, hk⟩; refine ⟨_, rfl, ?_⟩; have n0_ := Aside0.mk (Go.Proofs.Ytpojfebecmjloaa.Opq.KeepO.trans (by repeat (first | (with_reducible first | exact HK.out | apply Go.Proofs.Ytpojfebecmjloaa.Opq.KeepO.drewN | apply Go.Proofs.Ytpojfebecmjloaa.Opq.KeepO.drew | apply Go.Proofs.Ytpojfebecmjloaa.Opq.KeepO.alloc) | exact HK.out)) hk); have n1_ := Aside0.mk (hb); have n2_ := Aside0.mk (hi); clear HK; clear HB; clear HI0; have HK := n0_; have HB := n1_; have HI0 := n2_; clear n0_ n1_ n2_; (try clear hb); (try clear hb2); (try clear hk); (try clear hi)))
    go_ret
    exact ⟨by first | rfl | (simp [errW_none, errW_some] <;> rfl) | (simp [*, errW_none, errW_some] <;> rfl), by repeat (first | (with_reducible first | exact HI0.out | apply IsS71.alloc | apply IsS71.drewN | apply IsS71.drew) | exact HI0.out), by repeat (first | (with_reducible first | exact HB.out | apply below_alloc | apply pw_below_drewN | apply below_drew1 | refine below_set ?_ (IsS71.ge HI0.out)) | exact HB.out), by repeat (first | (with_reducible first | exact HK.out | apply Go.Proofs.Ytpojfebecmjloaa.Opq.KeepO.drewN | apply Go.Proofs.Ytpojfebecmjloaa.Opq.KeepO.drew | apply Go.Proofs.Ytpojfebecmjloaa.Opq.KeepO.alloc) | exact HK.out)⟩

-- NOT PRINTED: function 34 (wal_Open)

end Go.Proofs.Ytpojfebecmjloaa.PWalSupers
