-- Lean text by a program of this repo (wip/tools/printx.py), out of Lean's own print of the translation
import Derived.KernelRfl
import Derived.Lib.SlBytesConst
import Derived.Test.YtjaibpphlbddoaaMid
import Derived.Test.YtjaibpphlbddoaaPRegionCleanx0
import Derived.Test.YtjaibpphlbddoaaPRegionCleanx1
import Derived.Test.YtjaibpphlbddoaaPRegionCleanx2
import Derived.Test.YtjaibpphlbddoaaPRegionCleanx3
import Derived.Test.YtjaibpphlbddoaaPRegionCleanx4
namespace Go.Proofs.Ytjaibpphlbddoaa.PRegionClean
open Go.RowKit Go.Proofs.YtjaibpphlbddoaaW.PrintWords Go.Proofs.YtjaibpphlbddoaaW.PrintLast Go.Proofs.YtjaibpphlbddoaaW.PrintMore
attribute [local go_sem] max2_int min2_int max_two min_two max_three min_three max_four min_four   -- for this text's walks alone
set_option linter.unusedVariables false
set_option linter.unusedSimpArgs false

/-! ### region_Scan: function 26 -/
-- FN rounds=1 making=1
-- IMPORT Derived.Test.YtjaibpphlbddoaaMid
def region_Scan.l0 : Nat → Int → Int → Int → List (List Int) → Disk.DiskM → Option ((List (List Int)) × Int × Disk.DiskM)
  | 0, _, _, _, _, _ => none
  | k + 1, x1, x2, x3, x10, x1000 => (region_one.f k x1000 x1 x2 x3).bind fun bt199 => (if bt199.2.1 = true then (if x10.length < 5864062014805 then ((region_Size.f (bt199.1.length : Int)).bind fun t207 => (region_Scan.l0 k (wrap64 (x1 + t207)) x2 x3 (x10 ++ [bt199.1]) bt199.2.2)) else (none)) else (some (x10, x1, bt199.2.2)))
def region_Scan.f (k : Nat) (s0_0 : Disk.DiskM) (a1 : Int) (a2 : Int) (a3 : Int) : Option ((List (List Int)) × Int × Disk.DiskM) := region_Scan.l0 k a1 a2 a3 ([] : List (List Int)) s0_0
theorem region_Scan.mono_l : ∀ k, (∀ y0 y1 y2 y3 y4, LeO (region_Scan.l0 k y0 y1 y2 y3 y4) (region_Scan.l0 (k + 1) y0 y1 y2 y3 y4))
  | 0 => fun _ _ _ _ _ r h => by simp [region_Scan.l0] at h
  | k + 1 => by
    have ih0 := region_Scan.mono_l k
    · intro y0 y1 y2 y3 y4
      unfold region_Scan.l0
      repeat' first
      | (with_reducible exact ih0 _ _ _ _ _)
      | (with_reducible exact region_one.mono _ _ _ _ _)
      | (with_reducible exact LeO.refl _)
      | (with_reducible exact LeO.none _)
      | (with_reducible refine LeO.ite ?_ ?_)
      | (with_reducible refine LeO.bind ?_ (fun _ => ?_))
      | exact ih0 _ _ _ _ _
      | exact region_one.mono _ _ _ _ _
      | exact LeO.none _
      | refine LeO.ite ?_ ?_
      | refine LeO.bind ?_ (fun _ => ?_)
theorem region_Scan.mono : ∀ a0 a1 a2 a3 k, LeO (region_Scan.f k a0 a1 a2 a3) (region_Scan.f (k + 1) a0 a1 a2 a3) := by
  intro a0 a1 a2 a3 k
  have ih0 := region_Scan.mono_l k
  unfold region_Scan.f
  repeat' first
      | (with_reducible exact ih0 _ _ _ _ _)
      | (with_reducible exact region_one.mono _ _ _ _ _)
      | (with_reducible exact LeO.refl _)
      | (with_reducible exact LeO.none _)
      | (with_reducible refine LeO.ite ?_ ?_)
      | (with_reducible refine LeO.bind ?_ (fun _ => ?_))
      | exact ih0 _ _ _ _ _
      | exact region_one.mono _ _ _ _ _
      | exact LeO.none _
      | refine LeO.ite ?_ ?_
      | refine LeO.bind ?_ (fun _ => ?_)
/-- A slice, as an element of a list of slices. -/
def sliceV (p : Option Addr × Nat × Nat) : Value := .slice p.1 p.2.1 p.2.2
theorem sliceV_one (p : Option Addr × Nat × Nat) : (sliceV p).oneCell' = true := rfl
/-- What the elements of a list of slices have. -/
def RowsAt (w : World) (L : List (Option Addr × Nat × Nat)) (r : List (List Int)) : Prop :=
  L.length = r.length ∧ ∀ (j : Nat) p xs, L[j]? = some p → r[j]? = some xs → p.2.1 = xs.length ∧ xs.length ≤ p.2.2 ∧ Lies w p.1 xs
theorem RowsAt.nil (w : World) : RowsAt w [] [] := ⟨rfl, fun j p xs h => by simp at h⟩
theorem RowsAt.keep {w w1 : World} {L : List (Option Addr × Nat × Nat)} {r : List (List Int)} (h : RowsAt w L r) (hk : ∀ (g : Nat) (cur : Array Value), w.heap[g]? = some (.cells cur 5 (0, 0)) → w1.heap[g]? = some (.cells cur 5 (0, 0))) : RowsAt w1 L r :=
  ⟨h.1, fun j p xs h1 h2 => ⟨(h.2 j p xs h1 h2).1, (h.2 j p xs h1 h2).2.1, Lies.keep (h.2 j p xs h1 h2).2.2 hk⟩⟩
theorem RowsAt.keepO {ts : List Nat} {B : Nat} {w w1 : World} {L : List (Option Addr × Nat × Nat)} {r : List (List Int)} (h : RowsAt w L r) (hk : Go.Proofs.Ytjaibpphlbddoaa.Opq.KeepO ts B w w1) (ht : 5 ∉ ts) : RowsAt w1 L r :=
  RowsAt.keep h fun _ _ hb => hk.blk hb ht
theorem RowsAt.below {w w1 : World} {L : List (Option Addr × Nat × Nat)} {r : List (List Int)} (h : RowsAt w L r) (hb : Below w.heap.size w w1) : RowsAt w1 L r :=
  RowsAt.keep h fun _ _ hc => (hb.block _ (blk_lt hc)).trans hc
theorem RowsAt.snoc {w : World} {L : List (Option Addr × Nat × Nat)} {r : List (List Int)} {A : Option Addr} {c : Nat} {xs : List Int} (h : RowsAt w L r) (hc : xs.length ≤ c) (hl : Lies w A xs) : RowsAt w (L ++ [(A, xs.length, c)]) (r ++ [xs]) := by
  refine ⟨by simp [h.1], fun j p ys h1 h2 => ?_⟩
  rcases Nat.lt_trichotomy j L.length with hj | hj | hj
  · rw [List.getElem?_append_left hj] at h1
    rw [List.getElem?_append_left (by rw [← h.1]; exact hj)] at h2
    exact h.2 j p ys h1 h2
  · subst hj
    rw [List.getElem?_append_right (Nat.le_refl _), Nat.sub_self] at h1
    rw [h.1, List.getElem?_append_right (Nat.le_refl _), Nat.sub_self] at h2
    simp only [List.getElem?_cons_zero, Option.some.injEq] at h1 h2
    subst h1 h2
    exact ⟨rfl, hc, hl⟩
  · rw [List.getElem?_eq_none (by simp; omega)] at h1
    cases h1
set_option maxHeartbeats 8000000 in
set_option maxRecDepth 100000 in
open Go.Proofs.Ytjaibpphlbddoaa.Opq in
theorem region_Scan.calls (k : Nat) (g : Nat) (s0_0 : Disk.DiskM) (a1 : Int) (a2 : Int) (a3 : Int) (r1 : List (List Int)) (r2 : Int) (r3 : Disk.DiskM) (w0 w : World) (hI : IsS67 w0 w g s0_0) (hB : Below w0.heap.size w0 w) (h : region_Scan.f k s0_0 a1 a2 a3 = some (r1, r2, r3)) :
    Calls Try.prog 26 #[.pointer (some ⟨g, 0, none⟩), .int .i64 a1, .int .i64 a2, .int .i64 a3] w fun e w' => ∃ (v0_ : Value) (L : List (Option Addr × Nat × Nat)), e = .returned (.tuple #[v0_, .int .i64 r2]) ∧ Kd.R (Kd.scalar sliceV sliceV_one) 22 w' w.heap.size (fun _ => True) v0_ L ∧ RowsAt w' L r1 ∧ IsS67 w0 w' g r3 ∧ Below w0.heap.size w0 w' ∧ KeepO ts67 w0.heap.size w w' := by
  have H := Aside0.mk (show region_Scan.l0 k a1 a2 a3 [] s0_0 = some (r1, r2, r3) from h)
  have HI0 := Aside0.mk hI
  have HB0 := Aside0.mk hB
  have HGE := Aside0.mk hB.size
  clear h hI hB
  go_enter Try.func26, Try.ntmps26
  go_wp2
  go_loopg [1, 10] k (fun kq v1 v10 wr => ∃ (i : Int) (out : List (List Int)) (sk : Disk.DiskM) (L : List (Option Addr × Nat × Nat)), v1 = .int .i64 i ∧ Aside0 (region_Scan.l0 kq i a2 a3 out sk = some (r1, r2, r3)) ∧ Aside0 (kq ≤ k) ∧ Aside0 (Kd.R (Kd.scalar sliceV sliceV_one) 22 wr w.heap.size (fun _ => True) v10 L) ∧ Aside0 (RowsAt wr L out) ∧ Aside0 (IsS67 w0 wr g sk) ∧ Aside0 (Below w0.heap.size w0 wr) ∧ Aside0 (KeepO ts67 w0.heap.size w wr))
  case atStart => exact ⟨a1, [], s0_0, [], rfl, H, ⟨Nat.le_refl _⟩, ⟨Kd.R_nil _ _ _ _ _⟩, ⟨RowsAt.nil _⟩, HI0, HB0, ⟨KeepO.refl _ _ _⟩⟩
  case round =>
    clear H HI0 HB0
    obtain ⟨i, out, sk, L, rfl, H, HQ, HR, HL, HI, HB, HK⟩ := hrel
    have h := H.out
    cases gk with
    | zero => simp [region_Scan.l0] at h
    | succ k3 =>
    simp only [region_Scan.l0] at h
    obtain ⟨⟨b, ok, s9⟩, hone, h⟩ := Option.bind_eq_some_iff.mp h
    have HO := Aside0.mk hone
    clear H hone
    cases ok with
    | false =>
      rw [if_neg (by simp)] at h
      simp only [Option.some.injEq, Prod.mk.injEq] at h
      obtain ⟨rfl, rfl, rfl⟩ := h
      go_wp2_with fail
      refine (region_one.calls k3 g sk i a2 a3 b false s9 w0 wr HI.out HB.out HO.out).mono ?_
      rintro e w5 ⟨Ar, cr, rfl, hcr, hLr, hi5, hb5, hk5⟩
      have HI5 := Aside0.mk hi5
      have HB5 := Aside0.mk hb5
      have HK5 := Aside0.mk (HK.out.trans hk5)
      have HL5 := Aside0.mk (HL.out.keepO hk5 (by decide))
      have HR5 := Aside0.mk (R_keep HR.out hk5 (by decide))
      clear hi5 hb5 hk5 hcr hLr HI HB HK HL HR
      go_wp2
      go_ret2
      exact ⟨_, _, rfl, HR5.out, HL5.out, HI5.out, HB5.out, HK5.out⟩
    | true =>
      rw [if_pos (by rfl)] at h
      by_cases hmax : out.length < 5864062014805
      rotate_left
      · rw [if_neg hmax] at h
        cases h
      rw [if_pos hmax] at h
      obtain ⟨sz, hsz, h⟩ := Option.bind_eq_some_iff.mp h
      have HS := Aside0.mk hsz
      have H := Aside0.mk h
      have HMX := Aside0.mk (show L.length < 5864062014805 by rw [HL.out.1]; exact hmax)
      clear hmax hsz h
      go_wp2_with fail
      refine (region_one.calls k3 g sk i a2 a3 b true s9 w0 wr HI.out HB.out HO.out).mono ?_
      rintro e w5 ⟨Ar, cr, rfl, hcr, hLr, hi5, hb5, hk5⟩
      have HI5 := Aside0.mk hi5
      have HB5 := Aside0.mk hb5
      have HK5 := Aside0.mk (HK.out.trans hk5)
      have HL5 := Aside0.mk ((HL.out.keepO hk5 (by decide)).snoc hcr hLr)
      have HR5 := Aside0.mk (R_keep HR.out hk5 (by decide))
      clear hi5 hb5 hk5 hcr hLr HI HB HK HL HR
      go_wp2_with ((with_reducible refine gate_builtin (b := .append) (xs := #[.tmp 25, .tmp 27]) rfl ?_); at_builtin; refine Kd.R_append (Kd.scalar sliceV sliceV_one) (w0 := w5) (W := w5) w.heap.size rfl (.tmp 25) (.tmp 27) 47 22 (.slice none 0 0) 24 rfl Try.underlying47 (show (Try.prog.info? 22).map (fun i => (i.zero, i.size, i.bytes)) = some (some (.slice none 0 0), 1, 24) from by kernel_rfl) rfl (by decide) (by omega) u10 L (Ar, b.length, cr) [.slice Ar b.length cr] (fun _ => True) (fun _ => False) rfl (by first | rfl | (simp [Act.eval]; done)) ?aP (fun _ hk => hk.elim) (fun _ _ => trivial) HR5.out (Below.refl _ _) HK5.out.size (by have := HMX.out; omega) ?_; (case aP => exact rfl); intro v7 w7 ho hb hg hat; have HR7 := Aside0.mk ho; have HI7 := Aside0.mk (HI5.out.grown hg (NPr.typed (Kd.R_typed HR5.out) (by decide))); have HB7 := Aside0.mk (below_weaken HB5.out (Nat.le_trans HGE.out (Nat.le_refl _)) hb); have HK7 := Aside0.mk (HK5.out.trans3 hg (Kd.R_base2 HR5.out)); have HL7 := Aside0.mk (RowsAt.keep HL5.out (fun g cur hc => (hg.block g (blk_lt hc) (Kd.R_ne HR5.out hc (by decide))).trans hc)); clear ho hb hg hat HR5 HI5 HB5 HK5 HL5)
      refine (region_Size.calls (b.length : Int) sz _ HS.out).mono ?_
      rintro e w8 ⟨rfl, hb8⟩
      have HI8 := Aside0.mk (HI7.out.below hb8)
      have HB8 := Aside0.mk (below_weaken HB7.out HB7.out.size hb8)
      have HK8 := Aside0.mk (HK7.out.below_trans hb8)
      have HL8 := Aside0.mk (HL7.out.below hb8)
      have HR8 := Aside0.mk (Kd.R_below HR7.out hb8)
      clear hb8 HI7 HB7 HK7 HL7 HR7
      go_wp2
      go_roundg k3
      case measure => have := HQ.out; omega
      case rel => exact ⟨wrap64 (i + sz), out ++ [b], s9, _, by go_num, H, ⟨by have := HQ.out; omega⟩, HR8, HL8, HI8, HB8, HK8⟩


/-! ### interregnumlaw03_answers: function 24 -/
-- FN rounds=0 making=1
-- IMPORT Derived.Lib.SlBytesConst
-- IMPORT Derived.KernelRfl
def interregnumlaw03_answers.f : Option Bool := some true
def ans03Lay : Option (Int × Int × Disk.DiskM) := region_Lay.f 600 (Disk.new 6) 1 6 7 [104, 105]
def ans03Disk : Disk.DiskM := (ans03Lay.getD (0, 0, Disk.new 0)).2.2
def ans03Scan : Option (List (List Int) × Int × Disk.DiskM) := region_Scan.f 600 ans03Disk 1 6 7
def ans03Disk2 : Disk.DiskM := (ans03Scan.getD ([], 0, Disk.new 0)).2.2
theorem ans03_new : sector_New.f 6 = some (Disk.new 6) := rfl
theorem ans03_lay : region_Lay.f 600 (Disk.new 6) 1 6 7 [104, 105] = some (3, 0, ans03Disk) := by kernel_rfl
theorem ans03_scan : region_Scan.f 600 ans03Disk 1 6 7 = some ([[104, 105]], 3, ans03Disk2) := by kernel_rfl
theorem ans03_size : region_Size.f 2 = some 2 := by kernel_rfl
theorem ans03_block {w : World} {k : IntKind} {b n : Nat} {t : TypeId} {fr : Nat × Nat} {xs : List Int} (hb : w.heap[b]? = some (.cells (xs.map (Value.int k)).toArray t fr)) (hn : xs.length = n) (hm : xs.length ≤ 9223372036854775807) :
    Kd.C (Kd.int k) w (some ⟨b, 0, none⟩) n xs := by
  refine Kd.C_of_reads (d := 0) ⟨hn, by omega, fun h => ⟨_, rfl, fun j hj => ?_⟩⟩
  have e : (⟨b, 0, none⟩ : Addr).add j = ⟨b, j, none⟩ := by
    unfold Addr.add
    split
    · rename_i h0; rw [h0]
    · simp
  rw [e]
  simp only [World.cell?, hb]
  have hj' : j < xs.length := by omega
  simp [List.getD_eq_getElem?_getD, hj']
set_option maxHeartbeats 4000000 in
set_option maxRecDepth 100000 in
open Go.Proofs.Ytjaibpphlbddoaa.Opq in
theorem interregnumlaw03_answers.calls (r : Bool) (w : World) (h : interregnumlaw03_answers.f = some r) :
    Calls Try.prog 24 #[] w fun e w' => e = .returned (.bool r) ∧ Below w.heap.size w w' := by
  obtain rfl := Option.some.inj h
  clear h
  have HY := Aside0.mk ans03_lay
  have HZ := Aside0.mk ans03_scan
  have kc := fun (w : World) (C : Array Value) (n c : Nat) => Lib.run_convert_bytes_const (P := Try.prog) w 22 5 C n c Try.underlying22 Try.underlying5
  generalize ans03Disk = s2 at HY HZ
  generalize ans03Disk2 = s3 at HZ
  go_enter Try.func24, Try.ntmps24
  go_wp2_with fail
  refine (sector_New.calls 6 (Disk.new 6) w w (Below.refl _ _) ans03_new).mono ?_
  rintro e w1 ⟨g, rfl, hi, hb, _⟩
  have HI := Aside0.mk hi
  have HB := Aside0.mk hb
  clear hi hb
  go_wp2_with fail
  have hb0 := heap_alloc_new w1 (.cells #[.int .u8 104, .int .u8 105] 5 (2, 3))
  refine (region_Lay.calls 600 g (Disk.new 6) 1 6 7 (some ⟨w1.heap.size, 0, none⟩) 2 [104, 105] 3 0 s2 w _ (HI.out.alloc _) (below_weaken HB.out HB.out.size (below_alloc (Below.refl _ _) _))
    (fun W_ hk => ans03_block (t := 5) (fr := (2, 3)) (xs := [104, 105]) ((hk.keep w1.heap.size (by simp) (.inr (fun hp => by rw [hb0] at hp; exact absurd hp (show ¬ (5 ∈ ts67) by decide)))).trans hb0) rfl (by simp)) (by simp) HY.out).mono ?_
  rintro e w2 ⟨rfl, hi, hb, _⟩
  clear hb0 HI HB
  have HI := Aside0.mk hi
  have HB := Aside0.mk hb
  clear hi hb
  go_wp2_with fail
  refine (region_Scan.calls 600 g s2 1 6 7 [[104, 105]] 3 s3 w w2 HI.out HB.out HZ.out).mono ?_
  rintro e w3 ⟨v0, L, rfl, hR, hL, hi, hb, _⟩
  obtain ⟨A1, c1, rfl⟩ := Kd.R_slice hR
  obtain ⟨hle, hat⟩ := hL
  match L, hle, hat, hR with
  | [(A, n, c)], _, hat, hR =>
  obtain ⟨hn, hnc, hlies⟩ := hat 0 _ [104, 105] rfl rfl
  have hC := Lies.C hlies
  dsimp only at hn hnc hC
  obtain rfl : n = 2 := hn
  obtain ⟨_, _, hcl⟩ := Kd.reads_of_C (d := ((none, 0, 0) : Option Addr × Nat × Nat)) (Kd.R_reads' hR).2.2
  obtain ⟨ad, e1, hcell⟩ := hcl (by simp)
  subst e1
  have hc0 : w3.cell? ad = some (.slice A 2 c) := by
    have := hcell 0 (by simp)
    rwa [show ad.add 0 = ad by unfold Addr.add; rfl] at this
  have hcv := Kd.C_string (P := Try.prog) (A := A) (c := c) Try.underlying22 Try.underlying5 Try.underlying9 hC
  rw [show ([104, 105] : List Int).length = 2 from rfl] at hcv
  have hst : ((strOfNums [104, 105]).toList == ([104, 105] : List UInt8)) = true := by kernel_rfl
  clear HI HB kc
  have HI := Aside0.mk hi
  have HB := Aside0.mk hb
  clear hi hb hR hlies hC hcell hcl hat
  go_wp2_with fail
  refine (region_Size.calls 2 2 _ ans03_size).mono ?_
  rintro e w5 ⟨rfl, hb5⟩
  have HB5 := Aside0.mk (below_weaken HB.out HB.out.size hb5)
  clear hb5
  go_wp2
  go_ret
  exact ⟨rfl, HB5.out⟩


/-! ### region_Clean: function 28 -/
def region_Clean.l0 : Nat → Int → Bool → Int → Disk.DiskM → Option (Int × Disk.DiskM)
  | 0, _, _, _, _ => none
  | k + 1, x2, x7, x8, x1000 => (sector_Disk_Len.f x1000).bind fun bt145 => (if x8 < (mn x2 bt145.1) then ((sector_Disk_Read.f bt145.2 x8).bind fun bt149 => ((region_zero.f bt149.1).bind fun t154 => (if t154 = true then (region_Clean.l0 k x2 x7 (wrap64 (x8 + 1)) bt149.2.2) else ((sector_Disk_Write.f bt149.2.2 x8 ([] : List Int)).bind fun bt155 => (if bt155.1 = 0 then (region_Clean.l0 k x2 true (wrap64 (x8 + 1)) bt155.2) else (some (bt155.1, bt155.2))))))) else (if x7 = true then ((sector_Disk_Flush.f bt145.2).bind fun bt147 => (some (bt147.1, bt147.2))) else (some (0, bt145.2))))
def region_Clean.f (k : Nat) (s0_0 : Disk.DiskM) (a1 : Int) (a2 : Int) : Option (Int × Disk.DiskM) := region_Clean.l0 k a2 false (mx a1 0) s0_0
theorem region_Clean.mono_l : ∀ k, (∀ y0 y1 y2 y3, LeO (region_Clean.l0 k y0 y1 y2 y3) (region_Clean.l0 (k + 1) y0 y1 y2 y3))
  | 0 => fun _ _ _ _ r h => by simp [region_Clean.l0] at h
  | k + 1 => by
    have ih0 := region_Clean.mono_l k
    · intro y0 y1 y2 y3
      unfold region_Clean.l0
      repeat' first
      | (with_reducible exact ih0 _ _ _ _)
      | (with_reducible exact LeO.refl _)
      | (with_reducible exact LeO.none _)
      | (with_reducible refine LeO.ite ?_ ?_)
      | (with_reducible refine LeO.bind ?_ (fun _ => ?_))
      | exact ih0 _ _ _ _
      | exact LeO.none _
      | refine LeO.ite ?_ ?_
      | refine LeO.bind ?_ (fun _ => ?_)
theorem region_Clean.mono : ∀ a0 a1 a2 k, LeO (region_Clean.f k a0 a1 a2) (region_Clean.f (k + 1) a0 a1 a2) := by
  intro a0 a1 a2 k
  have ih0 := region_Clean.mono_l k
  unfold region_Clean.f
  repeat' first
      | (with_reducible exact ih0 _ _ _ _)
      | (with_reducible exact LeO.refl _)
      | (with_reducible exact LeO.none _)
      | (with_reducible refine LeO.ite ?_ ?_)
      | (with_reducible refine LeO.bind ?_ (fun _ => ?_))
      | exact ih0 _ _ _ _
      | exact LeO.none _
      | refine LeO.ite ?_ ?_
      | refine LeO.bind ?_ (fun _ => ?_)
set_option maxHeartbeats 8000000 in
set_option maxRecDepth 100000 in
theorem region_Clean.calls (k : Nat) (g : Nat) (s0_0 : Disk.DiskM) (a1 : Int) (a2 : Int) (r1 : Int) (r2 : Disk.DiskM) (w0 w : World) (hI : IsS67 w0 w g s0_0) (hB : Below w0.heap.size w0 w) (h : region_Clean.f k s0_0 a1 a2 = some (r1, r2)) :
    Calls Try.prog 28 #[.pointer (some ⟨g, 0, none⟩), .int .i64 a1, .int .i64 a2] w fun e w' => e = .returned (.int .i64 r1) ∧ IsS67 w0 w' g r2 ∧ Below w0.heap.size w0 w' ∧ Go.Proofs.Ytjaibpphlbddoaa.Opq.KeepO ts67 w0.heap.size w w' := by
  have HI0 := Aside0.mk hI
  have HK := Aside0.mk (Go.Proofs.Ytjaibpphlbddoaa.Opq.KeepO.refl ts67 w0.heap.size w)
  have HL := Aside0.mk hB.size
  clear hI
  have HW0 := Aside0.mk hB.size
  have HB := Aside0.mk hB
  clear hB
  have H : (region_Clean.l0 k a2 false (mx a1 0) s0_0) = some (r1, r2) := h
  clear h
  obtain ⟨ji4, hji4⟩ : ∃ j_ : Int, (mx a1 0) = j_ := ⟨_, rfl⟩
  replace H : (region_Clean.l0 k a2 false ji4 s0_0) = some (r1, r2) := by first | (rw [hji4] at H; exact H) | (simp only [hji4] at H ⊢; exact H)
  (try (have hji4l : 0 ≤ ji4 := by (rw [← hji4]; unfold mx; (repeat' split) <;> omega)))
  (try (have hji4m : 0 ≤ ji4 := by omega))
  have hji4_ : (if a1 < 0 then 0 else a1) = ji4 := hji4
  have H' := Aside0.mk H
  clear H
  go_enter Try.func28, Try.ntmps28
  go_wp2
  go_loopg [7, 8] k (fun kq v7 v8 w' => ∃ (x7_1 : Bool) (x8_1 : Int) (x1000_1 : Disk.DiskM), v7 = .bool x7_1 ∧ v8 = .int .i64 x8_1 ∧ Aside0 (region_Clean.l0 kq a2 x7_1 x8_1 x1000_1 = some (r1, r2)) ∧ Aside0 (kq ≤ k) ∧ Aside0 (IsS67 w0 w' g x1000_1) ∧ Aside0 (Go.Proofs.Ytjaibpphlbddoaa.Opq.KeepO ts67 w0.heap.size w w') ∧ Aside0 (Below w0.heap.size w0 w'))
  case atStart => exact ⟨(false), (ji4), (s0_0), (by first | rfl | (simp; done) | (simp [*]; done)), (by first | rfl | (simp; done) | (simp only [← hji4] <;> (first | rfl | simp)) | (simp [*]; done)), H', ⟨Nat.le_refl _⟩, ⟨by repeat (first | (with_reducible first | exact HI0.out | apply IsS67.alloc | apply IsS67.drewN | apply IsS67.drew) | exact HI0.out)⟩, ⟨by repeat (first | (with_reducible first | exact HK.out | apply Go.Proofs.Ytjaibpphlbddoaa.Opq.KeepO.drewN | apply Go.Proofs.Ytjaibpphlbddoaa.Opq.KeepO.drew | apply Go.Proofs.Ytjaibpphlbddoaa.Opq.KeepO.alloc) | exact HK.out)⟩, ⟨by repeat (first | (with_reducible first | exact HB.out | apply below_alloc | apply pw_below_drewN | apply below_drew1 | refine below_set ?_ (IsS67.ge HI0.out)) | exact HB.out)⟩⟩
  case round =>
    clear H'
    try clear c2
    try clear p2
    obtain ⟨x7_1, x8_1, x1000_1, rfl, rfl, HA, HK1, HI0, HK, HB⟩ := hrel
    cases gk with
    | zero => exact absurd HA.out (by simp [region_Clean.l0])
    | succ k1 =>
      have H := HA.out
      clear HA
      simp only [region_Clean.l0] at H
      replace H := Option.bind_eq_some_iff.mp H
      obtain ⟨⟨t145, t146⟩, A50, H⟩ := H
      replace H : (if x8_1 < (mn a2 t145) then ((sector_Disk_Read.f t146 x8_1).bind fun bt149 => ((region_zero.f bt149.1).bind fun t154 => (if t154 = true then (region_Clean.l0 k1 a2 x7_1 (wrap64 (x8_1 + 1)) bt149.2.2) else ((sector_Disk_Write.f bt149.2.2 x8_1 ([] : List Int)).bind fun bt155 => (if bt155.1 = 0 then (region_Clean.l0 k1 a2 true (wrap64 (x8_1 + 1)) bt155.2) else (some (bt155.1, bt155.2))))))) else (if x7_1 = true then ((sector_Disk_Flush.f t146).bind fun bt147 => (some (bt147.1, bt147.2))) else (some (0, t146)))) = some (r1, r2) := H
      have A5 := Aside0.mk A50
      clear A50
      obtain ⟨ji6, hji6⟩ : ∃ j_ : Int, (mn a2 t145) = j_ := ⟨_, rfl⟩
      replace H : (if x8_1 < (ji6) then ((sector_Disk_Read.f t146 x8_1).bind fun bt149 => ((region_zero.f bt149.1).bind fun t154 => (if t154 = true then (region_Clean.l0 k1 a2 x7_1 (wrap64 (x8_1 + 1)) bt149.2.2) else ((sector_Disk_Write.f bt149.2.2 x8_1 ([] : List Int)).bind fun bt155 => (if bt155.1 = 0 then (region_Clean.l0 k1 a2 true (wrap64 (x8_1 + 1)) bt155.2) else (some (bt155.1, bt155.2))))))) else (if x7_1 = true then ((sector_Disk_Flush.f t146).bind fun bt147 => (some (bt147.1, bt147.2))) else (some (0, t146)))) = some (r1, r2) := by first | (rw [hji6] at H; exact H) | (simp only [hji6] at H ⊢; exact H)
      (try rw [hji6] at A5)
      have hji6_ : (if t145 < a2 then t145 else a2) = ji6 := hji6
      by_cases c7 : x8_1 < (ji6)
      · rw [if_pos c7] at H
        have c7b0 : decide (x8_1 < (ji6)) = true := decide_eq_true c7
        clear c7
        replace H := Option.bind_eq_some_iff.mp H
        obtain ⟨⟨t149, t152, t153⟩, A80, H⟩ := H
        replace H : ((region_zero.f t149).bind fun t154 => (if t154 = true then (region_Clean.l0 k1 a2 x7_1 (wrap64 (x8_1 + 1)) t153) else ((sector_Disk_Write.f t153 x8_1 ([] : List Int)).bind fun bt155 => (if bt155.1 = 0 then (region_Clean.l0 k1 a2 true (wrap64 (x8_1 + 1)) bt155.2) else (some (bt155.1, bt155.2)))))) = some (r1, r2) := H
        have A8 := Aside0.mk A80
        clear A80
        replace H := Option.bind_eq_some_iff.mp H
        obtain ⟨t154, A90, H⟩ := H
        replace H : (if t154 = true then (region_Clean.l0 k1 a2 x7_1 (wrap64 (x8_1 + 1)) t153) else ((sector_Disk_Write.f t153 x8_1 ([] : List Int)).bind fun bt155 => (if bt155.1 = 0 then (region_Clean.l0 k1 a2 true (wrap64 (x8_1 + 1)) bt155.2) else (some (bt155.1, bt155.2))))) = some (r1, r2) := H
        have A9 := Aside0.mk A90
        clear A90
        by_cases c10 : t154 = true
        · subst c10
          have H1 : (region_Clean.l0 k1 a2 x7_1 (wrap64 (x8_1 + 1)) t153) = some (r1, r2) := by rw [if_pos rfl] at H; exact H
          clear H
          have H := H1
          clear H1
          have H' := Aside0.mk H
          clear H
          go_wp2_with (first | ((with_reducible refine gate_callee (f := 23) rfl ?_); refine goesL_ (some 17) rfl rfl Try.func23 (by kernel_rfl) rfl #[.pointer (some ⟨g, 0, none⟩)] rfl (by (try simp only [List.map_toArray, List.map_cons, List.map_nil]); first | done | rfl | (simp only [List.length_drop, List.length_take]; rfl)) ?_; (with_reducible refine (sector_Disk_Len.calls g x1000_1 t145 t146 w0 _ ?side1 ?side2 A5.out).mono ?_); (case side1 => repeat (first | (with_reducible first | exact HI0.out | apply IsS67.alloc | apply IsS67.drewN | apply IsS67.drew) | exact HI0.out)); (case side2 => repeat (first | (with_reducible first | exact HB.out | apply below_alloc | apply pw_below_drewN | apply below_drew1 | refine below_set ?_ (IsS67.ge HI0.out)) | exact HB.out)); rintro e w11 ⟨rfl, hi, hb, hk⟩; refine ⟨_, rfl, ?_⟩; have n0_ := Aside0.mk (Go.Proofs.Ytjaibpphlbddoaa.Opq.KeepO.trans (by repeat (first | (with_reducible first | exact HK.out | apply Go.Proofs.Ytjaibpphlbddoaa.Opq.KeepO.drewN | apply Go.Proofs.Ytjaibpphlbddoaa.Opq.KeepO.drew | apply Go.Proofs.Ytjaibpphlbddoaa.Opq.KeepO.alloc) | exact HK.out)) hk); have n1_ := Aside0.mk (hb); have n2_ := Aside0.mk (hi); clear HK; clear HB; clear HI0; have HK := n0_; have HB := n1_; have HI0 := n2_; clear n0_ n1_ n2_; (try clear hb); (try clear hb2); (try clear hk); (try clear hi)) | ((with_reducible refine gate_callee (f := 16) rfl ?_); refine goesL_ (some 25) rfl rfl Try.func16 (by kernel_rfl) rfl #[.pointer (some ⟨g, 0, none⟩), .int .i64 x8_1] rfl (by (try simp only [List.map_toArray, List.map_cons, List.map_nil]); first | done | rfl | (simp only [List.length_drop, List.length_take]; rfl)) ?_; (with_reducible refine (sector_Disk_Read.calls g t146 x8_1 t149 t152 t153 w0 _ ?side1 ?side2 A8.out).mono ?_); (case side1 => repeat (first | (with_reducible first | exact HI0.out | apply IsS67.alloc | apply IsS67.drewN | apply IsS67.drew) | exact HI0.out)); (case side2 => repeat (first | (with_reducible first | exact HB.out | apply below_alloc | apply pw_below_drewN | apply below_drew1 | refine below_set ?_ (IsS67.ge HI0.out)) | exact HB.out)); rintro e w12 ⟨v150, rfl, ho0, hi, hb, hk⟩; refine ⟨_, rfl, ?_⟩; have n0_ := Aside0.mk (Kd.R_lower ho0 (Go.Proofs.Ytjaibpphlbddoaa.Opq.KeepO.size (by repeat (first | (with_reducible first | exact HK.out | apply Go.Proofs.Ytjaibpphlbddoaa.Opq.KeepO.drewN | apply Go.Proofs.Ytjaibpphlbddoaa.Opq.KeepO.drew | apply Go.Proofs.Ytjaibpphlbddoaa.Opq.KeepO.alloc) | exact HK.out)))); have n1_ := Aside0.mk (Go.Proofs.Ytjaibpphlbddoaa.Opq.KeepO.trans (by repeat (first | (with_reducible first | exact HK.out | apply Go.Proofs.Ytjaibpphlbddoaa.Opq.KeepO.drewN | apply Go.Proofs.Ytjaibpphlbddoaa.Opq.KeepO.drew | apply Go.Proofs.Ytjaibpphlbddoaa.Opq.KeepO.alloc) | exact HK.out)) hk); have n2_ := Aside0.mk (hb); have n3_ := Aside0.mk (hi); clear HK; clear HB; clear HI0; have HO151 := n0_; have HK := n1_; have HB := n2_; have HI0 := n3_; clear n0_ n1_ n2_ n3_; (try clear hb); (try clear hb2); (try clear hk); (try clear hi); (try clear ho0); obtain ⟨Ao13, co13, eo13⟩ := Kd.R_slice HO151.out; subst eo13) | ((with_reducible refine gate_callee (f := 41) rfl ?_); refine goesL_ (some 29) rfl rfl Try.func41 (by kernel_rfl) rfl #[.slice Ao13 t149.length co13] rfl (by (try simp only [List.map_toArray, List.map_cons, List.map_nil]); first | done | rfl | (simp only [List.length_drop, List.length_take]; rfl)) ?_; (with_reducible refine (region_zero.calls _ _ t149 true _ ?side1 ?side2 A9.out).mono ?_); (case side1 => repeat (first | exact (Kd.R_reads' HO151.out).2.2 | (with_reducible refine Kd.C_alloc ?_ _) | (with_reducible refine Kd.C_drewN ?_ _) | (with_reducible refine Kd.C_drew ?_))); (case side2 => exact (Kd.R_reads' HO151.out).2.1); rintro e w14 ⟨rfl, hb⟩; refine ⟨_, rfl, ?_⟩; have n0_ := Aside0.mk (Kd.R_below (by (with_reducible repeat (first | apply Kd.R_alloc | apply Kd.R_drewN | apply Kd.R_drew)); exact HO151.out) hb); have n1_ := Aside0.mk (IsS67.below (by repeat (first | (with_reducible first | exact HI0.out | apply IsS67.alloc | apply IsS67.drewN | apply IsS67.drew) | exact HI0.out)) hb); have n2_ := Aside0.mk (Go.Proofs.Ytjaibpphlbddoaa.Opq.KeepO.trans (by repeat (first | (with_reducible first | exact HK.out | apply Go.Proofs.Ytjaibpphlbddoaa.Opq.KeepO.drewN | apply Go.Proofs.Ytjaibpphlbddoaa.Opq.KeepO.drew | apply Go.Proofs.Ytjaibpphlbddoaa.Opq.KeepO.alloc) | exact HK.out)) (Go.Proofs.Ytjaibpphlbddoaa.Opq.KeepO.of_below hb)); have n3_ := Aside0.mk (below_step (by repeat (first | (with_reducible first | exact HB.out | apply below_alloc | apply pw_below_drewN | apply below_drew1 | refine below_set ?_ (IsS67.ge HI0.out)) | exact HB.out)) hb); clear HO151; clear HI0; clear HK; clear HB; have HO151 := n0_; have HI0 := n1_; have HK := n2_; have HB := n3_; clear n0_ n1_ n2_ n3_; (try clear hb); (try clear hb2); (try clear hk); (try clear hi)))
          go_roundg k1
          case measure => have := HK1.out; omega
          case rel => exact ⟨(x7_1), (wrap64 (x8_1 + 1)), (t153), (by first | rfl | (simp; done) | (simp [*]; done)), (by first | rfl | (simp; done) | (simp [*]; done)), H', ⟨by have := HK1.out; omega⟩, ⟨by repeat (first | (with_reducible first | exact HI0.out | apply IsS67.alloc | apply IsS67.drewN | apply IsS67.drew) | exact HI0.out)⟩, ⟨by repeat (first | (with_reducible first | exact HK.out | apply Go.Proofs.Ytjaibpphlbddoaa.Opq.KeepO.drewN | apply Go.Proofs.Ytjaibpphlbddoaa.Opq.KeepO.drew | apply Go.Proofs.Ytjaibpphlbddoaa.Opq.KeepO.alloc) | exact HK.out)⟩, ⟨by repeat (first | (with_reducible first | exact HB.out | apply below_alloc | apply pw_below_drewN | apply below_drew1 | refine below_set ?_ (IsS67.ge HI0.out)) | exact HB.out)⟩⟩
        · replace c10 := Bool.eq_false_iff.mpr c10
          subst c10
          have H1 : ((sector_Disk_Write.f t153 x8_1 ([] : List Int)).bind fun bt155 => (if bt155.1 = 0 then (region_Clean.l0 k1 a2 true (wrap64 (x8_1 + 1)) bt155.2) else (some (bt155.1, bt155.2)))) = some (r1, r2) := by rw [if_neg (show ¬ (false = true) by decide)] at H; exact H
          clear H
          have H := H1
          clear H1
          replace H := Option.bind_eq_some_iff.mp H
          obtain ⟨⟨t155, t156⟩, A150, H⟩ := H
          replace H : (if t155 = 0 then (region_Clean.l0 k1 a2 true (wrap64 (x8_1 + 1)) t156) else (some (t155, t156))) = some (r1, r2) := H
          have A15 := Aside0.mk A150
          clear A150
          by_cases c16 : t155 = 0
          · rw [if_pos c16] at H
            have c16b0 : (t155 == 0) = true := beq_iff_eq.mpr c16
            have c16b1 : (t155 != 0) = false := bne_eq_false_iff_eq.mpr c16
            clear c16
            have H' := Aside0.mk H
            clear H
            go_wp2_with (first | ((with_reducible refine gate_callee (f := 23) rfl ?_); refine goesL_ (some 17) rfl rfl Try.func23 (by kernel_rfl) rfl #[.pointer (some ⟨g, 0, none⟩)] rfl (by (try simp only [List.map_toArray, List.map_cons, List.map_nil]); first | done | rfl | (simp only [List.length_drop, List.length_take]; rfl)) ?_; (with_reducible refine (sector_Disk_Len.calls g x1000_1 t145 t146 w0 _ ?side1 ?side2 A5.out).mono ?_); (case side1 => repeat (first | (with_reducible first | exact HI0.out | apply IsS67.alloc | apply IsS67.drewN | apply IsS67.drew) | exact HI0.out)); (case side2 => repeat (first | (with_reducible first | exact HB.out | apply below_alloc | apply pw_below_drewN | apply below_drew1 | refine below_set ?_ (IsS67.ge HI0.out)) | exact HB.out)); rintro e w17 ⟨rfl, hi, hb, hk⟩; refine ⟨_, rfl, ?_⟩; have n0_ := Aside0.mk (Go.Proofs.Ytjaibpphlbddoaa.Opq.KeepO.trans (by repeat (first | (with_reducible first | exact HK.out | apply Go.Proofs.Ytjaibpphlbddoaa.Opq.KeepO.drewN | apply Go.Proofs.Ytjaibpphlbddoaa.Opq.KeepO.drew | apply Go.Proofs.Ytjaibpphlbddoaa.Opq.KeepO.alloc) | exact HK.out)) hk); have n1_ := Aside0.mk (hb); have n2_ := Aside0.mk (hi); clear HK; clear HB; clear HI0; have HK := n0_; have HB := n1_; have HI0 := n2_; clear n0_ n1_ n2_; (try clear hb); (try clear hb2); (try clear hk); (try clear hi)) | ((with_reducible refine gate_callee (f := 16) rfl ?_); refine goesL_ (some 25) rfl rfl Try.func16 (by kernel_rfl) rfl #[.pointer (some ⟨g, 0, none⟩), .int .i64 x8_1] rfl (by (try simp only [List.map_toArray, List.map_cons, List.map_nil]); first | done | rfl | (simp only [List.length_drop, List.length_take]; rfl)) ?_; (with_reducible refine (sector_Disk_Read.calls g t146 x8_1 t149 t152 t153 w0 _ ?side1 ?side2 A8.out).mono ?_); (case side1 => repeat (first | (with_reducible first | exact HI0.out | apply IsS67.alloc | apply IsS67.drewN | apply IsS67.drew) | exact HI0.out)); (case side2 => repeat (first | (with_reducible first | exact HB.out | apply below_alloc | apply pw_below_drewN | apply below_drew1 | refine below_set ?_ (IsS67.ge HI0.out)) | exact HB.out)); rintro e w18 ⟨v150, rfl, ho0, hi, hb, hk⟩; refine ⟨_, rfl, ?_⟩; have n0_ := Aside0.mk (Kd.R_lower ho0 (Go.Proofs.Ytjaibpphlbddoaa.Opq.KeepO.size (by repeat (first | (with_reducible first | exact HK.out | apply Go.Proofs.Ytjaibpphlbddoaa.Opq.KeepO.drewN | apply Go.Proofs.Ytjaibpphlbddoaa.Opq.KeepO.drew | apply Go.Proofs.Ytjaibpphlbddoaa.Opq.KeepO.alloc) | exact HK.out)))); have n1_ := Aside0.mk (Go.Proofs.Ytjaibpphlbddoaa.Opq.KeepO.trans (by repeat (first | (with_reducible first | exact HK.out | apply Go.Proofs.Ytjaibpphlbddoaa.Opq.KeepO.drewN | apply Go.Proofs.Ytjaibpphlbddoaa.Opq.KeepO.drew | apply Go.Proofs.Ytjaibpphlbddoaa.Opq.KeepO.alloc) | exact HK.out)) hk); have n2_ := Aside0.mk (hb); have n3_ := Aside0.mk (hi); clear HK; clear HB; clear HI0; have HO151 := n0_; have HK := n1_; have HB := n2_; have HI0 := n3_; clear n0_ n1_ n2_ n3_; (try clear hb); (try clear hb2); (try clear hk); (try clear hi); (try clear ho0); obtain ⟨Ao19, co19, eo19⟩ := Kd.R_slice HO151.out; subst eo19) | ((with_reducible refine gate_callee (f := 41) rfl ?_); refine goesL_ (some 29) rfl rfl Try.func41 (by kernel_rfl) rfl #[.slice Ao19 t149.length co19] rfl (by (try simp only [List.map_toArray, List.map_cons, List.map_nil]); first | done | rfl | (simp only [List.length_drop, List.length_take]; rfl)) ?_; (with_reducible refine (region_zero.calls _ _ t149 false _ ?side1 ?side2 A9.out).mono ?_); (case side1 => repeat (first | exact (Kd.R_reads' HO151.out).2.2 | (with_reducible refine Kd.C_alloc ?_ _) | (with_reducible refine Kd.C_drewN ?_ _) | (with_reducible refine Kd.C_drew ?_))); (case side2 => exact (Kd.R_reads' HO151.out).2.1); rintro e w20 ⟨rfl, hb⟩; refine ⟨_, rfl, ?_⟩; have n0_ := Aside0.mk (Kd.R_below (by (with_reducible repeat (first | apply Kd.R_alloc | apply Kd.R_drewN | apply Kd.R_drew)); exact HO151.out) hb); have n1_ := Aside0.mk (IsS67.below (by repeat (first | (with_reducible first | exact HI0.out | apply IsS67.alloc | apply IsS67.drewN | apply IsS67.drew) | exact HI0.out)) hb); have n2_ := Aside0.mk (Go.Proofs.Ytjaibpphlbddoaa.Opq.KeepO.trans (by repeat (first | (with_reducible first | exact HK.out | apply Go.Proofs.Ytjaibpphlbddoaa.Opq.KeepO.drewN | apply Go.Proofs.Ytjaibpphlbddoaa.Opq.KeepO.drew | apply Go.Proofs.Ytjaibpphlbddoaa.Opq.KeepO.alloc) | exact HK.out)) (Go.Proofs.Ytjaibpphlbddoaa.Opq.KeepO.of_below hb)); have n3_ := Aside0.mk (below_step (by repeat (first | (with_reducible first | exact HB.out | apply below_alloc | apply pw_below_drewN | apply below_drew1 | refine below_set ?_ (IsS67.ge HI0.out)) | exact HB.out)) hb); clear HO151; clear HI0; clear HK; clear HB; have HO151 := n0_; have HI0 := n1_; have HK := n2_; have HB := n3_; clear n0_ n1_ n2_ n3_; (try clear hb); (try clear hb2); (try clear hk); (try clear hi)) | ((with_reducible refine gate_callee (f := 14) rfl ?_); refine goesL_ (some 33) rfl rfl Try.func14 (by kernel_rfl) rfl #[.pointer (some ⟨g, 0, none⟩), .int .i64 x8_1, .slice none 0 0] rfl (by (try simp only [List.map_toArray, List.map_cons, List.map_nil]); first | done | rfl | (simp only [List.length_drop, List.length_take]; rfl)) ?_; (refine (sector_Disk_Write.calls g t153 x8_1 _ _ ([] : List Int) t155 t156 w0 _ ?side1 ?side2 ?side3 ?side4 A15.out).mono ?_); (case side1 => repeat (first | (with_reducible first | exact HI0.out | apply IsS67.alloc | apply IsS67.drewN | apply IsS67.drew) | exact HI0.out)); (case side2 => repeat (first | (with_reducible first | exact HB.out | apply below_alloc | apply pw_below_drewN | apply below_drew1 | refine below_set ?_ (IsS67.ge HI0.out)) | exact HB.out)); (case side3 => exact Go.Proofs.Ytjaibpphlbddoaa.Opq.C_nil); (case side4 => exact Nat.le_refl _); rintro e w21 ⟨rfl, hi, hb, hk⟩; refine ⟨_, rfl, ?_⟩; have n0_ := Aside0.mk (Go.Proofs.Ytjaibpphlbddoaa.Opq.R_keep (by (with_reducible repeat (first | apply Kd.R_alloc | apply Kd.R_drewN | apply Kd.R_drew)); exact HO151.out) hk (by decide)); have n1_ := Aside0.mk (Go.Proofs.Ytjaibpphlbddoaa.Opq.KeepO.trans (by repeat (first | (with_reducible first | exact HK.out | apply Go.Proofs.Ytjaibpphlbddoaa.Opq.KeepO.drewN | apply Go.Proofs.Ytjaibpphlbddoaa.Opq.KeepO.drew | apply Go.Proofs.Ytjaibpphlbddoaa.Opq.KeepO.alloc) | exact HK.out)) hk); have n2_ := Aside0.mk (hb); have n3_ := Aside0.mk (hi); clear HO151; clear HK; clear HB; clear HI0; have HO151 := n0_; have HK := n1_; have HB := n2_; have HI0 := n3_; clear n0_ n1_ n2_ n3_; (try clear hb); (try clear hb2); (try clear hk); (try clear hi)))
            go_roundg k1
            case measure => have := HK1.out; omega
            case rel => exact ⟨(true), (wrap64 (x8_1 + 1)), (t156), (by first | rfl | (simp; done) | (simp [*]; done)), (by first | rfl | (simp; done) | (simp [*]; done)), H', ⟨by have := HK1.out; omega⟩, ⟨by repeat (first | (with_reducible first | exact HI0.out | apply IsS67.alloc | apply IsS67.drewN | apply IsS67.drew) | exact HI0.out)⟩, ⟨by repeat (first | (with_reducible first | exact HK.out | apply Go.Proofs.Ytjaibpphlbddoaa.Opq.KeepO.drewN | apply Go.Proofs.Ytjaibpphlbddoaa.Opq.KeepO.drew | apply Go.Proofs.Ytjaibpphlbddoaa.Opq.KeepO.alloc) | exact HK.out)⟩, ⟨by repeat (first | (with_reducible first | exact HB.out | apply below_alloc | apply pw_below_drewN | apply below_drew1 | refine below_set ?_ (IsS67.ge HI0.out)) | exact HB.out)⟩⟩
          · rw [if_neg c16] at H
            have c16b0 : (t155 == 0) = false := beq_eq_false_iff_ne.mpr c16
            have c16b1 : (t155 != 0) = true := bne_iff_ne.mpr c16
            simp only [Option.some.injEq, Prod.mk.injEq] at H
            obtain ⟨rfl, rfl⟩ := H
            go_wp2_with (first | ((with_reducible refine gate_callee (f := 23) rfl ?_); refine goesL_ (some 17) rfl rfl Try.func23 (by kernel_rfl) rfl #[.pointer (some ⟨g, 0, none⟩)] rfl (by (try simp only [List.map_toArray, List.map_cons, List.map_nil]); first | done | rfl | (simp only [List.length_drop, List.length_take]; rfl)) ?_; (with_reducible refine (sector_Disk_Len.calls g x1000_1 t145 t146 w0 _ ?side1 ?side2 A5.out).mono ?_); (case side1 => repeat (first | (with_reducible first | exact HI0.out | apply IsS67.alloc | apply IsS67.drewN | apply IsS67.drew) | exact HI0.out)); (case side2 => repeat (first | (with_reducible first | exact HB.out | apply below_alloc | apply pw_below_drewN | apply below_drew1 | refine below_set ?_ (IsS67.ge HI0.out)) | exact HB.out)); rintro e w22 ⟨rfl, hi, hb, hk⟩; refine ⟨_, rfl, ?_⟩; have n0_ := Aside0.mk (Go.Proofs.Ytjaibpphlbddoaa.Opq.KeepO.trans (by repeat (first | (with_reducible first | exact HK.out | apply Go.Proofs.Ytjaibpphlbddoaa.Opq.KeepO.drewN | apply Go.Proofs.Ytjaibpphlbddoaa.Opq.KeepO.drew | apply Go.Proofs.Ytjaibpphlbddoaa.Opq.KeepO.alloc) | exact HK.out)) hk); have n1_ := Aside0.mk (hb); have n2_ := Aside0.mk (hi); clear HK; clear HB; clear HI0; have HK := n0_; have HB := n1_; have HI0 := n2_; clear n0_ n1_ n2_; (try clear hb); (try clear hb2); (try clear hk); (try clear hi)) | ((with_reducible refine gate_callee (f := 16) rfl ?_); refine goesL_ (some 25) rfl rfl Try.func16 (by kernel_rfl) rfl #[.pointer (some ⟨g, 0, none⟩), .int .i64 x8_1] rfl (by (try simp only [List.map_toArray, List.map_cons, List.map_nil]); first | done | rfl | (simp only [List.length_drop, List.length_take]; rfl)) ?_; (with_reducible refine (sector_Disk_Read.calls g t146 x8_1 t149 t152 t153 w0 _ ?side1 ?side2 A8.out).mono ?_); (case side1 => repeat (first | (with_reducible first | exact HI0.out | apply IsS67.alloc | apply IsS67.drewN | apply IsS67.drew) | exact HI0.out)); (case side2 => repeat (first | (with_reducible first | exact HB.out | apply below_alloc | apply pw_below_drewN | apply below_drew1 | refine below_set ?_ (IsS67.ge HI0.out)) | exact HB.out)); rintro e w23 ⟨v150, rfl, ho0, hi, hb, hk⟩; refine ⟨_, rfl, ?_⟩; have n0_ := Aside0.mk (Kd.R_lower ho0 (Go.Proofs.Ytjaibpphlbddoaa.Opq.KeepO.size (by repeat (first | (with_reducible first | exact HK.out | apply Go.Proofs.Ytjaibpphlbddoaa.Opq.KeepO.drewN | apply Go.Proofs.Ytjaibpphlbddoaa.Opq.KeepO.drew | apply Go.Proofs.Ytjaibpphlbddoaa.Opq.KeepO.alloc) | exact HK.out)))); have n1_ := Aside0.mk (Go.Proofs.Ytjaibpphlbddoaa.Opq.KeepO.trans (by repeat (first | (with_reducible first | exact HK.out | apply Go.Proofs.Ytjaibpphlbddoaa.Opq.KeepO.drewN | apply Go.Proofs.Ytjaibpphlbddoaa.Opq.KeepO.drew | apply Go.Proofs.Ytjaibpphlbddoaa.Opq.KeepO.alloc) | exact HK.out)) hk); have n2_ := Aside0.mk (hb); have n3_ := Aside0.mk (hi); clear HK; clear HB; clear HI0; have HO151 := n0_; have HK := n1_; have HB := n2_; have HI0 := n3_; clear n0_ n1_ n2_ n3_; (try clear hb); (try clear hb2); (try clear hk); (try clear hi); (try clear ho0); obtain ⟨Ao24, co24, eo24⟩ := Kd.R_slice HO151.out; subst eo24) | ((with_reducible refine gate_callee (f := 41) rfl ?_); refine goesL_ (some 29) rfl rfl Try.func41 (by kernel_rfl) rfl #[.slice Ao24 t149.length co24] rfl (by (try simp only [List.map_toArray, List.map_cons, List.map_nil]); first | done | rfl | (simp only [List.length_drop, List.length_take]; rfl)) ?_; (with_reducible refine (region_zero.calls _ _ t149 false _ ?side1 ?side2 A9.out).mono ?_); (case side1 => repeat (first | exact (Kd.R_reads' HO151.out).2.2 | (with_reducible refine Kd.C_alloc ?_ _) | (with_reducible refine Kd.C_drewN ?_ _) | (with_reducible refine Kd.C_drew ?_))); (case side2 => exact (Kd.R_reads' HO151.out).2.1); rintro e w25 ⟨rfl, hb⟩; refine ⟨_, rfl, ?_⟩; have n0_ := Aside0.mk (Kd.R_below (by (with_reducible repeat (first | apply Kd.R_alloc | apply Kd.R_drewN | apply Kd.R_drew)); exact HO151.out) hb); have n1_ := Aside0.mk (IsS67.below (by repeat (first | (with_reducible first | exact HI0.out | apply IsS67.alloc | apply IsS67.drewN | apply IsS67.drew) | exact HI0.out)) hb); have n2_ := Aside0.mk (Go.Proofs.Ytjaibpphlbddoaa.Opq.KeepO.trans (by repeat (first | (with_reducible first | exact HK.out | apply Go.Proofs.Ytjaibpphlbddoaa.Opq.KeepO.drewN | apply Go.Proofs.Ytjaibpphlbddoaa.Opq.KeepO.drew | apply Go.Proofs.Ytjaibpphlbddoaa.Opq.KeepO.alloc) | exact HK.out)) (Go.Proofs.Ytjaibpphlbddoaa.Opq.KeepO.of_below hb)); have n3_ := Aside0.mk (below_step (by repeat (first | (with_reducible first | exact HB.out | apply below_alloc | apply pw_below_drewN | apply below_drew1 | refine below_set ?_ (IsS67.ge HI0.out)) | exact HB.out)) hb); clear HO151; clear HI0; clear HK; clear HB; have HO151 := n0_; have HI0 := n1_; have HK := n2_; have HB := n3_; clear n0_ n1_ n2_ n3_; (try clear hb); (try clear hb2); (try clear hk); (try clear hi)) | ((with_reducible refine gate_callee (f := 14) rfl ?_); refine goesL_ (some 33) rfl rfl Try.func14 (by kernel_rfl) rfl #[.pointer (some ⟨g, 0, none⟩), .int .i64 x8_1, .slice none 0 0] rfl (by (try simp only [List.map_toArray, List.map_cons, List.map_nil]); first | done | rfl | (simp only [List.length_drop, List.length_take]; rfl)) ?_; (refine (sector_Disk_Write.calls g t153 x8_1 _ _ ([] : List Int) t155 t156 w0 _ ?side1 ?side2 ?side3 ?side4 A15.out).mono ?_); (case side1 => repeat (first | (with_reducible first | exact HI0.out | apply IsS67.alloc | apply IsS67.drewN | apply IsS67.drew) | exact HI0.out)); (case side2 => repeat (first | (with_reducible first | exact HB.out | apply below_alloc | apply pw_below_drewN | apply below_drew1 | refine below_set ?_ (IsS67.ge HI0.out)) | exact HB.out)); (case side3 => exact Go.Proofs.Ytjaibpphlbddoaa.Opq.C_nil); (case side4 => exact Nat.le_refl _); rintro e w26 ⟨rfl, hi, hb, hk⟩; refine ⟨_, rfl, ?_⟩; have n0_ := Aside0.mk (Go.Proofs.Ytjaibpphlbddoaa.Opq.R_keep (by (with_reducible repeat (first | apply Kd.R_alloc | apply Kd.R_drewN | apply Kd.R_drew)); exact HO151.out) hk (by decide)); have n1_ := Aside0.mk (Go.Proofs.Ytjaibpphlbddoaa.Opq.KeepO.trans (by repeat (first | (with_reducible first | exact HK.out | apply Go.Proofs.Ytjaibpphlbddoaa.Opq.KeepO.drewN | apply Go.Proofs.Ytjaibpphlbddoaa.Opq.KeepO.drew | apply Go.Proofs.Ytjaibpphlbddoaa.Opq.KeepO.alloc) | exact HK.out)) hk); have n2_ := Aside0.mk (hb); have n3_ := Aside0.mk (hi); clear HO151; clear HK; clear HB; clear HI0; have HO151 := n0_; have HK := n1_; have HB := n2_; have HI0 := n3_; clear n0_ n1_ n2_ n3_; (try clear hb); (try clear hb2); (try clear hk); (try clear hi)))
            go_ret
            exact ⟨by first | rfl | (simp [errW_none, errW_some] <;> rfl) | (simp only [← hji4, ← hji6]; first | rfl | (simp [errW_none, errW_some] <;> rfl)) | (simp [*, errW_none, errW_some] <;> rfl), by repeat (first | (with_reducible first | exact HI0.out | apply IsS67.alloc | apply IsS67.drewN | apply IsS67.drew) | exact HI0.out), by repeat (first | (with_reducible first | exact HB.out | apply below_alloc | apply pw_below_drewN | apply below_drew1 | refine below_set ?_ (IsS67.ge HI0.out)) | exact HB.out), by repeat (first | (with_reducible first | exact HK.out | apply Go.Proofs.Ytjaibpphlbddoaa.Opq.KeepO.drewN | apply Go.Proofs.Ytjaibpphlbddoaa.Opq.KeepO.drew | apply Go.Proofs.Ytjaibpphlbddoaa.Opq.KeepO.alloc) | exact HK.out)⟩
      · rw [if_neg c7] at H
        have c7b0 : decide (x8_1 < (ji6)) = false := decide_eq_false c7
        clear c7
        by_cases c27 : x7_1 = true
        · subst c27
          have H1 : ((sector_Disk_Flush.f t146).bind fun bt147 => (some (bt147.1, bt147.2))) = some (r1, r2) := by rw [if_pos rfl] at H; exact H
          clear H
          have H := H1
          clear H1
          replace H := Option.bind_eq_some_iff.mp H
          obtain ⟨⟨t147, t148⟩, A280, H⟩ := H
          replace H : (some (t147, t148)) = some (r1, r2) := H
          have A28 := Aside0.mk A280
          clear A280
          simp only [Option.some.injEq, Prod.mk.injEq] at H
          obtain ⟨rfl, rfl⟩ := H
          go_wp2_with (first | ((with_reducible refine gate_callee (f := 23) rfl ?_); refine goesL_ (some 17) rfl rfl Try.func23 (by kernel_rfl) rfl #[.pointer (some ⟨g, 0, none⟩)] rfl (by (try simp only [List.map_toArray, List.map_cons, List.map_nil]); first | done | rfl | (simp only [List.length_drop, List.length_take]; rfl)) ?_; (with_reducible refine (sector_Disk_Len.calls g x1000_1 t145 t146 w0 _ ?side1 ?side2 A5.out).mono ?_); (case side1 => repeat (first | (with_reducible first | exact HI0.out | apply IsS67.alloc | apply IsS67.drewN | apply IsS67.drew) | exact HI0.out)); (case side2 => repeat (first | (with_reducible first | exact HB.out | apply below_alloc | apply pw_below_drewN | apply below_drew1 | refine below_set ?_ (IsS67.ge HI0.out)) | exact HB.out)); rintro e w29 ⟨rfl, hi, hb, hk⟩; refine ⟨_, rfl, ?_⟩; have n0_ := Aside0.mk (Go.Proofs.Ytjaibpphlbddoaa.Opq.KeepO.trans (by repeat (first | (with_reducible first | exact HK.out | apply Go.Proofs.Ytjaibpphlbddoaa.Opq.KeepO.drewN | apply Go.Proofs.Ytjaibpphlbddoaa.Opq.KeepO.drew | apply Go.Proofs.Ytjaibpphlbddoaa.Opq.KeepO.alloc) | exact HK.out)) hk); have n1_ := Aside0.mk (hb); have n2_ := Aside0.mk (hi); clear HK; clear HB; clear HI0; have HK := n0_; have HB := n1_; have HI0 := n2_; clear n0_ n1_ n2_; (try clear hb); (try clear hb2); (try clear hk); (try clear hi)) | ((with_reducible refine gate_callee (f := 19) rfl ?_); refine goesL_ (some 40) rfl rfl Try.func19 (by kernel_rfl) rfl #[.pointer (some ⟨g, 0, none⟩)] rfl (by (try simp only [List.map_toArray, List.map_cons, List.map_nil]); first | done | rfl | (simp only [List.length_drop, List.length_take]; rfl)) ?_; (with_reducible refine (sector_Disk_Flush.calls g t146 t147 t148 w0 _ ?side1 ?side2 A28.out).mono ?_); (case side1 => repeat (first | (with_reducible first | exact HI0.out | apply IsS67.alloc | apply IsS67.drewN | apply IsS67.drew) | exact HI0.out)); (case side2 => repeat (first | (with_reducible first | exact HB.out | apply below_alloc | apply pw_below_drewN | apply below_drew1 | refine below_set ?_ (IsS67.ge HI0.out)) | exact HB.out)); rintro e w30 ⟨rfl, hi, hb, hk⟩; refine ⟨_, rfl, ?_⟩; have n0_ := Aside0.mk (Go.Proofs.Ytjaibpphlbddoaa.Opq.KeepO.trans (by repeat (first | (with_reducible first | exact HK.out | apply Go.Proofs.Ytjaibpphlbddoaa.Opq.KeepO.drewN | apply Go.Proofs.Ytjaibpphlbddoaa.Opq.KeepO.drew | apply Go.Proofs.Ytjaibpphlbddoaa.Opq.KeepO.alloc) | exact HK.out)) hk); have n1_ := Aside0.mk (hb); have n2_ := Aside0.mk (hi); clear HK; clear HB; clear HI0; have HK := n0_; have HB := n1_; have HI0 := n2_; clear n0_ n1_ n2_; (try clear hb); (try clear hb2); (try clear hk); (try clear hi)))
          go_ret
          exact ⟨by first | rfl | (simp [errW_none, errW_some] <;> rfl) | (simp only [← hji4, ← hji6]; first | rfl | (simp [errW_none, errW_some] <;> rfl)) | (simp [*, errW_none, errW_some] <;> rfl), by repeat (first | (with_reducible first | exact HI0.out | apply IsS67.alloc | apply IsS67.drewN | apply IsS67.drew) | exact HI0.out), by repeat (first | (with_reducible first | exact HB.out | apply below_alloc | apply pw_below_drewN | apply below_drew1 | refine below_set ?_ (IsS67.ge HI0.out)) | exact HB.out), by repeat (first | (with_reducible first | exact HK.out | apply Go.Proofs.Ytjaibpphlbddoaa.Opq.KeepO.drewN | apply Go.Proofs.Ytjaibpphlbddoaa.Opq.KeepO.drew | apply Go.Proofs.Ytjaibpphlbddoaa.Opq.KeepO.alloc) | exact HK.out)⟩
        · replace c27 := Bool.eq_false_iff.mpr c27
          subst c27
          have H1 : (some (0, t146)) = some (r1, r2) := by rw [if_neg (show ¬ (false = true) by decide)] at H; exact H
          clear H
          have H := H1
          clear H1
          simp only [Option.some.injEq, Prod.mk.injEq] at H
          obtain ⟨rfl, rfl⟩ := H
          go_wp2_with (first | ((with_reducible refine gate_callee (f := 23) rfl ?_); refine goesL_ (some 17) rfl rfl Try.func23 (by kernel_rfl) rfl #[.pointer (some ⟨g, 0, none⟩)] rfl (by (try simp only [List.map_toArray, List.map_cons, List.map_nil]); first | done | rfl | (simp only [List.length_drop, List.length_take]; rfl)) ?_; (with_reducible refine (sector_Disk_Len.calls g x1000_1 t145 t146 w0 _ ?side1 ?side2 A5.out).mono ?_); (case side1 => repeat (first | (with_reducible first | exact HI0.out | apply IsS67.alloc | apply IsS67.drewN | apply IsS67.drew) | exact HI0.out)); (case side2 => repeat (first | (with_reducible first | exact HB.out | apply below_alloc | apply pw_below_drewN | apply below_drew1 | refine below_set ?_ (IsS67.ge HI0.out)) | exact HB.out)); rintro e w31 ⟨rfl, hi, hb, hk⟩; refine ⟨_, rfl, ?_⟩; have n0_ := Aside0.mk (Go.Proofs.Ytjaibpphlbddoaa.Opq.KeepO.trans (by repeat (first | (with_reducible first | exact HK.out | apply Go.Proofs.Ytjaibpphlbddoaa.Opq.KeepO.drewN | apply Go.Proofs.Ytjaibpphlbddoaa.Opq.KeepO.drew | apply Go.Proofs.Ytjaibpphlbddoaa.Opq.KeepO.alloc) | exact HK.out)) hk); have n1_ := Aside0.mk (hb); have n2_ := Aside0.mk (hi); clear HK; clear HB; clear HI0; have HK := n0_; have HB := n1_; have HI0 := n2_; clear n0_ n1_ n2_; (try clear hb); (try clear hb2); (try clear hk); (try clear hi)))
          go_ret
          exact ⟨by first | rfl | (simp [errW_none, errW_some] <;> rfl) | (simp only [← hji4, ← hji6]; first | rfl | (simp [errW_none, errW_some] <;> rfl)) | (simp [*, errW_none, errW_some] <;> rfl), by repeat (first | (with_reducible first | exact HI0.out | apply IsS67.alloc | apply IsS67.drewN | apply IsS67.drew) | exact HI0.out), by repeat (first | (with_reducible first | exact HB.out | apply below_alloc | apply pw_below_drewN | apply below_drew1 | refine below_set ?_ (IsS67.ge HI0.out)) | exact HB.out), by repeat (first | (with_reducible first | exact HK.out | apply Go.Proofs.Ytjaibpphlbddoaa.Opq.KeepO.drewN | apply Go.Proofs.Ytjaibpphlbddoaa.Opq.KeepO.drew | apply Go.Proofs.Ytjaibpphlbddoaa.Opq.KeepO.alloc) | exact HK.out)⟩

/-! ### interregnumlaw03_RegionClean: function 9 -/
mutual
def interregnumlaw03_RegionClean.l0 : Nat → Int → Int → Int → Disk.DiskM → Option (Bool)
  | 0, _, _, _, _ => none
  | k + 1, x1, x2, x8, x160000 => if x8 < 20 then ((sector_Disk_Write.f x160000 x8 (([(wrap64 (x8 + 1)) % 256] : List Int))).bind fun bt163 => (interregnumlaw03_RegionClean.l0 k x1 x2 (wrap64 (x8 + 1)) bt163.2)) else ((sector_Disk_Flush.f x160000).bind fun bt165 => ((region_Clean.f k bt165.2 (wrap64 (Int.tmod x1 24)) (wrap64 (Int.tmod x2 24))).bind fun bt167 => (interregnumlaw03_RegionClean.l1 k (wrap64 (Int.tmod x1 24)) (wrap64 (Int.tmod x2 24)) bt167.1 0 bt167.2)))
def interregnumlaw03_RegionClean.l1 : Nat → Int → Int → Int → Int → Disk.DiskM → Option (Bool)
  | 0, _, _, _, _, _ => none
  | k + 1, x9, x10, x11, x12, x160000 => if x12 < 20 then ((sector_Disk_Lasts.f x160000 x12).bind fun bt172 => ((interregnumref01_Fill.f (([(wrap64 (x12 + 1)) % 256] : List Int))).bind fun t180 => (if x12 ≥ x9 then (interregnumlaw03_RegionClean.j2 k x9 x10 x11 x12 bt172.1 t180 (decide (x12 < x10)) bt172.2.2) else (interregnumlaw03_RegionClean.j2 k x9 x10 x11 x12 bt172.1 t180 false bt172.2.2)))) else ((interregnumlaw03_answers.f).bind fun t169 => (if t169 = true then (if x11 = 0 then ((sector_Disk_Loose.f x160000).bind fun bt170 => (some (bt170.1 == 0))) else (some false)) else (some false)))
def interregnumlaw03_RegionClean.j2 : Nat → Int → Int → Int → Int → List Int → List Int → Bool → Disk.DiskM → Option (Bool)
  | 0, _, _, _, _, _, _, _, _ => none
  | k + 1, x9, x10, x11, x12, x13, x15, x66, x160000 => if x66 = true then ((interregnumref01_Fill.f ([] : List Int)).bind fun t183 => ((interregnumref01_Same.f k x13 t183).bind fun t186 => (if t186 = true then (interregnumlaw03_RegionClean.l1 k x9 x10 x11 (wrap64 (x12 + 1)) x160000) else (some false)))) else ((interregnumref01_Same.f k x13 x15).bind fun t187 => (if t187 = true then (interregnumlaw03_RegionClean.l1 k x9 x10 x11 (wrap64 (x12 + 1)) x160000) else (some false)))
end
def interregnumlaw03_RegionClean.f (k : Nat) (l0 : List Int) (a1 : Int) (a2 : Int) : Option (Bool) := if (l0.length : Int) > 300 then ((interregnumlaw03_answers.f).bind fun t157 => (some t157)) else ((sector_New.f 20).bind fun t158 => (interregnumlaw03_RegionClean.l0 k a1 a2 0 t158))
theorem interregnumlaw03_RegionClean.mono_l : ∀ k, (∀ y0 y1 y2 y3, LeO (interregnumlaw03_RegionClean.l0 k y0 y1 y2 y3) (interregnumlaw03_RegionClean.l0 (k + 1) y0 y1 y2 y3)) ∧ (∀ y0 y1 y2 y3 y4, LeO (interregnumlaw03_RegionClean.l1 k y0 y1 y2 y3 y4) (interregnumlaw03_RegionClean.l1 (k + 1) y0 y1 y2 y3 y4)) ∧ (∀ y0 y1 y2 y3 y4 y5 y6 y7, LeO (interregnumlaw03_RegionClean.j2 k y0 y1 y2 y3 y4 y5 y6 y7) (interregnumlaw03_RegionClean.j2 (k + 1) y0 y1 y2 y3 y4 y5 y6 y7))
  | 0 => ⟨fun _ _ _ _ r h => by simp [interregnumlaw03_RegionClean.l0] at h, fun _ _ _ _ _ r h => by simp [interregnumlaw03_RegionClean.l1] at h, fun _ _ _ _ _ _ _ _ r h => by simp [interregnumlaw03_RegionClean.j2] at h⟩
  | k + 1 => by
    obtain ⟨ih0, ih1, ih2⟩ := interregnumlaw03_RegionClean.mono_l k
    refine ⟨?_, ?_, ?_⟩
    · intro y0 y1 y2 y3
      unfold interregnumlaw03_RegionClean.l0
      repeat' first
      | (with_reducible exact ih0 _ _ _ _)
      | (with_reducible exact ih1 _ _ _ _ _)
      | (with_reducible exact ih2 _ _ _ _ _ _ _ _)
      | (with_reducible exact interregnumref01_Same.mono _ _ _)
      | (with_reducible exact region_Clean.mono _ _ _ _)
      | (with_reducible exact LeO.refl _)
      | (with_reducible exact LeO.none _)
      | (with_reducible refine LeO.ite ?_ ?_)
      | (with_reducible refine LeO.bind ?_ (fun _ => ?_))
      | exact ih0 _ _ _ _
      | exact ih1 _ _ _ _ _
      | exact ih2 _ _ _ _ _ _ _ _
      | exact interregnumref01_Same.mono _ _ _
      | exact region_Clean.mono _ _ _ _
      | exact LeO.none _
      | refine LeO.ite ?_ ?_
      | refine LeO.bind ?_ (fun _ => ?_)
    · intro y0 y1 y2 y3 y4
      unfold interregnumlaw03_RegionClean.l1
      repeat' first
      | (with_reducible exact ih0 _ _ _ _)
      | (with_reducible exact ih1 _ _ _ _ _)
      | (with_reducible exact ih2 _ _ _ _ _ _ _ _)
      | (with_reducible exact interregnumref01_Same.mono _ _ _)
      | (with_reducible exact region_Clean.mono _ _ _ _)
      | (with_reducible exact LeO.refl _)
      | (with_reducible exact LeO.none _)
      | (with_reducible refine LeO.ite ?_ ?_)
      | (with_reducible refine LeO.bind ?_ (fun _ => ?_))
      | exact ih0 _ _ _ _
      | exact ih1 _ _ _ _ _
      | exact ih2 _ _ _ _ _ _ _ _
      | exact interregnumref01_Same.mono _ _ _
      | exact region_Clean.mono _ _ _ _
      | exact LeO.none _
      | refine LeO.ite ?_ ?_
      | refine LeO.bind ?_ (fun _ => ?_)
    · intro y0 y1 y2 y3 y4 y5 y6 y7
      unfold interregnumlaw03_RegionClean.j2
      repeat' first
      | (with_reducible exact ih0 _ _ _ _)
      | (with_reducible exact ih1 _ _ _ _ _)
      | (with_reducible exact ih2 _ _ _ _ _ _ _ _)
      | (with_reducible exact interregnumref01_Same.mono _ _ _)
      | (with_reducible exact region_Clean.mono _ _ _ _)
      | (with_reducible exact LeO.refl _)
      | (with_reducible exact LeO.none _)
      | (with_reducible refine LeO.ite ?_ ?_)
      | (with_reducible refine LeO.bind ?_ (fun _ => ?_))
      | exact ih0 _ _ _ _
      | exact ih1 _ _ _ _ _
      | exact ih2 _ _ _ _ _ _ _ _
      | exact interregnumref01_Same.mono _ _ _
      | exact region_Clean.mono _ _ _ _
      | exact LeO.none _
      | refine LeO.ite ?_ ?_
      | refine LeO.bind ?_ (fun _ => ?_)
theorem interregnumlaw03_RegionClean.mono : ∀ a0 a1 a2 k, LeO (interregnumlaw03_RegionClean.f k a0 a1 a2) (interregnumlaw03_RegionClean.f (k + 1) a0 a1 a2) := by
  intro a0 a1 a2 k
  obtain ⟨ih0, ih1, ih2⟩ := interregnumlaw03_RegionClean.mono_l k
  unfold interregnumlaw03_RegionClean.f
  repeat' first
      | (with_reducible exact ih0 _ _ _ _)
      | (with_reducible exact ih1 _ _ _ _ _)
      | (with_reducible exact ih2 _ _ _ _ _ _ _ _)
      | (with_reducible exact interregnumref01_Same.mono _ _ _)
      | (with_reducible exact region_Clean.mono _ _ _ _)
      | (with_reducible exact LeO.refl _)
      | (with_reducible exact LeO.none _)
      | (with_reducible refine LeO.ite ?_ ?_)
      | (with_reducible refine LeO.bind ?_ (fun _ => ?_))
      | exact ih0 _ _ _ _
      | exact ih1 _ _ _ _ _
      | exact ih2 _ _ _ _ _ _ _ _
      | exact interregnumref01_Same.mono _ _ _
      | exact region_Clean.mono _ _ _ _
      | exact LeO.none _
      | refine LeO.ite ?_ ?_
      | refine LeO.bind ?_ (fun _ => ?_)
set_option maxHeartbeats 8000000 in
set_option maxRecDepth 100000 in
theorem interregnumlaw03_RegionClean.calls (k : Nat) (A0 : Option Addr) (c0 : Nat) (l0 : List Int) (a1 : Int) (a2 : Int) (r : Bool) (w : World) (hr0 : Kd.C (Kd.int .u8) w A0 l0.length l0) (hc0 : l0.length ≤ c0) (h : interregnumlaw03_RegionClean.f k l0 a1 a2 = some r) :
    Calls Try.prog 9 #[.slice A0 l0.length c0, .int .u8 a1, .int .u8 a2] w fun e w' => e = .returned (.bool r) ∧ Below w.heap.size w w' := by
  have HR0 := Aside0.mk hr0
  have HC0 := Aside0.mk hc0
  clear hr0 hc0
  have HB := Aside0.mk (Below.refl w.heap.size w)
  have H : (if (l0.length : Int) > 300 then ((interregnumlaw03_answers.f).bind fun t157 => (some t157)) else ((sector_New.f 20).bind fun t158 => (interregnumlaw03_RegionClean.l0 k a1 a2 0 t158))) = some r := h
  clear h
  by_cases c4 : (l0.length : Int) > 300
  · rw [if_pos c4] at H
    have c4b0 : decide (300 < (l0.length : Int)) = true := decide_eq_true c4
    have c4b1 : decide (300 < l0.length) = true := decide_eq_true (by omega)
    clear c4
    replace H := Option.bind_eq_some_iff.mp H
    obtain ⟨t157, A50, H⟩ := H
    replace H : (some t157) = some r := H
    have A5 := Aside0.mk A50
    clear A50
    obtain rfl := Option.some.inj H
    go_enter Try.func9, Try.ntmps9
    go_wp2_with (first | ((with_reducible refine gate_callee (f := 24) rfl ?_); refine goesL_ (some 19) rfl rfl Try.func24 (by kernel_rfl) rfl #[] rfl (by (try simp only [List.map_toArray, List.map_cons, List.map_nil]); first | done | rfl | (simp only [List.length_drop, List.length_take]; rfl)) ?_; (with_reducible refine (interregnumlaw03_answers.calls  t157 _ A5.out).mono ?_); rintro e w6 ⟨rfl, hb⟩; refine ⟨_, rfl, ?_⟩; have n0_ := Aside0.mk (below_step (by repeat (first | (with_reducible first | exact HB.out | apply below_alloc | apply pw_below_drewN | apply below_drew1) | exact HB.out)) hb); clear HB; have HB := n0_; clear n0_; (try clear hb); (try clear hb2); (try clear hk); (try clear hi)))
    go_ret
    exact ⟨by first | rfl | (simp [errW_none, errW_some] <;> rfl) | (simp [*, errW_none, errW_some] <;> rfl), by repeat (first | (with_reducible first | exact HB.out | apply below_alloc | apply pw_below_drewN | apply below_drew1) | exact HB.out)⟩
  · rw [if_neg c4] at H
    have c4b0 : decide (300 < (l0.length : Int)) = false := decide_eq_false c4
    have c4b1 : decide (300 < l0.length) = false := decide_eq_false (by omega)
    clear c4
    replace H := Option.bind_eq_some_iff.mp H
    obtain ⟨t158, A70, H⟩ := H
    replace H : (interregnumlaw03_RegionClean.l0 k a1 a2 0 t158) = some r := H
    have A7 := Aside0.mk A70
    clear A70
    have H' := Aside0.mk H
    clear H
    go_enter Try.func9, Try.ntmps9
    go_wp2_with (first | ((with_reducible refine gate_callee (f := 13) rfl ?_); refine goesL_ (some 20) rfl rfl Try.func13 (by kernel_rfl) rfl #[.int .i64 20] rfl (by (try simp only [List.map_toArray, List.map_cons, List.map_nil]); first | done | rfl | (simp only [List.length_drop, List.length_take]; rfl)) ?_; (with_reducible refine (sector_New.calls 20 t158 w _ ?side1 A7.out).mono ?_); (case side1 => repeat (first | (with_reducible first | exact HB.out | apply below_alloc | apply pw_below_drewN | apply below_drew1) | exact HB.out)); rintro e w8 ⟨g159, rfl, hi, hb, hb2⟩; refine ⟨_, rfl, ?_⟩; have n0_ := Aside0.mk (hb); have n1_ := Aside0.mk (hi); clear HB; have HB := n0_; have HI159 := n1_; clear n0_ n1_; (try clear hb); (try clear hb2); (try clear hk); (try clear hi)))
    go_loopg [8] k (fun kq v8 w' => ∃ (x8_1 : Int) (x160000_1 : Disk.DiskM), v8 = .int .i64 x8_1 ∧ Aside0 (interregnumlaw03_RegionClean.l0 kq a1 a2 x8_1 x160000_1 = some r) ∧ Aside0 (kq ≤ k) ∧ Aside0 (IsS67 w w' g159 x160000_1) ∧ Aside0 (Below w.heap.size w w'))
    case atStart => exact ⟨(0), (t158), (by first | rfl | (simp; done) | (simp [*]; done)), H', ⟨Nat.le_refl _⟩, ⟨by repeat (first | (with_reducible first | exact HI159.out | apply IsS67.alloc | apply IsS67.drewN | apply IsS67.drew) | exact HI159.out)⟩, ⟨by repeat (first | (with_reducible first | exact HB.out | apply below_alloc | apply pw_below_drewN | apply below_drew1 | refine below_set ?_ (IsS67.ge HI159.out)) | exact HB.out)⟩⟩
    case round =>
      clear H'
      try clear c1
      try clear c2
      try clear p2
      try clear c4
      try clear c4b0
      try clear c4b1
      obtain ⟨x8_1, x160000_1, rfl, HA, HK1, HI159, HB⟩ := hrel
      cases gk with
      | zero => exact absurd HA.out (by simp [interregnumlaw03_RegionClean.l0])
      | succ k1 =>
        have H := HA.out
        clear HA
        simp only [interregnumlaw03_RegionClean.l0] at H
        by_cases c9 : x8_1 < 20
        · rw [if_pos c9] at H
          have c9b0 : decide (x8_1 < 20) = true := decide_eq_true c9
          clear c9
          obtain ⟨y160, hy160⟩ : ∃ y_ : List Int, y_ = (([(wrap64 (x8_1 + 1)) % 256] : List Int)) := ⟨_, rfl⟩
          replace H : ((sector_Disk_Write.f x160000_1 x8_1 y160).bind fun bt163 => (interregnumlaw03_RegionClean.l0 k1 a1 a2 (wrap64 (x8_1 + 1)) bt163.2)) = some r := by first | (rw [hy160]; with_reducible exact H) | (have H2_ := (Option.bind_some _ _).symm.trans H; rw [hy160]; with_reducible exact H2_) | (have H2_ := (Option.bind_some _ _).symm.trans H; with_reducible exact H2_) | with_reducible exact H | (rw [hy160]; exact H) | exact H
          have Ny160 := Aside0.mk hy160
          clear hy160
          replace H := Option.bind_eq_some_iff.mp H
          obtain ⟨⟨t163, t164⟩, A100, H⟩ := H
          replace H : (interregnumlaw03_RegionClean.l0 k1 a1 a2 (wrap64 (x8_1 + 1)) t164) = some r := H
          have A10 := Aside0.mk A100
          clear A100
          have H' := Aside0.mk H
          clear H
          go_wp2_with (first | ((with_reducible refine gate_dst (N := 30) rfl ?_); refine Kd.R_lit (Kd.int .u8) _ 5 ?hg (N := 30) ?hd (xs := ([(wrap64 (x8_1 + 1)) % 256] : List Int)) (inner := [.int .u8 ((wrap64 (x8_1 + 1)) % 256)]) (ok := fun _ => True) (okp := fun _ => True) ?hr ?hp (fun _ hk => hk) trivial (Below.refl _ _) (Nat.le_refl _) (by simp) ?_; (case hd => rfl); (case hg => rfl); (case hr => first | (go_simp; done) | (go_simp; rfl) | (go_simp; simp [IntKind.wrap_u8, IntKind.wrap_u32]; done)); (case hp => exact (Reps.one (show Kd.M (Kd.int .u8) _ _ _ ((wrap64 (x8_1 + 1)) % 256) [.int .u8 ((wrap64 (x8_1 + 1)) % 256)] from rfl) (Reps.none _ _))); intro v161 w11 ho12 hb hg_ hnew_; clear hg_ hnew_; (first | rw [← Ny160.out] at ho12 | (simp only [Int.reduceToNat] at ho12; rw [← Ny160.out] at ho12)); have n0_ := Aside0.mk (Kd.R_lower ho12 (below_size (by repeat (first | (with_reducible first | exact HB.out | apply below_alloc | apply pw_below_drewN | apply below_drew1 | refine below_set ?_ (IsS67.ge HI159.out)) | exact HB.out)))); have n1_ := Aside0.mk (IsS67.below (by repeat (first | (with_reducible first | exact HI159.out | apply IsS67.alloc | apply IsS67.drewN | apply IsS67.drew) | exact HI159.out)) hb); have n2_ := Aside0.mk (below_step (by repeat (first | (with_reducible first | exact HB.out | apply below_alloc | apply pw_below_drewN | apply below_drew1 | refine below_set ?_ (IsS67.ge HI159.out)) | exact HB.out)) hb); clear HI159; clear HB; have HO162 := n0_; have HI159 := n1_; have HB := n2_; clear n0_ n1_ n2_; clear hb ho12; obtain ⟨Ao13, co13, eo13⟩ := Kd.R_slice HO162.out; subst eo13) | ((with_reducible refine gate_callee (f := 14) rfl ?_); refine goesL_ (some 31) rfl rfl Try.func14 (by kernel_rfl) rfl #[.pointer (some ⟨g159, 0, none⟩), .int .i64 x8_1, .slice Ao13 y160.length co13] rfl (by (try simp only [List.map_toArray, List.map_cons, List.map_nil]); first | done | rfl | (simp only [List.length_drop, List.length_take]; rfl)) ?_; (with_reducible refine (sector_Disk_Write.calls g159 x160000_1 x8_1 _ _ y160 t163 t164 w _ ?side1 ?side2 ?side3 ?side4 A10.out).mono ?_); (case side1 => repeat (first | (with_reducible first | exact HI159.out | apply IsS67.alloc | apply IsS67.drewN | apply IsS67.drew) | exact HI159.out)); (case side2 => repeat (first | (with_reducible first | exact HB.out | apply below_alloc | apply pw_below_drewN | apply below_drew1 | refine below_set ?_ (IsS67.ge HI159.out)) | exact HB.out)); (case side3 => exact Go.Proofs.Ytjaibpphlbddoaa.Opq.C_ownR (by (with_reducible repeat (first | apply Kd.R_alloc | apply Kd.R_drewN | apply Kd.R_drew)); exact HO162.out) (by decide)); (case side4 => exact (Kd.R_reads' HO162.out).2.1); rintro e w14 ⟨rfl, hi, hb, hk⟩; refine ⟨_, rfl, ?_⟩; have n0_ := Aside0.mk (Go.Proofs.Ytjaibpphlbddoaa.Opq.R_keep (by (with_reducible repeat (first | apply Kd.R_alloc | apply Kd.R_drewN | apply Kd.R_drew)); exact HO162.out) hk (by decide)); have n1_ := Aside0.mk (hb); have n2_ := Aside0.mk (hi); clear HO162; clear HB; clear HI159; have HO162 := n0_; have HB := n1_; have HI159 := n2_; clear n0_ n1_ n2_; (try clear hb); (try clear hb2); (try clear hk); (try clear hi)))
          go_roundg k1
          case measure => have := HK1.out; omega
          case rel => exact ⟨(wrap64 (x8_1 + 1)), (t164), (by first | rfl | (simp; done) | (simp [*]; done)), H', ⟨by have := HK1.out; omega⟩, ⟨by repeat (first | (with_reducible first | exact HI159.out | apply IsS67.alloc | apply IsS67.drewN | apply IsS67.drew) | exact HI159.out)⟩, ⟨by repeat (first | (with_reducible first | exact HB.out | apply below_alloc | apply pw_below_drewN | apply below_drew1 | refine below_set ?_ (IsS67.ge HI159.out)) | exact HB.out)⟩⟩
        · rw [if_neg c9] at H
          have c9b0 : decide (x8_1 < 20) = false := decide_eq_false c9
          clear c9
          replace H := Option.bind_eq_some_iff.mp H
          obtain ⟨⟨t165, t166⟩, A150, H⟩ := H
          replace H : ((region_Clean.f k1 t166 (wrap64 (Int.tmod a1 24)) (wrap64 (Int.tmod a2 24))).bind fun bt167 => (interregnumlaw03_RegionClean.l1 k1 (wrap64 (Int.tmod a1 24)) (wrap64 (Int.tmod a2 24)) bt167.1 0 bt167.2)) = some r := H
          have A15 := Aside0.mk A150
          clear A150
          replace H := Option.bind_eq_some_iff.mp H
          obtain ⟨⟨t167, t168⟩, A160, H⟩ := H
          replace H : (interregnumlaw03_RegionClean.l1 k1 (wrap64 (Int.tmod a1 24)) (wrap64 (Int.tmod a2 24)) t167 0 t168) = some r := H
          have A16 := Aside0.mk A160
          clear A160
          have H' := Aside0.mk H
          clear H
          go_wp2_with (first | ((with_reducible refine gate_callee (f := 19) rfl ?_); refine goesL_ (some 33) rfl rfl Try.func19 (by kernel_rfl) rfl #[.pointer (some ⟨g159, 0, none⟩)] rfl (by (try simp only [List.map_toArray, List.map_cons, List.map_nil]); first | done | rfl | (simp only [List.length_drop, List.length_take]; rfl)) ?_; (with_reducible refine (sector_Disk_Flush.calls g159 x160000_1 t165 t166 w _ ?side1 ?side2 A15.out).mono ?_); (case side1 => repeat (first | (with_reducible first | exact HI159.out | apply IsS67.alloc | apply IsS67.drewN | apply IsS67.drew) | exact HI159.out)); (case side2 => repeat (first | (with_reducible first | exact HB.out | apply below_alloc | apply pw_below_drewN | apply below_drew1 | refine below_set ?_ (IsS67.ge HI159.out)) | exact HB.out)); rintro e w17 ⟨rfl, hi, hb, hk⟩; refine ⟨_, rfl, ?_⟩; have n0_ := Aside0.mk (hb); have n1_ := Aside0.mk (hi); clear HB; clear HI159; have HB := n0_; have HI159 := n1_; clear n0_ n1_; (try clear hb); (try clear hb2); (try clear hk); (try clear hi)) | ((with_reducible refine gate_callee (f := 28) rfl ?_); refine goesL_ (some 43) rfl rfl Try.func28 (by kernel_rfl) rfl #[.pointer (some ⟨g159, 0, none⟩), .int .i64 (wrap64 (Int.tmod a1 24)), .int .i64 (wrap64 (Int.tmod a2 24))] rfl (by (try simp only [List.map_toArray, List.map_cons, List.map_nil]); first | done | rfl | (simp only [List.length_drop, List.length_take]; rfl)) ?_; (with_reducible refine (region_Clean.calls k1 g159 t166 (wrap64 (Int.tmod a1 24)) (wrap64 (Int.tmod a2 24)) t167 t168 w _ ?side1 ?side2 A16.out).mono ?_); (case side1 => repeat (first | (with_reducible first | exact HI159.out | apply IsS67.alloc | apply IsS67.drewN | apply IsS67.drew) | exact HI159.out)); (case side2 => repeat (first | (with_reducible first | exact HB.out | apply below_alloc | apply pw_below_drewN | apply below_drew1 | refine below_set ?_ (IsS67.ge HI159.out)) | exact HB.out)); rintro e w18 ⟨rfl, hi, hb, hk⟩; refine ⟨_, rfl, ?_⟩; have n0_ := Aside0.mk (hb); have n1_ := Aside0.mk (hi); clear HB; clear HI159; have HB := n0_; have HI159 := n1_; clear n0_ n1_; (try clear hb); (try clear hb2); (try clear hk); (try clear hi)))
          go_loopg [12] k1 (fun kq v12 w' => ∃ (x12_2 : Int) (x160000_2 : Disk.DiskM), v12 = .int .i64 x12_2 ∧ Aside0 (interregnumlaw03_RegionClean.l1 kq (wrap64 (Int.tmod a1 24)) (wrap64 (Int.tmod a2 24)) t167 x12_2 x160000_2 = some r) ∧ Aside0 (kq ≤ k1) ∧ Aside0 (IsS67 w w' g159 x160000_2) ∧ Aside0 (Below w.heap.size w w'))
          case atStart => exact ⟨(0), (t168), (by first | rfl | (simp; done) | (simp [*]; done)), H', ⟨Nat.le_refl _⟩, ⟨by repeat (first | (with_reducible first | exact HI159.out | apply IsS67.alloc | apply IsS67.drewN | apply IsS67.drew) | exact HI159.out)⟩, ⟨by repeat (first | (with_reducible first | exact HB.out | apply below_alloc | apply pw_below_drewN | apply below_drew1 | refine below_set ?_ (IsS67.ge HI159.out)) | exact HB.out)⟩⟩
          case round =>
            clear H'
            try clear c1
            try clear c2
            try clear p2
            try clear c4
            try clear c4b0
            try clear c4b1
            try clear p6
            try clear c9
            try clear c9b0
            try clear c13
            try clear c14
            try clear p2
            obtain ⟨x12_2, x160000_2, rfl, HA, HK2, HI159, HB⟩ := hrel
            cases gk with
            | zero => exact absurd HA.out (by simp [interregnumlaw03_RegionClean.l1])
            | succ k2 =>
              have H := HA.out
              clear HA
              simp only [interregnumlaw03_RegionClean.l1] at H
              by_cases c19 : x12_2 < 20
              · rw [if_pos c19] at H
                have c19b0 : decide (x12_2 < 20) = true := decide_eq_true c19
                clear c19
                replace H := Option.bind_eq_some_iff.mp H
                obtain ⟨⟨t172, t175, t176⟩, A200, H⟩ := H
                replace H : ((interregnumref01_Fill.f (([(wrap64 (x12_2 + 1)) % 256] : List Int))).bind fun t180 => (if x12_2 ≥ (wrap64 (Int.tmod a1 24)) then (interregnumlaw03_RegionClean.j2 k2 (wrap64 (Int.tmod a1 24)) (wrap64 (Int.tmod a2 24)) t167 x12_2 t172 t180 (decide (x12_2 < (wrap64 (Int.tmod a2 24)))) t176) else (interregnumlaw03_RegionClean.j2 k2 (wrap64 (Int.tmod a1 24)) (wrap64 (Int.tmod a2 24)) t167 x12_2 t172 t180 false t176))) = some r := H
                have A20 := Aside0.mk A200
                clear A200
                obtain ⟨y177, hy177⟩ : ∃ y_ : List Int, y_ = (([(wrap64 (x12_2 + 1)) % 256] : List Int)) := ⟨_, rfl⟩
                replace H : ((interregnumref01_Fill.f y177).bind fun t180 => (if x12_2 ≥ (wrap64 (Int.tmod a1 24)) then (interregnumlaw03_RegionClean.j2 k2 (wrap64 (Int.tmod a1 24)) (wrap64 (Int.tmod a2 24)) t167 x12_2 t172 t180 (decide (x12_2 < (wrap64 (Int.tmod a2 24)))) t176) else (interregnumlaw03_RegionClean.j2 k2 (wrap64 (Int.tmod a1 24)) (wrap64 (Int.tmod a2 24)) t167 x12_2 t172 t180 false t176))) = some r := by first | (rw [hy177]; with_reducible exact H) | (have H2_ := (Option.bind_some _ _).symm.trans H; rw [hy177]; with_reducible exact H2_) | (have H2_ := (Option.bind_some _ _).symm.trans H; with_reducible exact H2_) | with_reducible exact H | (rw [hy177]; exact H) | exact H
                have Ny177 := Aside0.mk hy177
                clear hy177
                replace H := Option.bind_eq_some_iff.mp H
                obtain ⟨t180, A210, H⟩ := H
                replace H : (if x12_2 ≥ (wrap64 (Int.tmod a1 24)) then (interregnumlaw03_RegionClean.j2 k2 (wrap64 (Int.tmod a1 24)) (wrap64 (Int.tmod a2 24)) t167 x12_2 t172 t180 (decide (x12_2 < (wrap64 (Int.tmod a2 24)))) t176) else (interregnumlaw03_RegionClean.j2 k2 (wrap64 (Int.tmod a1 24)) (wrap64 (Int.tmod a2 24)) t167 x12_2 t172 t180 false t176)) = some r := H
                have A21 := Aside0.mk A210
                clear A210
                have HC22 := Aside0.mk H
                clear H
                go_upto_region 16 with (first | ((with_reducible refine gate_callee (f := 20) rfl ?_); refine goesL_ (some 51) rfl rfl Try.func20 (by kernel_rfl) rfl #[.pointer (some ⟨g159, 0, none⟩), .int .i64 x12_2] rfl (by (try simp only [List.map_toArray, List.map_cons, List.map_nil]); first | done | rfl | (simp only [List.length_drop, List.length_take]; rfl)) ?_; (with_reducible refine (sector_Disk_Lasts.calls g159 x160000_2 x12_2 t172 t175 t176 w _ ?side1 ?side2 A20.out).mono ?_); (case side1 => repeat (first | (with_reducible first | exact HI159.out | apply IsS67.alloc | apply IsS67.drewN | apply IsS67.drew) | exact HI159.out)); (case side2 => repeat (first | (with_reducible first | exact HB.out | apply below_alloc | apply pw_below_drewN | apply below_drew1 | refine below_set ?_ (IsS67.ge HI159.out)) | exact HB.out)); rintro e w23 ⟨v173, rfl, ho0, hi, hb, hk⟩; refine ⟨_, rfl, ?_⟩; have n0_ := Aside0.mk (Kd.R_lower ho0 (below_size (by repeat (first | (with_reducible first | exact HB.out | apply below_alloc | apply pw_below_drewN | apply below_drew1 | refine below_set ?_ (IsS67.ge HI159.out)) | exact HB.out)))); have n1_ := Aside0.mk (hb); have n2_ := Aside0.mk (hi); clear HB; clear HI159; have HO174 := n0_; have HB := n1_; have HI159 := n2_; clear n0_ n1_ n2_; (try clear hb); (try clear hb2); (try clear hk); (try clear hi); (try clear ho0)) | ((with_reducible refine gate_dst (N := 57) rfl ?_); refine Kd.R_lit (Kd.int .u8) _ 5 ?hg (N := 57) ?hd (xs := ([(wrap64 (x12_2 + 1)) % 256] : List Int)) (inner := [.int .u8 ((wrap64 (x12_2 + 1)) % 256)]) (ok := fun _ => True) (okp := fun _ => True) ?hr ?hp (fun _ hk => hk) trivial (Below.refl _ _) (Nat.le_refl _) (by simp) ?_; (case hd => rfl); (case hg => rfl); (case hr => first | (go_simp; done) | (go_simp; rfl) | (go_simp; simp [IntKind.wrap_u8, IntKind.wrap_u32]; done)); (case hp => exact (Reps.one (show Kd.M (Kd.int .u8) _ _ _ ((wrap64 (x12_2 + 1)) % 256) [.int .u8 ((wrap64 (x12_2 + 1)) % 256)] from rfl) (Reps.none _ _))); intro v178 w24 ho25 hb hg_ hnew_; clear hg_ hnew_; (first | rw [← Ny177.out] at ho25 | (simp only [Int.reduceToNat] at ho25; rw [← Ny177.out] at ho25)); have n0_ := Aside0.mk (Kd.R_elder' (by (with_reducible repeat (first | apply Kd.R_alloc | apply Kd.R_drewN | apply Kd.R_drew)); exact HO174.out) (Kd.R_base ho25) hb); have n1_ := Aside0.mk (Kd.R_lower (Kd.R_new' ho25 (Kd.R_lt (by (with_reducible repeat (first | apply Kd.R_alloc | apply Kd.R_drewN | apply Kd.R_drew)); exact HO174.out))) (below_size (by repeat (first | (with_reducible first | exact HB.out | apply below_alloc | apply pw_below_drewN | apply below_drew1 | refine below_set ?_ (IsS67.ge HI159.out)) | exact HB.out)))); have n2_ := Aside0.mk (IsS67.below (by repeat (first | (with_reducible first | exact HI159.out | apply IsS67.alloc | apply IsS67.drewN | apply IsS67.drew) | exact HI159.out)) hb); have n3_ := Aside0.mk (below_step (by repeat (first | (with_reducible first | exact HB.out | apply below_alloc | apply pw_below_drewN | apply below_drew1 | refine below_set ?_ (IsS67.ge HI159.out)) | exact HB.out)) hb); clear HO174; clear HI159; clear HB; have HO174 := n0_; have HO179 := n1_; have HI159 := n2_; have HB := n3_; clear n0_ n1_ n2_ n3_; clear hb ho25; obtain ⟨Ao26, co26, eo26⟩ := Kd.R_slice HO179.out; subst eo26) | ((with_reducible refine gate_callee (f := 18) rfl ?_); refine goesL_ (some 58) rfl rfl Try.func18 (by kernel_rfl) rfl #[.slice Ao26 y177.length co26] rfl (by (try simp only [List.map_toArray, List.map_cons, List.map_nil]); first | done | rfl | (simp only [List.length_drop, List.length_take]; rfl)) ?_; (with_reducible refine (interregnumref01_Fill.calls _ _ y177 t180 _ ?side1 ?side2 A21.out).mono ?_); (case side1 => repeat (first | exact (Kd.R_reads' HO179.out).2.2 | (with_reducible refine Kd.C_alloc ?_ _) | (with_reducible refine Kd.C_drewN ?_ _) | (with_reducible refine Kd.C_drew ?_))); (case side2 => exact (Kd.R_reads' HO179.out).2.1); rintro e w27 ⟨v181, rfl, ho0, hb⟩; refine ⟨_, rfl, ?_⟩; have n0_ := Aside0.mk (Kd.R_elder' (by (with_reducible repeat (first | apply Kd.R_alloc | apply Kd.R_drewN | apply Kd.R_drew)); exact HO174.out) (Kd.R_base ho0) hb); have n1_ := Aside0.mk (Kd.R_elder' (by (with_reducible repeat (first | apply Kd.R_alloc | apply Kd.R_drewN | apply Kd.R_drew)); exact HO179.out) (Kd.R_base ho0) hb); have n2_ := Aside0.mk (Kd.R_lower (Kd.R_new' (Kd.R_new' ho0 (Kd.R_lt (by (with_reducible repeat (first | apply Kd.R_alloc | apply Kd.R_drewN | apply Kd.R_drew)); exact HO174.out))) (Kd.R_lt (by (with_reducible repeat (first | apply Kd.R_alloc | apply Kd.R_drewN | apply Kd.R_drew)); exact HO179.out))) (below_size (by repeat (first | (with_reducible first | exact HB.out | apply below_alloc | apply pw_below_drewN | apply below_drew1 | refine below_set ?_ (IsS67.ge HI159.out)) | exact HB.out)))); have n3_ := Aside0.mk (IsS67.below (by repeat (first | (with_reducible first | exact HI159.out | apply IsS67.alloc | apply IsS67.drewN | apply IsS67.drew) | exact HI159.out)) hb); have n4_ := Aside0.mk (below_step (by repeat (first | (with_reducible first | exact HB.out | apply below_alloc | apply pw_below_drewN | apply below_drew1 | refine below_set ?_ (IsS67.ge HI159.out)) | exact HB.out)) hb); clear HO174; clear HO179; clear HI159; clear HB; have HO174 := n0_; have HO179 := n1_; have HO182 := n2_; have HI159 := n3_; have HB := n4_; clear n0_ n1_ n2_ n3_ n4_; (try clear hb); (try clear hb2); (try clear hk); (try clear hi); (try clear ho0)))
                (try simp only [Act.put, List.setIfInBounds_toArray, List.set_cons_zero, List.set_cons_succ])
                go_cut [66] (fun v66 wc => ∃ (kq : Nat) (x66_21 : Bool), v66 = .bool x66_21 ∧ Aside0 (interregnumlaw03_RegionClean.j2 kq (wrap64 (Int.tmod a1 24)) (wrap64 (Int.tmod a2 24)) t167 x12_2 t172 t180 x66_21 t176 = some r) ∧ Aside0 (kq ≤ k2) ∧ Aside0 (Kd.R (Kd.int .u8) 5 wc w.heap.size (fun k_ => some k_ ≠ (v181 : Value).ownBlock) v173 t172) ∧ Aside0 (Kd.R (Kd.int .u8) 5 wc w.heap.size (fun k_ => some k_ ≠ (v173 : Value).ownBlock) v181 t180) ∧ Aside0 (IsS67 w wc g159 t176) ∧ Aside0 (Below w.heap.size w wc))
                case first =>
                  have H := HC22.out
                  clear HC22
                  by_cases c28 : x12_2 ≥ (wrap64 (Int.tmod a1 24))
                  · rw [if_pos c28] at H
                    have c28b0 : decide ((wrap64 (Int.tmod a1 24)) ≤ x12_2) = true := decide_eq_true c28
                    clear c28
                    (first | rw [c28b0] | (simp only [i64_w, i32_w]; rw [c28b0]) | skip)
                    have H' := Aside0.mk H
                    clear H
                    go_wp2
                    go_meet
                    case rel => exact ⟨_, (decide (x12_2 < (wrap64 (Int.tmod a2 24)))), (by first | rfl | (simp; done) | (simp [*]; done)), H', ⟨by have := HK1.out; have := HK2.out; first | omega | exact Nat.le_refl _⟩, ⟨by (with_reducible repeat (first | apply Kd.R_alloc | apply Kd.R_drewN | apply Kd.R_drew)); exact Kd.R_mono HO174.out (fun _ hk => hk.2)⟩, ⟨by (with_reducible repeat (first | apply Kd.R_alloc | apply Kd.R_drewN | apply Kd.R_drew)); exact Kd.R_mono HO182.out (fun _ hk => hk.1.2)⟩, ⟨by repeat (first | (with_reducible first | exact HI159.out | apply IsS67.alloc | apply IsS67.drewN | apply IsS67.drew) | exact HI159.out)⟩, ⟨by repeat (first | (with_reducible first | exact HB.out | apply below_alloc | apply pw_below_drewN | apply below_drew1 | refine below_set ?_ (IsS67.ge HI159.out)) | exact HB.out)⟩⟩
                  · rw [if_neg c28] at H
                    have c28b0 : decide ((wrap64 (Int.tmod a1 24)) ≤ x12_2) = false := decide_eq_false c28
                    clear c28
                    (first | rw [c28b0] | (simp only [i64_w, i32_w]; rw [c28b0]) | skip)
                    have H' := Aside0.mk H
                    clear H
                    go_wp2
                    go_meet
                    case rel => exact ⟨_, (false), (by first | rfl | (simp; done) | (simp [*]; done)), H', ⟨by have := HK1.out; have := HK2.out; first | omega | exact Nat.le_refl _⟩, ⟨by (with_reducible repeat (first | apply Kd.R_alloc | apply Kd.R_drewN | apply Kd.R_drew)); exact Kd.R_mono HO174.out (fun _ hk => hk.2)⟩, ⟨by (with_reducible repeat (first | apply Kd.R_alloc | apply Kd.R_drewN | apply Kd.R_drew)); exact Kd.R_mono HO182.out (fun _ hk => hk.1.2)⟩, ⟨by repeat (first | (with_reducible first | exact HI159.out | apply IsS67.alloc | apply IsS67.drewN | apply IsS67.drew) | exact HI159.out)⟩, ⟨by repeat (first | (with_reducible first | exact HB.out | apply below_alloc | apply pw_below_drewN | apply below_drew1 | refine below_set ?_ (IsS67.ge HI159.out)) | exact HB.out)⟩⟩
                case rest =>
                  clear HC22
                  try clear c1
                  try clear c2
                  try clear p2
                  try clear c4
                  try clear c4b0
                  try clear c4b1
                  try clear p6
                  try clear c9
                  try clear c9b0
                  try clear c13
                  try clear c14
                  try clear c18
                  try clear c19
                  try clear c19b0
                  try clear c20
                  try clear c24
                  try clear c28
                  try clear c28b0
                  try clear p2
                  try clear p6
                  obtain ⟨kq, x66_21, rfl, HA, HJ21, HO_13, HO_15, HI159, HB⟩ := hcut
                  cases kq with
                  | zero => exact absurd HA.out (by simp [interregnumlaw03_RegionClean.j2])
                  | succ kj21 =>
                    have H := HA.out
                    clear HA
                    simp only [interregnumlaw03_RegionClean.j2] at H
                    by_cases c29 : x66_21 = true
                    · subst c29
                      have H1 : ((interregnumref01_Fill.f ([] : List Int)).bind fun t183 => ((interregnumref01_Same.f kj21 t172 t183).bind fun t186 => (if t186 = true then (interregnumlaw03_RegionClean.l1 kj21 (wrap64 (Int.tmod a1 24)) (wrap64 (Int.tmod a2 24)) t167 (wrap64 (x12_2 + 1)) t176) else (some false)))) = some r := by rw [if_pos rfl] at H; exact H
                      clear H
                      have H := H1
                      clear H1
                      replace H := Option.bind_eq_some_iff.mp H
                      obtain ⟨t183, A300, H⟩ := H
                      replace H : ((interregnumref01_Same.f kj21 t172 t183).bind fun t186 => (if t186 = true then (interregnumlaw03_RegionClean.l1 kj21 (wrap64 (Int.tmod a1 24)) (wrap64 (Int.tmod a2 24)) t167 (wrap64 (x12_2 + 1)) t176) else (some false))) = some r := H
                      have A30 := Aside0.mk A300
                      clear A300
                      replace H := Option.bind_eq_some_iff.mp H
                      obtain ⟨t186, A310, H⟩ := H
                      replace H : (if t186 = true then (interregnumlaw03_RegionClean.l1 kj21 (wrap64 (Int.tmod a1 24)) (wrap64 (Int.tmod a2 24)) t167 (wrap64 (x12_2 + 1)) t176) else (some false)) = some r := H
                      have A31 := Aside0.mk A310
                      clear A310
                      by_cases c32 : t186 = true
                      · subst c32
                        have H1 : (interregnumlaw03_RegionClean.l1 kj21 (wrap64 (Int.tmod a1 24)) (wrap64 (Int.tmod a2 24)) t167 (wrap64 (x12_2 + 1)) t176) = some r := by rw [if_pos rfl] at H; exact H
                        clear H
                        have H := H1
                        clear H1
                        have H' := Aside0.mk H
                        clear H
                        go_wp2_with (first | ((with_reducible refine gate_callee (f := 18) rfl ?_); refine goesL_ (some 67) rfl rfl Try.func18 (by kernel_rfl) rfl #[.slice none 0 0] rfl (by (try simp only [List.map_toArray, List.map_cons, List.map_nil]); first | done | rfl | (simp only [List.length_drop, List.length_take]; rfl)) ?_; (refine (interregnumref01_Fill.calls _ _ ([] : List Int) t183 _ ?side1 ?side2 A30.out).mono ?_); (case side1 => exact Kd.C_nil _ _); (case side2 => exact Nat.le_refl _); rintro e w33 ⟨v184, rfl, ho0, hb⟩; refine ⟨_, rfl, ?_⟩; have n0_ := Aside0.mk (Kd.R_elder' (by (with_reducible repeat (first | apply Kd.R_alloc | apply Kd.R_drewN | apply Kd.R_drew)); exact HO_13.out) (Kd.R_base ho0) hb); have n1_ := Aside0.mk (Kd.R_elder' (by (with_reducible repeat (first | apply Kd.R_alloc | apply Kd.R_drewN | apply Kd.R_drew)); exact HO_15.out) (Kd.R_base ho0) hb); have n2_ := Aside0.mk (Kd.R_lower (Kd.R_new' (Kd.R_new' ho0 (Kd.R_lt (by (with_reducible repeat (first | apply Kd.R_alloc | apply Kd.R_drewN | apply Kd.R_drew)); exact HO_13.out))) (Kd.R_lt (by (with_reducible repeat (first | apply Kd.R_alloc | apply Kd.R_drewN | apply Kd.R_drew)); exact HO_15.out))) (below_size (by repeat (first | (with_reducible first | exact HB.out | apply below_alloc | apply pw_below_drewN | apply below_drew1 | refine below_set ?_ (IsS67.ge HI159.out)) | exact HB.out)))); have n3_ := Aside0.mk (IsS67.below (by repeat (first | (with_reducible first | exact HI159.out | apply IsS67.alloc | apply IsS67.drewN | apply IsS67.drew) | exact HI159.out)) hb); have n4_ := Aside0.mk (below_step (by repeat (first | (with_reducible first | exact HB.out | apply below_alloc | apply pw_below_drewN | apply below_drew1 | refine below_set ?_ (IsS67.ge HI159.out)) | exact HB.out)) hb); clear HO_13; clear HO_15; clear HI159; clear HB; have HO_13 := n0_; have HO_15 := n1_; have HO185 := n2_; have HI159 := n3_; have HB := n4_; clear n0_ n1_ n2_ n3_ n4_; (try clear hb); (try clear hb2); (try clear hk); (try clear hi); (try clear ho0); obtain ⟨Ao34, co34, eo34⟩ := Kd.R_slice HO_13.out; subst eo34; obtain ⟨Ao35, co35, eo35⟩ := Kd.R_slice HO185.out; subst eo35) | ((with_reducible refine gate_callee (f := 17) rfl ?_); refine goesL_ (some 70) rfl rfl Try.func17 (by kernel_rfl) rfl #[.slice Ao34 t172.length co34, .slice Ao35 t183.length co35] rfl (by (try simp only [List.map_toArray, List.map_cons, List.map_nil]); first | done | rfl | (simp only [List.length_drop, List.length_take]; rfl)) ?_; (with_reducible refine (interregnumref01_Same.calls kj21 _ _ t172 _ _ t183 true _ ?side1 ?side2 ?side3 ?side4 A31.out).mono ?_); (case side1 => repeat (first | exact (Kd.R_reads' HO_13.out).2.2 | (with_reducible refine Kd.C_alloc ?_ _) | (with_reducible refine Kd.C_drewN ?_ _) | (with_reducible refine Kd.C_drew ?_))); (case side2 => exact (Kd.R_reads' HO_13.out).2.1); (case side3 => repeat (first | exact (Kd.R_reads' HO185.out).2.2 | (with_reducible refine Kd.C_alloc ?_ _) | (with_reducible refine Kd.C_drewN ?_ _) | (with_reducible refine Kd.C_drew ?_))); (case side4 => exact (Kd.R_reads' HO185.out).2.1); rintro e w' ⟨rfl, ⟨nd, rfl⟩⟩; refine ⟨_, rfl, ?_⟩))
                        go_roundg kj21
                        case measure => have := HK1.out; have := HK2.out; have := HJ21.out; omega
                        case rel => exact ⟨(wrap64 (x12_2 + 1)), (t176), (by first | rfl | (simp; done) | (simp [*]; done)), H', ⟨by have := HK1.out; have := HK2.out; have := HJ21.out; omega⟩, ⟨by repeat (first | (with_reducible first | exact HI159.out | apply IsS67.alloc | apply IsS67.drewN | apply IsS67.drew) | exact HI159.out)⟩, ⟨by repeat (first | (with_reducible first | exact HB.out | apply below_alloc | apply pw_below_drewN | apply below_drew1 | refine below_set ?_ (IsS67.ge HI159.out)) | exact HB.out)⟩⟩
                      · replace c32 := Bool.eq_false_iff.mpr c32
                        subst c32
                        have H1 : (some false) = some r := by rw [if_neg (show ¬ (false = true) by decide)] at H; exact H
                        clear H
                        have H := H1
                        clear H1
                        obtain rfl := Option.some.inj H
                        go_wp2_with (first | ((with_reducible refine gate_callee (f := 18) rfl ?_); refine goesL_ (some 67) rfl rfl Try.func18 (by kernel_rfl) rfl #[.slice none 0 0] rfl (by (try simp only [List.map_toArray, List.map_cons, List.map_nil]); first | done | rfl | (simp only [List.length_drop, List.length_take]; rfl)) ?_; (refine (interregnumref01_Fill.calls _ _ ([] : List Int) t183 _ ?side1 ?side2 A30.out).mono ?_); (case side1 => exact Kd.C_nil _ _); (case side2 => exact Nat.le_refl _); rintro e w36 ⟨v184, rfl, ho0, hb⟩; refine ⟨_, rfl, ?_⟩; have n0_ := Aside0.mk (Kd.R_elder' (by (with_reducible repeat (first | apply Kd.R_alloc | apply Kd.R_drewN | apply Kd.R_drew)); exact HO_13.out) (Kd.R_base ho0) hb); have n1_ := Aside0.mk (Kd.R_elder' (by (with_reducible repeat (first | apply Kd.R_alloc | apply Kd.R_drewN | apply Kd.R_drew)); exact HO_15.out) (Kd.R_base ho0) hb); have n2_ := Aside0.mk (Kd.R_lower (Kd.R_new' (Kd.R_new' ho0 (Kd.R_lt (by (with_reducible repeat (first | apply Kd.R_alloc | apply Kd.R_drewN | apply Kd.R_drew)); exact HO_13.out))) (Kd.R_lt (by (with_reducible repeat (first | apply Kd.R_alloc | apply Kd.R_drewN | apply Kd.R_drew)); exact HO_15.out))) (below_size (by repeat (first | (with_reducible first | exact HB.out | apply below_alloc | apply pw_below_drewN | apply below_drew1 | refine below_set ?_ (IsS67.ge HI159.out)) | exact HB.out)))); have n3_ := Aside0.mk (IsS67.below (by repeat (first | (with_reducible first | exact HI159.out | apply IsS67.alloc | apply IsS67.drewN | apply IsS67.drew) | exact HI159.out)) hb); have n4_ := Aside0.mk (below_step (by repeat (first | (with_reducible first | exact HB.out | apply below_alloc | apply pw_below_drewN | apply below_drew1 | refine below_set ?_ (IsS67.ge HI159.out)) | exact HB.out)) hb); clear HO_13; clear HO_15; clear HI159; clear HB; have HO_13 := n0_; have HO_15 := n1_; have HO185 := n2_; have HI159 := n3_; have HB := n4_; clear n0_ n1_ n2_ n3_ n4_; (try clear hb); (try clear hb2); (try clear hk); (try clear hi); (try clear ho0); obtain ⟨Ao37, co37, eo37⟩ := Kd.R_slice HO_13.out; subst eo37; obtain ⟨Ao38, co38, eo38⟩ := Kd.R_slice HO185.out; subst eo38) | ((with_reducible refine gate_callee (f := 17) rfl ?_); refine goesL_ (some 70) rfl rfl Try.func17 (by kernel_rfl) rfl #[.slice Ao37 t172.length co37, .slice Ao38 t183.length co38] rfl (by (try simp only [List.map_toArray, List.map_cons, List.map_nil]); first | done | rfl | (simp only [List.length_drop, List.length_take]; rfl)) ?_; (with_reducible refine (interregnumref01_Same.calls kj21 _ _ t172 _ _ t183 false _ ?side1 ?side2 ?side3 ?side4 A31.out).mono ?_); (case side1 => repeat (first | exact (Kd.R_reads' HO_13.out).2.2 | (with_reducible refine Kd.C_alloc ?_ _) | (with_reducible refine Kd.C_drewN ?_ _) | (with_reducible refine Kd.C_drew ?_))); (case side2 => exact (Kd.R_reads' HO_13.out).2.1); (case side3 => repeat (first | exact (Kd.R_reads' HO185.out).2.2 | (with_reducible refine Kd.C_alloc ?_ _) | (with_reducible refine Kd.C_drewN ?_ _) | (with_reducible refine Kd.C_drew ?_))); (case side4 => exact (Kd.R_reads' HO185.out).2.1); rintro e w' ⟨rfl, ⟨nd, rfl⟩⟩; refine ⟨_, rfl, ?_⟩))
                        go_ret
                        exact ⟨by first | rfl | (simp [errW_none, errW_some] <;> rfl) | (simp [*, errW_none, errW_some] <;> rfl), by repeat (first | (with_reducible first | exact HB.out | apply below_alloc | apply pw_below_drewN | apply below_drew1 | refine below_set ?_ (IsS67.ge HI159.out)) | exact HB.out)⟩
                    · replace c29 := Bool.eq_false_iff.mpr c29
                      subst c29
                      have H1 : ((interregnumref01_Same.f kj21 t172 t180).bind fun t187 => (if t187 = true then (interregnumlaw03_RegionClean.l1 kj21 (wrap64 (Int.tmod a1 24)) (wrap64 (Int.tmod a2 24)) t167 (wrap64 (x12_2 + 1)) t176) else (some false))) = some r := by rw [if_neg (show ¬ (false = true) by decide)] at H; exact H
                      clear H
                      have H := H1
                      clear H1
                      replace H := Option.bind_eq_some_iff.mp H
                      obtain ⟨t187, A390, H⟩ := H
                      replace H : (if t187 = true then (interregnumlaw03_RegionClean.l1 kj21 (wrap64 (Int.tmod a1 24)) (wrap64 (Int.tmod a2 24)) t167 (wrap64 (x12_2 + 1)) t176) else (some false)) = some r := H
                      have A39 := Aside0.mk A390
                      clear A390
                      by_cases c40 : t187 = true
                      · subst c40
                        have H1 : (interregnumlaw03_RegionClean.l1 kj21 (wrap64 (Int.tmod a1 24)) (wrap64 (Int.tmod a2 24)) t167 (wrap64 (x12_2 + 1)) t176) = some r := by rw [if_pos rfl] at H; exact H
                        clear H
                        have H := H1
                        clear H1
                        have H' := Aside0.mk H
                        clear H
                        obtain ⟨Ao41, co41, eo41⟩ := Kd.R_slice HO_13.out
                        subst eo41
                        obtain ⟨Ao42, co42, eo42⟩ := Kd.R_slice HO_15.out
                        subst eo42
                        go_wp2_with (first | ((with_reducible refine gate_callee (f := 17) rfl ?_); refine goesL_ (some 70) rfl rfl Try.func17 (by kernel_rfl) rfl #[.slice Ao41 t172.length co41, .slice Ao42 t180.length co42] rfl (by (try simp only [List.map_toArray, List.map_cons, List.map_nil]); first | done | rfl | (simp only [List.length_drop, List.length_take]; rfl)) ?_; (with_reducible refine (interregnumref01_Same.calls kj21 _ _ t172 _ _ t180 true _ ?side1 ?side2 ?side3 ?side4 A39.out).mono ?_); (case side1 => repeat (first | exact (Kd.R_reads' HO_13.out).2.2 | (with_reducible refine Kd.C_alloc ?_ _) | (with_reducible refine Kd.C_drewN ?_ _) | (with_reducible refine Kd.C_drew ?_))); (case side2 => exact (Kd.R_reads' HO_13.out).2.1); (case side3 => repeat (first | exact (Kd.R_reads' HO_15.out).2.2 | (with_reducible refine Kd.C_alloc ?_ _) | (with_reducible refine Kd.C_drewN ?_ _) | (with_reducible refine Kd.C_drew ?_))); (case side4 => exact (Kd.R_reads' HO_15.out).2.1); rintro e w' ⟨rfl, ⟨nd, rfl⟩⟩; refine ⟨_, rfl, ?_⟩))
                        go_roundg kj21
                        case measure => have := HK1.out; have := HK2.out; have := HJ21.out; omega
                        case rel => exact ⟨(wrap64 (x12_2 + 1)), (t176), (by first | rfl | (simp; done) | (simp [*]; done)), H', ⟨by have := HK1.out; have := HK2.out; have := HJ21.out; omega⟩, ⟨by repeat (first | (with_reducible first | exact HI159.out | apply IsS67.alloc | apply IsS67.drewN | apply IsS67.drew) | exact HI159.out)⟩, ⟨by repeat (first | (with_reducible first | exact HB.out | apply below_alloc | apply pw_below_drewN | apply below_drew1 | refine below_set ?_ (IsS67.ge HI159.out)) | exact HB.out)⟩⟩
                      · replace c40 := Bool.eq_false_iff.mpr c40
                        subst c40
                        have H1 : (some false) = some r := by rw [if_neg (show ¬ (false = true) by decide)] at H; exact H
                        clear H
                        have H := H1
                        clear H1
                        obtain rfl := Option.some.inj H
                        obtain ⟨Ao43, co43, eo43⟩ := Kd.R_slice HO_13.out
                        subst eo43
                        obtain ⟨Ao44, co44, eo44⟩ := Kd.R_slice HO_15.out
                        subst eo44
                        go_wp2_with (first | ((with_reducible refine gate_callee (f := 17) rfl ?_); refine goesL_ (some 70) rfl rfl Try.func17 (by kernel_rfl) rfl #[.slice Ao43 t172.length co43, .slice Ao44 t180.length co44] rfl (by (try simp only [List.map_toArray, List.map_cons, List.map_nil]); first | done | rfl | (simp only [List.length_drop, List.length_take]; rfl)) ?_; (with_reducible refine (interregnumref01_Same.calls kj21 _ _ t172 _ _ t180 false _ ?side1 ?side2 ?side3 ?side4 A39.out).mono ?_); (case side1 => repeat (first | exact (Kd.R_reads' HO_13.out).2.2 | (with_reducible refine Kd.C_alloc ?_ _) | (with_reducible refine Kd.C_drewN ?_ _) | (with_reducible refine Kd.C_drew ?_))); (case side2 => exact (Kd.R_reads' HO_13.out).2.1); (case side3 => repeat (first | exact (Kd.R_reads' HO_15.out).2.2 | (with_reducible refine Kd.C_alloc ?_ _) | (with_reducible refine Kd.C_drewN ?_ _) | (with_reducible refine Kd.C_drew ?_))); (case side4 => exact (Kd.R_reads' HO_15.out).2.1); rintro e w' ⟨rfl, ⟨nd, rfl⟩⟩; refine ⟨_, rfl, ?_⟩))
                        go_ret
                        exact ⟨by first | rfl | (simp [errW_none, errW_some] <;> rfl) | (simp [*, errW_none, errW_some] <;> rfl), by repeat (first | (with_reducible first | exact HB.out | apply below_alloc | apply pw_below_drewN | apply below_drew1 | refine below_set ?_ (IsS67.ge HI159.out)) | exact HB.out)⟩
              · rw [if_neg c19] at H
                have c19b0 : decide (x12_2 < 20) = false := decide_eq_false c19
                clear c19
                replace H := Option.bind_eq_some_iff.mp H
                obtain ⟨t169, A450, H⟩ := H
                replace H : (if t169 = true then (if t167 = 0 then ((sector_Disk_Loose.f x160000_2).bind fun bt170 => (some (bt170.1 == 0))) else (some false)) else (some false)) = some r := H
                have A45 := Aside0.mk A450
                clear A450
                by_cases c46 : t169 = true
                · subst c46
                  have H1 : (if t167 = 0 then ((sector_Disk_Loose.f x160000_2).bind fun bt170 => (some (bt170.1 == 0))) else (some false)) = some r := by rw [if_pos rfl] at H; exact H
                  clear H
                  have H := H1
                  clear H1
                  by_cases c47 : t167 = 0
                  · rw [if_pos c47] at H
                    have c47b0 : (t167 == 0) = true := beq_iff_eq.mpr c47
                    have c47b1 : (t167 != 0) = false := bne_eq_false_iff_eq.mpr c47
                    clear c47
                    replace H := Option.bind_eq_some_iff.mp H
                    obtain ⟨⟨t170, t171⟩, A480, H⟩ := H
                    replace H : (some (t170 == 0)) = some r := H
                    have A48 := Aside0.mk A480
                    clear A480
                    obtain rfl := Option.some.inj H
                    go_wp2_with (first | ((with_reducible refine gate_callee (f := 24) rfl ?_); refine goesL_ (some 72) rfl rfl Try.func24 (by kernel_rfl) rfl #[] rfl (by (try simp only [List.map_toArray, List.map_cons, List.map_nil]); first | done | rfl | (simp only [List.length_drop, List.length_take]; rfl)) ?_; (with_reducible refine (interregnumlaw03_answers.calls  true _ A45.out).mono ?_); rintro e w49 ⟨rfl, hb⟩; refine ⟨_, rfl, ?_⟩; have n0_ := Aside0.mk (IsS67.below (by repeat (first | (with_reducible first | exact HI159.out | apply IsS67.alloc | apply IsS67.drewN | apply IsS67.drew) | exact HI159.out)) hb); have n1_ := Aside0.mk (below_step (by repeat (first | (with_reducible first | exact HB.out | apply below_alloc | apply pw_below_drewN | apply below_drew1 | refine below_set ?_ (IsS67.ge HI159.out)) | exact HB.out)) hb); clear HI159; clear HB; have HI159 := n0_; have HB := n1_; clear n0_ n1_; (try clear hb); (try clear hb2); (try clear hk); (try clear hi)) | (go_at_call 21; (with_reducible refine (sector_Disk_Loose.calls g159 x160000_2 t170 t171 w _ ?side1 ?side2 A48.out).mono ?_); (case side1 => repeat (first | (with_reducible first | exact HI159.out | apply IsS67.alloc | apply IsS67.drewN | apply IsS67.drew) | exact HI159.out)); (case side2 => repeat (first | (with_reducible first | exact HB.out | apply below_alloc | apply pw_below_drewN | apply below_drew1 | refine below_set ?_ (IsS67.ge HI159.out)) | exact HB.out)); rintro e w50 ⟨rfl, hi, hb, hk⟩; have n0_ := Aside0.mk (hb); have n1_ := Aside0.mk (hi); clear HB; clear HI159; have HB := n0_; have HI159 := n1_; clear n0_ n1_; (try clear hb); (try clear hb2); (try clear hk); (try clear hi)))
                    go_ret
                    exact ⟨by first | rfl | (simp [errW_none, errW_some] <;> rfl) | (simp [*, errW_none, errW_some] <;> rfl), by repeat (first | (with_reducible first | exact HB.out | apply below_alloc | apply pw_below_drewN | apply below_drew1 | refine below_set ?_ (IsS67.ge HI159.out)) | exact HB.out)⟩
                  · rw [if_neg c47] at H
                    have c47b0 : (t167 == 0) = false := beq_eq_false_iff_ne.mpr c47
                    have c47b1 : (t167 != 0) = true := bne_iff_ne.mpr c47
                    obtain rfl := Option.some.inj H
                    go_wp2_with (first | ((with_reducible refine gate_callee (f := 24) rfl ?_); refine goesL_ (some 72) rfl rfl Try.func24 (by kernel_rfl) rfl #[] rfl (by (try simp only [List.map_toArray, List.map_cons, List.map_nil]); first | done | rfl | (simp only [List.length_drop, List.length_take]; rfl)) ?_; (with_reducible refine (interregnumlaw03_answers.calls  true _ A45.out).mono ?_); rintro e w51 ⟨rfl, hb⟩; refine ⟨_, rfl, ?_⟩; have n0_ := Aside0.mk (IsS67.below (by repeat (first | (with_reducible first | exact HI159.out | apply IsS67.alloc | apply IsS67.drewN | apply IsS67.drew) | exact HI159.out)) hb); have n1_ := Aside0.mk (below_step (by repeat (first | (with_reducible first | exact HB.out | apply below_alloc | apply pw_below_drewN | apply below_drew1 | refine below_set ?_ (IsS67.ge HI159.out)) | exact HB.out)) hb); clear HI159; clear HB; have HI159 := n0_; have HB := n1_; clear n0_ n1_; (try clear hb); (try clear hb2); (try clear hk); (try clear hi)))
                    go_ret
                    exact ⟨by first | rfl | (simp [errW_none, errW_some] <;> rfl) | (simp [*, errW_none, errW_some] <;> rfl), by repeat (first | (with_reducible first | exact HB.out | apply below_alloc | apply pw_below_drewN | apply below_drew1 | refine below_set ?_ (IsS67.ge HI159.out)) | exact HB.out)⟩
                · replace c46 := Bool.eq_false_iff.mpr c46
                  subst c46
                  have H1 : (some false) = some r := by rw [if_neg (show ¬ (false = true) by decide)] at H; exact H
                  clear H
                  have H := H1
                  clear H1
                  obtain rfl := Option.some.inj H
                  go_wp2_with (first | ((with_reducible refine gate_callee (f := 24) rfl ?_); refine goesL_ (some 72) rfl rfl Try.func24 (by kernel_rfl) rfl #[] rfl (by (try simp only [List.map_toArray, List.map_cons, List.map_nil]); first | done | rfl | (simp only [List.length_drop, List.length_take]; rfl)) ?_; (with_reducible refine (interregnumlaw03_answers.calls  false _ A45.out).mono ?_); rintro e w52 ⟨rfl, hb⟩; refine ⟨_, rfl, ?_⟩; have n0_ := Aside0.mk (IsS67.below (by repeat (first | (with_reducible first | exact HI159.out | apply IsS67.alloc | apply IsS67.drewN | apply IsS67.drew) | exact HI159.out)) hb); have n1_ := Aside0.mk (below_step (by repeat (first | (with_reducible first | exact HB.out | apply below_alloc | apply pw_below_drewN | apply below_drew1 | refine below_set ?_ (IsS67.ge HI159.out)) | exact HB.out)) hb); clear HI159; clear HB; have HI159 := n0_; have HB := n1_; clear n0_ n1_; (try clear hb); (try clear hb2); (try clear hk); (try clear hi)))
                  go_ret
                  exact ⟨by first | rfl | (simp [errW_none, errW_some] <;> rfl) | (simp [*, errW_none, errW_some] <;> rfl), by repeat (first | (with_reducible first | exact HB.out | apply below_alloc | apply pw_below_drewN | apply below_drew1 | refine below_set ?_ (IsS67.ge HI159.out)) | exact HB.out)⟩

/-- THE ONE PURE STATEMENT of interregnumlaw03_RegionClean: yours. -/
def interregnumlaw03_RegionClean.Pure : Prop := ∀ (l0 : List Int) (a1 : Int) (a2 : Int), l0.length ≤ maxLen → l0.length * 1 ≤ 140737488351232 → (∀ x ∈ l0, (Lit.int .u8 x).wf = true) → (Lit.int .u8 a1).wf = true → (Lit.int .u8 a2).wf = true → ∃ k, interregnumlaw03_RegionClean.f k l0 a1 a2 = some true
theorem interregnumlaw03_RegionClean.walk (P : interregnumlaw03_RegionClean.Pure) (a0 : Option Addr) (len0 cap0 : Nat) (z0 : List Int) (a1 : Int) (a2 : Int) (w : World) (w0 : (a0 = none ∧ len0 = 0 ∧ cap0 = 0 ∧ z0 = []) ∨ ∃ x, a0 = some x ∧ len0 ≤ cap0 ∧ cap0 ≤ maxLen ∧ z0.length = cap0 ∧ (∀ i, i < z0.length → w.cell? (x.add i) = some (.int .u8 (z0.getD i 0))) ∧ ∀ n ∈ z0, (Lit.int .u8 n).wf = true) (y0 : len0 * 1 ≤ 140737488351232) (w1 : (Lit.int .u8 a1).wf = true) (w2 : (Lit.int .u8 a2).wf = true) :
    Calls Try.prog 9 #[.slice a0 len0 cap0, .int .u8 a1, .int .u8 a2] w fun e w' => e = .returned (.bool true) ∧ Below w.heap.size w w' := by
  obtain ⟨l0, rfl, hr0, hm0, hw0, hc0⟩ := ReadsInt.ofRowC w0
  obtain ⟨k, h⟩ := P l0 a1 a2 hm0 y0 hw0 w1 w2
  refine (interregnumlaw03_RegionClean.calls k _ _ l0 a1 a2 true w (Kd.C_of_reads (d := (0 : Int)) (h1 := fun _ => rfl) hr0) hc0 h).mono ?_
  rintro e w' ⟨rfl, hd⟩
  exact ⟨rfl, hd⟩

end Go.Proofs.Ytjaibpphlbddoaa.PRegionClean
