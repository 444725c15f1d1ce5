-- Lean text by a program of this repo (wip/tools/printx.py), out of Lean's own print of the translation
import Derived.Test.YtjaibpphlbddoaaHelp
import Derived.KernelRfl
import Derived.Lib.SlBytesConst
import Derived.Test.YtjaibpphlbddoaaMid
import Derived.Test.YtjaibpphlbddoaaPRegionTornx0
import Derived.Test.YtjaibpphlbddoaaPRegionTornx1
import Derived.Test.YtjaibpphlbddoaaPRegionTornx2
import Derived.Test.YtjaibpphlbddoaaPRegionTornx4
namespace Go.Proofs.Ytjaibpphlbddoaa.PRegionTorn
open Go.RowKit Go.Proofs.YtjaibpphlbddoaaW.PrintWords Go.Proofs.YtjaibpphlbddoaaW.PrintLast Go.Proofs.YtjaibpphlbddoaaW.PrintMore
attribute [local go_sem] max2_int min2_int max_two min_two max_three min_three max_four min_four   -- for this text's walks alone
set_option linter.unusedVariables false
set_option linter.unusedSimpArgs false

/-! ### region_Scan: function 26 -/
-- FN rounds=1 making=1
-- IMPORT Derived.Test.YtjaibpphlbddoaaMid
def region_Scan.l0 : Nat → Int → Int → Int → List (List Int) → Disk.DiskM → Option ((List (List Int)) × Int × Disk.DiskM)
  | 0, _, _, _, _, _ => none
  | k + 1, x1, x2, x3, x10, x1000 => (region_one.f k x1000 x1 x2 x3).bind fun bt199 => (if bt199.2.1 = true then (if x10.length < 5864062014805 then ((region_Size.f (bt199.1.length : Int)).bind fun t207 => (region_Scan.l0 k (wrap64 (x1 + t207)) x2 x3 (x10 ++ [bt199.1]) bt199.2.2)) else (none)) else (some (x10, x1, bt199.2.2)))
def region_Scan.f (k : Nat) (s0_0 : Disk.DiskM) (a1 : Int) (a2 : Int) (a3 : Int) : Option ((List (List Int)) × Int × Disk.DiskM) := region_Scan.l0 k a1 a2 a3 ([] : List (List Int)) s0_0
theorem region_Scan.mono_l : ∀ k, (∀ y0 y1 y2 y3 y4, LeO (region_Scan.l0 k y0 y1 y2 y3 y4) (region_Scan.l0 (k + 1) y0 y1 y2 y3 y4))
  | 0 => fun _ _ _ _ _ r h => by simp [region_Scan.l0] at h
  | k + 1 => by
    have ih0 := region_Scan.mono_l k
    · intro y0 y1 y2 y3 y4
      unfold region_Scan.l0
      repeat' first
      | (with_reducible exact ih0 _ _ _ _ _)
      | (with_reducible exact region_one.mono _ _ _ _ _)
      | (with_reducible exact LeO.refl _)
      | (with_reducible exact LeO.none _)
      | (with_reducible refine LeO.ite ?_ ?_)
      | (with_reducible refine LeO.bind ?_ (fun _ => ?_))
      | exact ih0 _ _ _ _ _
      | exact region_one.mono _ _ _ _ _
      | exact LeO.none _
      | refine LeO.ite ?_ ?_
      | refine LeO.bind ?_ (fun _ => ?_)
theorem region_Scan.mono : ∀ a0 a1 a2 a3 k, LeO (region_Scan.f k a0 a1 a2 a3) (region_Scan.f (k + 1) a0 a1 a2 a3) := by
  intro a0 a1 a2 a3 k
  have ih0 := region_Scan.mono_l k
  unfold region_Scan.f
  repeat' first
      | (with_reducible exact ih0 _ _ _ _ _)
      | (with_reducible exact region_one.mono _ _ _ _ _)
      | (with_reducible exact LeO.refl _)
      | (with_reducible exact LeO.none _)
      | (with_reducible refine LeO.ite ?_ ?_)
      | (with_reducible refine LeO.bind ?_ (fun _ => ?_))
      | exact ih0 _ _ _ _ _
      | exact region_one.mono _ _ _ _ _
      | exact LeO.none _
      | refine LeO.ite ?_ ?_
      | refine LeO.bind ?_ (fun _ => ?_)
/-- A slice, as an element of a list of slices. -/
def sliceV (p : Option Addr × Nat × Nat) : Value := .slice p.1 p.2.1 p.2.2
theorem sliceV_one (p : Option Addr × Nat × Nat) : (sliceV p).oneCell' = true := rfl
/-- What the elements of a list of slices have. -/
def RowsAt (w : World) (L : List (Option Addr × Nat × Nat)) (r : List (List Int)) : Prop :=
  L.length = r.length ∧ ∀ (j : Nat) p xs, L[j]? = some p → r[j]? = some xs → p.2.1 = xs.length ∧ xs.length ≤ p.2.2 ∧ Lies w p.1 xs
theorem RowsAt.nil (w : World) : RowsAt w [] [] := ⟨rfl, fun j p xs h => by simp at h⟩
theorem RowsAt.keep {w w1 : World} {L : List (Option Addr × Nat × Nat)} {r : List (List Int)} (h : RowsAt w L r) (hk : ∀ (g : Nat) (cur : Array Value), w.heap[g]? = some (.cells cur 5 (0, 0)) → w1.heap[g]? = some (.cells cur 5 (0, 0))) : RowsAt w1 L r :=
  ⟨h.1, fun j p xs h1 h2 => ⟨(h.2 j p xs h1 h2).1, (h.2 j p xs h1 h2).2.1, Lies.keep (h.2 j p xs h1 h2).2.2 hk⟩⟩
theorem RowsAt.keepO {ts : List Nat} {B : Nat} {w w1 : World} {L : List (Option Addr × Nat × Nat)} {r : List (List Int)} (h : RowsAt w L r) (hk : Go.Proofs.Ytjaibpphlbddoaa.Opq.KeepO ts B w w1) (ht : 5 ∉ ts) : RowsAt w1 L r :=
  RowsAt.keep h fun _ _ hb => hk.blk hb ht
theorem RowsAt.below {w w1 : World} {L : List (Option Addr × Nat × Nat)} {r : List (List Int)} (h : RowsAt w L r) (hb : Below w.heap.size w w1) : RowsAt w1 L r :=
  RowsAt.keep h fun _ _ hc => (hb.block _ (blk_lt hc)).trans hc
theorem RowsAt.snoc {w : World} {L : List (Option Addr × Nat × Nat)} {r : List (List Int)} {A : Option Addr} {c : Nat} {xs : List Int} (h : RowsAt w L r) (hc : xs.length ≤ c) (hl : Lies w A xs) : RowsAt w (L ++ [(A, xs.length, c)]) (r ++ [xs]) := by
  refine ⟨by simp [h.1], fun j p ys h1 h2 => ?_⟩
  rcases Nat.lt_trichotomy j L.length with hj | hj | hj
  · rw [List.getElem?_append_left hj] at h1
    rw [List.getElem?_append_left (by rw [← h.1]; exact hj)] at h2
    exact h.2 j p ys h1 h2
  · subst hj
    rw [List.getElem?_append_right (Nat.le_refl _), Nat.sub_self] at h1
    rw [h.1, List.getElem?_append_right (Nat.le_refl _), Nat.sub_self] at h2
    simp only [List.getElem?_cons_zero, Option.some.injEq] at h1 h2
    subst h1 h2
    exact ⟨rfl, hc, hl⟩
  · rw [List.getElem?_eq_none (by simp; omega)] at h1
    cases h1
set_option maxHeartbeats 8000000 in
set_option maxRecDepth 100000 in
open Go.Proofs.Ytjaibpphlbddoaa.Opq in
theorem region_Scan.calls (k : Nat) (g : Nat) (s0_0 : Disk.DiskM) (a1 : Int) (a2 : Int) (a3 : Int) (r1 : List (List Int)) (r2 : Int) (r3 : Disk.DiskM) (w0 w : World) (hI : IsS67 w0 w g s0_0) (hB : Below w0.heap.size w0 w) (h : region_Scan.f k s0_0 a1 a2 a3 = some (r1, r2, r3)) :
    Calls Try.prog 26 #[.pointer (some ⟨g, 0, none⟩), .int .i64 a1, .int .i64 a2, .int .i64 a3] w fun e w' => ∃ (v0_ : Value) (L : List (Option Addr × Nat × Nat)), e = .returned (.tuple #[v0_, .int .i64 r2]) ∧ Kd.R (Kd.scalar sliceV sliceV_one) 22 w' w.heap.size (fun _ => True) v0_ L ∧ RowsAt w' L r1 ∧ IsS67 w0 w' g r3 ∧ Below w0.heap.size w0 w' ∧ KeepO ts67 w0.heap.size w w' := by
  have H := Aside0.mk (show region_Scan.l0 k a1 a2 a3 [] s0_0 = some (r1, r2, r3) from h)
  have HI0 := Aside0.mk hI
  have HB0 := Aside0.mk hB
  have HGE := Aside0.mk hB.size
  clear h hI hB
  go_enter Try.func26, Try.ntmps26
  go_wp2
  go_loopg [1, 10] k (fun kq v1 v10 wr => ∃ (i : Int) (out : List (List Int)) (sk : Disk.DiskM) (L : List (Option Addr × Nat × Nat)), v1 = .int .i64 i ∧ Aside0 (region_Scan.l0 kq i a2 a3 out sk = some (r1, r2, r3)) ∧ Aside0 (kq ≤ k) ∧ Aside0 (Kd.R (Kd.scalar sliceV sliceV_one) 22 wr w.heap.size (fun _ => True) v10 L) ∧ Aside0 (RowsAt wr L out) ∧ Aside0 (IsS67 w0 wr g sk) ∧ Aside0 (Below w0.heap.size w0 wr) ∧ Aside0 (KeepO ts67 w0.heap.size w wr))
  case atStart => exact ⟨a1, [], s0_0, [], rfl, H, ⟨Nat.le_refl _⟩, ⟨Kd.R_nil _ _ _ _ _⟩, ⟨RowsAt.nil _⟩, HI0, HB0, ⟨KeepO.refl _ _ _⟩⟩
  case round =>
    clear H HI0 HB0
    obtain ⟨i, out, sk, L, rfl, H, HQ, HR, HL, HI, HB, HK⟩ := hrel
    have h := H.out
    cases gk with
    | zero => simp [region_Scan.l0] at h
    | succ k3 =>
    simp only [region_Scan.l0] at h
    obtain ⟨⟨b, ok, s9⟩, hone, h⟩ := Option.bind_eq_some_iff.mp h
    have HO := Aside0.mk hone
    clear H hone
    cases ok with
    | false =>
      rw [if_neg (by simp)] at h
      simp only [Option.some.injEq, Prod.mk.injEq] at h
      obtain ⟨rfl, rfl, rfl⟩ := h
      go_wp2_with fail
      refine (region_one.calls k3 g sk i a2 a3 b false s9 w0 wr HI.out HB.out HO.out).mono ?_
      rintro e w5 ⟨Ar, cr, rfl, hcr, hLr, hi5, hb5, hk5⟩
      have HI5 := Aside0.mk hi5
      have HB5 := Aside0.mk hb5
      have HK5 := Aside0.mk (HK.out.trans hk5)
      have HL5 := Aside0.mk (HL.out.keepO hk5 (by decide))
      have HR5 := Aside0.mk (R_keep HR.out hk5 (by decide))
      clear hi5 hb5 hk5 hcr hLr HI HB HK HL HR
      go_wp2
      go_ret2
      exact ⟨_, _, rfl, HR5.out, HL5.out, HI5.out, HB5.out, HK5.out⟩
    | true =>
      rw [if_pos (by rfl)] at h
      by_cases hmax : out.length < 5864062014805
      rotate_left
      · rw [if_neg hmax] at h
        cases h
      rw [if_pos hmax] at h
      obtain ⟨sz, hsz, h⟩ := Option.bind_eq_some_iff.mp h
      have HS := Aside0.mk hsz
      have H := Aside0.mk h
      have HMX := Aside0.mk (show L.length < 5864062014805 by rw [HL.out.1]; exact hmax)
      clear hmax hsz h
      go_wp2_with fail
      refine (region_one.calls k3 g sk i a2 a3 b true s9 w0 wr HI.out HB.out HO.out).mono ?_
      rintro e w5 ⟨Ar, cr, rfl, hcr, hLr, hi5, hb5, hk5⟩
      have HI5 := Aside0.mk hi5
      have HB5 := Aside0.mk hb5
      have HK5 := Aside0.mk (HK.out.trans hk5)
      have HL5 := Aside0.mk ((HL.out.keepO hk5 (by decide)).snoc hcr hLr)
      have HR5 := Aside0.mk (R_keep HR.out hk5 (by decide))
      clear hi5 hb5 hk5 hcr hLr HI HB HK HL HR
      go_wp2_with ((with_reducible refine gate_builtin (b := .append) (xs := #[.tmp 25, .tmp 27]) rfl ?_); at_builtin; refine Kd.R_append (Kd.scalar sliceV sliceV_one) (w0 := w5) (W := w5) w.heap.size rfl (.tmp 25) (.tmp 27) 47 22 (.slice none 0 0) 24 rfl Try.underlying47 (show (Try.prog.info? 22).map (fun i => (i.zero, i.size, i.bytes)) = some (some (.slice none 0 0), 1, 24) from by kernel_rfl) rfl (by decide) (by omega) u10 L (Ar, b.length, cr) [.slice Ar b.length cr] (fun _ => True) (fun _ => False) rfl (by first | rfl | (simp [Act.eval]; done)) ?aP (fun _ hk => hk.elim) (fun _ _ => trivial) HR5.out (Below.refl _ _) HK5.out.size (by have := HMX.out; omega) ?_; (case aP => exact rfl); intro v7 w7 ho hb hg hat; have HR7 := Aside0.mk ho; have HI7 := Aside0.mk (HI5.out.grown hg (NPr.typed (Kd.R_typed HR5.out) (by decide))); have HB7 := Aside0.mk (below_weaken HB5.out (Nat.le_trans HGE.out (Nat.le_refl _)) hb); have HK7 := Aside0.mk (HK5.out.trans3 hg (Kd.R_base2 HR5.out)); have HL7 := Aside0.mk (RowsAt.keep HL5.out (fun g cur hc => (hg.block g (blk_lt hc) (Kd.R_ne HR5.out hc (by decide))).trans hc)); clear ho hb hg hat HR5 HI5 HB5 HK5 HL5)
      refine (region_Size.calls (b.length : Int) sz _ HS.out).mono ?_
      rintro e w8 ⟨rfl, hb8⟩
      have HI8 := Aside0.mk (HI7.out.below hb8)
      have HB8 := Aside0.mk (below_weaken HB7.out HB7.out.size hb8)
      have HK8 := Aside0.mk (HK7.out.below_trans hb8)
      have HL8 := Aside0.mk (HL7.out.below hb8)
      have HR8 := Aside0.mk (Kd.R_below HR7.out hb8)
      clear hb8 HI7 HB7 HK7 HL7 HR7
      go_wp2
      go_roundg k3
      case measure => have := HQ.out; omega
      case rel => exact ⟨wrap64 (i + sz), out ++ [b], s9, _, by go_num, H, ⟨by have := HQ.out; omega⟩, HR8, HL8, HI8, HB8, HK8⟩


/-! ### interregnumlaw03_answers: function 24 -/
-- FN rounds=0 making=1
-- IMPORT Derived.Lib.SlBytesConst
-- IMPORT Derived.KernelRfl
def interregnumlaw03_answers.f : Option Bool := some true
def ans03Lay : Option (Int × Int × Disk.DiskM) := region_Lay.f 600 (Disk.new 6) 1 6 7 [104, 105]
def ans03Disk : Disk.DiskM := (ans03Lay.getD (0, 0, Disk.new 0)).2.2
def ans03Scan : Option (List (List Int) × Int × Disk.DiskM) := region_Scan.f 600 ans03Disk 1 6 7
def ans03Disk2 : Disk.DiskM := (ans03Scan.getD ([], 0, Disk.new 0)).2.2
theorem ans03_new : sector_New.f 6 = some (Disk.new 6) := rfl
theorem ans03_lay : region_Lay.f 600 (Disk.new 6) 1 6 7 [104, 105] = some (3, 0, ans03Disk) := by kernel_rfl
theorem ans03_scan : region_Scan.f 600 ans03Disk 1 6 7 = some ([[104, 105]], 3, ans03Disk2) := by kernel_rfl
theorem ans03_size : region_Size.f 2 = some 2 := by kernel_rfl
theorem ans03_block {w : World} {k : IntKind} {b n : Nat} {t : TypeId} {fr : Nat × Nat} {xs : List Int} (hb : w.heap[b]? = some (.cells (xs.map (Value.int k)).toArray t fr)) (hn : xs.length = n) (hm : xs.length ≤ 9223372036854775807) :
    Kd.C (Kd.int k) w (some ⟨b, 0, none⟩) n xs := by
  refine Kd.C_of_reads (d := 0) ⟨hn, by omega, fun h => ⟨_, rfl, fun j hj => ?_⟩⟩
  have e : (⟨b, 0, none⟩ : Addr).add j = ⟨b, j, none⟩ := by
    unfold Addr.add
    split
    · rename_i h0; rw [h0]
    · simp
  rw [e]
  simp only [World.cell?, hb]
  have hj' : j < xs.length := by omega
  simp [List.getD_eq_getElem?_getD, hj']
set_option maxHeartbeats 4000000 in
set_option maxRecDepth 100000 in
open Go.Proofs.Ytjaibpphlbddoaa.Opq in
theorem interregnumlaw03_answers.calls (r : Bool) (w : World) (h : interregnumlaw03_answers.f = some r) :
    Calls Try.prog 24 #[] w fun e w' => e = .returned (.bool r) ∧ Below w.heap.size w w' := by
  obtain rfl := Option.some.inj h
  clear h
  have HY := Aside0.mk ans03_lay
  have HZ := Aside0.mk ans03_scan
  have kc := fun (w : World) (C : Array Value) (n c : Nat) => Lib.run_convert_bytes_const (P := Try.prog) w 22 5 C n c Try.underlying22 Try.underlying5
  generalize ans03Disk = s2 at HY HZ
  generalize ans03Disk2 = s3 at HZ
  go_enter Try.func24, Try.ntmps24
  go_wp2_with fail
  refine (sector_New.calls 6 (Disk.new 6) w w (Below.refl _ _) ans03_new).mono ?_
  rintro e w1 ⟨g, rfl, hi, hb, _⟩
  have HI := Aside0.mk hi
  have HB := Aside0.mk hb
  clear hi hb
  go_wp2_with fail
  have hb0 := heap_alloc_new w1 (.cells #[.int .u8 104, .int .u8 105] 5 (2, 3))
  refine (region_Lay.calls 600 g (Disk.new 6) 1 6 7 (some ⟨w1.heap.size, 0, none⟩) 2 [104, 105] 3 0 s2 w _ (HI.out.alloc _) (below_weaken HB.out HB.out.size (below_alloc (Below.refl _ _) _))
    (fun W_ hk => ans03_block (t := 5) (fr := (2, 3)) (xs := [104, 105]) ((hk.keep w1.heap.size (by simp) (.inr (fun hp => by rw [hb0] at hp; exact absurd hp (show ¬ (5 ∈ ts67) by decide)))).trans hb0) rfl (by simp)) (by simp) HY.out).mono ?_
  rintro e w2 ⟨rfl, hi, hb, _⟩
  clear hb0 HI HB
  have HI := Aside0.mk hi
  have HB := Aside0.mk hb
  clear hi hb
  go_wp2_with fail
  refine (region_Scan.calls 600 g s2 1 6 7 [[104, 105]] 3 s3 w w2 HI.out HB.out HZ.out).mono ?_
  rintro e w3 ⟨v0, L, rfl, hR, hL, hi, hb, _⟩
  obtain ⟨A1, c1, rfl⟩ := Kd.R_slice hR
  obtain ⟨hle, hat⟩ := hL
  match L, hle, hat, hR with
  | [(A, n, c)], _, hat, hR =>
  obtain ⟨hn, hnc, hlies⟩ := hat 0 _ [104, 105] rfl rfl
  have hC := Lies.C hlies
  dsimp only at hn hnc hC
  obtain rfl : n = 2 := hn
  obtain ⟨_, _, hcl⟩ := Kd.reads_of_C (d := ((none, 0, 0) : Option Addr × Nat × Nat)) (Kd.R_reads' hR).2.2
  obtain ⟨ad, e1, hcell⟩ := hcl (by simp)
  subst e1
  have hc0 : w3.cell? ad = some (.slice A 2 c) := by
    have := hcell 0 (by simp)
    rwa [show ad.add 0 = ad by unfold Addr.add; rfl] at this
  have hcv := Kd.C_string (P := Try.prog) (A := A) (c := c) Try.underlying22 Try.underlying5 Try.underlying9 hC
  rw [show ([104, 105] : List Int).length = 2 from rfl] at hcv
  have hst : ((strOfNums [104, 105]).toList == ([104, 105] : List UInt8)) = true := by kernel_rfl
  clear HI HB kc
  have HI := Aside0.mk hi
  have HB := Aside0.mk hb
  clear hi hb hR hlies hC hcell hcl hat
  go_wp2_with fail
  refine (region_Size.calls 2 2 _ ans03_size).mono ?_
  rintro e w5 ⟨rfl, hb5⟩
  have HB5 := Aside0.mk (below_weaken HB.out HB.out.size hb5)
  clear hb5
  go_wp2
  go_ret
  exact ⟨rfl, HB5.out⟩


/-! ### interregnumref01_Same: function 17 -/
def interregnumref01_Same.l0 : Nat → List Int → List Int → Int → Option (Bool)
  | 0, _, _, _ => none
  | k + 1, x0, x1, x5 => if x5 < (x0.length : Int) then (if 0 ≤ x5 then (if x5 < (x1.length : Int) then (if (rd x0 x5) = (rd x1 x5) then (interregnumref01_Same.l0 k x0 x1 (wrap64 (x5 + 1))) else (some false)) else (none)) else (none)) else (some true)
def interregnumref01_Same.f (k : Nat) (l0 : List Int) (l1 : List Int) : Option (Bool) := if (l0.length : Int) = (l1.length : Int) then (interregnumref01_Same.l0 k l0 l1 0) else (some false)
theorem interregnumref01_Same.mono_l : ∀ k, (∀ y0 y1 y2, LeO (interregnumref01_Same.l0 k y0 y1 y2) (interregnumref01_Same.l0 (k + 1) y0 y1 y2))
  | 0 => fun _ _ _ r h => by simp [interregnumref01_Same.l0] at h
  | k + 1 => by
    have ih0 := interregnumref01_Same.mono_l k
    · intro y0 y1 y2
      unfold interregnumref01_Same.l0
      repeat' first
      | (with_reducible exact ih0 _ _ _)
      | (with_reducible exact LeO.refl _)
      | (with_reducible exact LeO.none _)
      | (with_reducible refine LeO.ite ?_ ?_)
      | (with_reducible refine LeO.bind ?_ (fun _ => ?_))
      | exact ih0 _ _ _
      | exact LeO.none _
      | refine LeO.ite ?_ ?_
      | refine LeO.bind ?_ (fun _ => ?_)
theorem interregnumref01_Same.mono : ∀ a0 a1 k, LeO (interregnumref01_Same.f k a0 a1) (interregnumref01_Same.f (k + 1) a0 a1) := by
  intro a0 a1 k
  have ih0 := interregnumref01_Same.mono_l k
  unfold interregnumref01_Same.f
  repeat' first
      | (with_reducible exact ih0 _ _ _)
      | (with_reducible exact LeO.refl _)
      | (with_reducible exact LeO.none _)
      | (with_reducible refine LeO.ite ?_ ?_)
      | (with_reducible refine LeO.bind ?_ (fun _ => ?_))
      | exact ih0 _ _ _
      | exact LeO.none _
      | refine LeO.ite ?_ ?_
      | refine LeO.bind ?_ (fun _ => ?_)
set_option maxHeartbeats 8000000 in
set_option maxRecDepth 100000 in
theorem interregnumref01_Same.calls (k : Nat) (A0 : Option Addr) (c0 : Nat) (l0 : List Int) (A1 : Option Addr) (c1 : Nat) (l1 : List Int) (r : Bool) (w : World) (hr0 : Kd.C (Kd.int .u8) w A0 l0.length l0) (hc0 : l0.length ≤ c0) (hr1 : Kd.C (Kd.int .u8) w A1 l1.length l1) (hc1 : l1.length ≤ c1) (h : interregnumref01_Same.f k l0 l1 = some r) :
    Calls Try.prog 17 #[.slice A0 l0.length c0, .slice A1 l1.length c1] w fun e w' => e = .returned (.bool r) ∧ Drawn0 w w' := by
  have HR0 := Aside0.mk hr0
  have HC0 := Aside0.mk hc0
  clear hr0 hc0
  have HR1 := Aside0.mk hr1
  have HC1 := Aside0.mk hc1
  clear hr1 hc1
  have H : (if (l0.length : Int) = (l1.length : Int) then (interregnumref01_Same.l0 k l0 l1 0) else (some false)) = some r := h
  clear h
  by_cases c3 : (l0.length : Int) = (l1.length : Int)
  · rw [if_pos c3] at H
    have c3b0 : ((l0.length : Int) == (l1.length : Int)) = true := beq_iff_eq.mpr c3
    have c3b1 : ((l0.length : Int) != (l1.length : Int)) = false := bne_eq_false_iff_eq.mpr c3
    have c3b2 : (l0.length == l1.length) = true := by first | simpa using c3 | (simp at c3 ⊢; omega)
    clear c3
    have H' := Aside0.mk H
    clear H
    go_enter Try.func17, Try.ntmps17
    go_wp2
    repeat (go_quiet (fail); try go_wp2)
    go_loopg [5] k (fun kq v5 w' => ∃ (x5_1 : Int), v5 = .int .i64 x5_1 ∧ Aside0 (interregnumref01_Same.l0 kq l0 l1 x5_1 = some r) ∧ Aside0 (kq ≤ k) ∧ Drawn0 w w')
    case atStart => exact ⟨(0), (by first | rfl | (simp; done) | (simp [*]; done)), H', ⟨Nat.le_refl _⟩, by repeat (first | exact Drawn0.refl _ | apply Drawn0.step)⟩
    case round =>
      clear H'
      try clear c1
      try clear p2
      try clear c3
      try clear c3b0
      try clear c3b1
      try clear c3b2
      obtain ⟨x5_1, rfl, HA, HK1, ⟨m1, rfl⟩⟩ := hrel
      cases gk with
      | zero => exact absurd HA.out (by simp [interregnumref01_Same.l0])
      | succ k1 =>
        have H := HA.out
        clear HA
        simp only [interregnumref01_Same.l0] at H
        by_cases c4 : x5_1 < (l0.length : Int)
        · rw [if_pos c4] at H
          have c4b0 : decide (x5_1 < (l0.length : Int)) = true := decide_eq_true c4
          clear c4
          by_cases c5 : 0 ≤ x5_1
          · rw [if_pos c5] at H
            have c5b0 : decide (0 ≤ x5_1) = true := decide_eq_true c5
            clear c5
            by_cases c6 : x5_1 < (l1.length : Int)
            · rw [if_pos c6] at H
              have c6b0 : decide (x5_1 < (l1.length : Int)) = true := decide_eq_true c6
              clear c6
              by_cases c7 : (rd l0 x5_1) = (rd l1 x5_1)
              · rw [if_pos c7] at H
                have c7b0 : ((rd l0 x5_1) == (rd l1 x5_1)) = true := beq_iff_eq.mpr c7
                have c7b1 : ((rd l0 x5_1) != (rd l1 x5_1)) = false := bne_eq_false_iff_eq.mpr c7
                clear c7
                have H' := Aside0.mk H
                clear H
                have p143 : 0 ≤ (x5_1 : Int) := of_decide_eq_true (by first | (with_reducible assumption) | assumption)
                have q143 : x5_1 < (l0.length : Int) := of_decide_eq_true (by first | (with_reducible assumption) | assumption)
                obtain ⟨ad143, e143, hx143_0⟩ := Kd.at_int HR0.out x5_1 p143 q143
                cases e143
                replace p143 := eq_true p143
                replace q143 := eq_true q143
                have p144 : 0 ≤ (x5_1 : Int) := of_decide_eq_true (by first | (with_reducible assumption) | assumption)
                have q144 : x5_1 < (l1.length : Int) := of_decide_eq_true (by first | (with_reducible assumption) | assumption)
                obtain ⟨ad144, e144, hx144_0⟩ := Kd.at_int HR1.out x5_1 p144 q144
                cases e144
                replace p144 := eq_true p144
                replace q144 := eq_true q144
                go_wp2
                repeat (go_quiet (fail); try go_wp2)
                go_roundg k1
                case measure => have := HK1.out; omega
                case rel => exact ⟨(wrap64 (x5_1 + 1)), (by first | rfl | (simp; done) | (simp [*]; done)), H', ⟨by have := HK1.out; omega⟩, by repeat (first | exact Drawn0.refl _ | apply Drawn0.step)⟩
              · rw [if_neg c7] at H
                have c7b0 : ((rd l0 x5_1) == (rd l1 x5_1)) = false := beq_eq_false_iff_ne.mpr c7
                have c7b1 : ((rd l0 x5_1) != (rd l1 x5_1)) = true := bne_iff_ne.mpr c7
                obtain rfl := Option.some.inj H
                have p143 : 0 ≤ (x5_1 : Int) := of_decide_eq_true (by first | (with_reducible assumption) | assumption)
                have q143 : x5_1 < (l0.length : Int) := of_decide_eq_true (by first | (with_reducible assumption) | assumption)
                obtain ⟨ad143, e143, hx143_0⟩ := Kd.at_int HR0.out x5_1 p143 q143
                cases e143
                replace p143 := eq_true p143
                replace q143 := eq_true q143
                have p144 : 0 ≤ (x5_1 : Int) := of_decide_eq_true (by first | (with_reducible assumption) | assumption)
                have q144 : x5_1 < (l1.length : Int) := of_decide_eq_true (by first | (with_reducible assumption) | assumption)
                obtain ⟨ad144, e144, hx144_0⟩ := Kd.at_int HR1.out x5_1 p144 q144
                cases e144
                replace p144 := eq_true p144
                replace q144 := eq_true q144
                go_wp2
                repeat (go_quiet (fail); try go_wp2)
                go_ret
                exact ⟨by first | rfl | (simp; done) | (simp [*]; done), by repeat (first | exact Drawn0.refl _ | apply Drawn0.step)⟩
            · rw [if_neg c6] at H
              exact absurd H (by simp)
          · rw [if_neg c5] at H
            exact absurd H (by simp)
        · rw [if_neg c4] at H
          have c4b0 : decide (x5_1 < (l0.length : Int)) = false := decide_eq_false c4
          clear c4
          obtain rfl := Option.some.inj H
          go_wp2
          repeat (go_quiet (fail); try go_wp2)
          go_ret
          exact ⟨by first | rfl | (simp; done) | (simp [*]; done), by repeat (first | exact Drawn0.refl _ | apply Drawn0.step)⟩
  · rw [if_neg c3] at H
    have c3b0 : ((l0.length : Int) == (l1.length : Int)) = false := beq_eq_false_iff_ne.mpr c3
    have c3b1 : ((l0.length : Int) != (l1.length : Int)) = true := bne_iff_ne.mpr c3
    have c3b2 : (l0.length == l1.length) = false := by first | simpa using c3 | (simp at c3 ⊢; omega)
    obtain rfl := Option.some.inj H
    go_enter Try.func17, Try.ntmps17
    go_wp2
    repeat (go_quiet (fail); try go_wp2)
    go_ret
    exact ⟨by first | rfl | (simp; done) | (simp [*]; done), by repeat (first | exact Drawn0.refl _ | apply Drawn0.step)⟩

/-! ### interregnumref01_Rows: function 27 -/
def interregnumref01_Rows.l0 : Nat → List (List Int) → List (List Int) → Int → Option (Bool)
  | 0, _, _, _ => none
  | k + 1, x0, x1, x5 => if x5 < (x0.length : Int) then (if 0 ≤ x5 then (if x5 < (x1.length : Int) then ((interregnumref01_Same.f k (rd_L1 x0 x5) (rd_L1 x1 x5)).bind fun t147 => (if t147 = true then (interregnumref01_Rows.l0 k x0 x1 (wrap64 (x5 + 1))) else (some false))) else (none)) else (none)) else (some true)
def interregnumref01_Rows.f (k : Nat) (l0 : List (List Int)) (l1 : List (List Int)) : Option (Bool) := if (l0.length : Int) = (l1.length : Int) then (interregnumref01_Rows.l0 k l0 l1 0) else (some false)
theorem interregnumref01_Rows.mono_l : ∀ k, (∀ y0 y1 y2, LeO (interregnumref01_Rows.l0 k y0 y1 y2) (interregnumref01_Rows.l0 (k + 1) y0 y1 y2))
  | 0 => fun _ _ _ r h => by simp [interregnumref01_Rows.l0] at h
  | k + 1 => by
    have ih0 := interregnumref01_Rows.mono_l k
    · intro y0 y1 y2
      unfold interregnumref01_Rows.l0
      repeat' first
      | (with_reducible exact ih0 _ _ _)
      | (with_reducible exact interregnumref01_Same.mono _ _ _)
      | (with_reducible exact LeO.refl _)
      | (with_reducible exact LeO.none _)
      | (with_reducible refine LeO.ite ?_ ?_)
      | (with_reducible refine LeO.bind ?_ (fun _ => ?_))
      | exact ih0 _ _ _
      | exact interregnumref01_Same.mono _ _ _
      | exact LeO.none _
      | refine LeO.ite ?_ ?_
      | refine LeO.bind ?_ (fun _ => ?_)
theorem interregnumref01_Rows.mono : ∀ a0 a1 k, LeO (interregnumref01_Rows.f k a0 a1) (interregnumref01_Rows.f (k + 1) a0 a1) := by
  intro a0 a1 k
  have ih0 := interregnumref01_Rows.mono_l k
  unfold interregnumref01_Rows.f
  repeat' first
      | (with_reducible exact ih0 _ _ _)
      | (with_reducible exact interregnumref01_Same.mono _ _ _)
      | (with_reducible exact LeO.refl _)
      | (with_reducible exact LeO.none _)
      | (with_reducible refine LeO.ite ?_ ?_)
      | (with_reducible refine LeO.bind ?_ (fun _ => ?_))
      | exact ih0 _ _ _
      | exact interregnumref01_Same.mono _ _ _
      | exact LeO.none _
      | refine LeO.ite ?_ ?_
      | refine LeO.bind ?_ (fun _ => ?_)
set_option maxHeartbeats 8000000 in
set_option maxRecDepth 100000 in
theorem interregnumref01_Rows.calls (k : Nat) (A0 : Option Addr) (c0 : Nat) (l0 : List (List Int)) (A1 : Option Addr) (c1 : Nat) (l1 : List (List Int)) (r : Bool) (w : World) (hr0 : Kd.C (Kd.slice 5 (Kd.int .u8)) w A0 l0.length l0) (hc0 : l0.length ≤ c0) (hr1 : Kd.C (Kd.slice 5 (Kd.int .u8)) w A1 l1.length l1) (hc1 : l1.length ≤ c1) (h : interregnumref01_Rows.f k l0 l1 = some r) :
    Calls Try.prog 27 #[.slice A0 l0.length c0, .slice A1 l1.length c1] w fun e w' => e = .returned (.bool r) ∧ Drawn0 w w' := by
  have HR0 := Aside0.mk hr0
  have HC0 := Aside0.mk hc0
  clear hr0 hc0
  have HR1 := Aside0.mk hr1
  have HC1 := Aside0.mk hc1
  clear hr1 hc1
  have H : (if (l0.length : Int) = (l1.length : Int) then (interregnumref01_Rows.l0 k l0 l1 0) else (some false)) = some r := h
  clear h
  by_cases c3 : (l0.length : Int) = (l1.length : Int)
  · rw [if_pos c3] at H
    have c3b0 : ((l0.length : Int) == (l1.length : Int)) = true := beq_iff_eq.mpr c3
    have c3b1 : ((l0.length : Int) != (l1.length : Int)) = false := bne_eq_false_iff_eq.mpr c3
    have c3b2 : (l0.length == l1.length) = true := by first | simpa using c3 | (simp at c3 ⊢; omega)
    clear c3
    have H' := Aside0.mk H
    clear H
    go_enter Try.func27, Try.ntmps27
    go_wp2
    repeat (go_quiet (fail); try go_wp2)
    go_loopg [5] k (fun kq v5 w' => ∃ (x5_1 : Int), v5 = .int .i64 x5_1 ∧ Aside0 (interregnumref01_Rows.l0 kq l0 l1 x5_1 = some r) ∧ Aside0 (kq ≤ k) ∧ Drawn0 w w')
    case atStart => exact ⟨(0), (by first | rfl | (simp; done) | (simp [*]; done)), H', ⟨Nat.le_refl _⟩, by repeat (first | exact Drawn0.refl _ | apply Drawn0.step)⟩
    case round =>
      clear H'
      try clear c1
      try clear c2
      try clear p2
      try clear c3
      try clear c3b0
      try clear c3b1
      try clear c3b2
      obtain ⟨x5_1, rfl, HA, HK1, ⟨m1, rfl⟩⟩ := hrel
      cases gk with
      | zero => exact absurd HA.out (by simp [interregnumref01_Rows.l0])
      | succ k1 =>
        have H := HA.out
        clear HA
        simp only [interregnumref01_Rows.l0] at H
        by_cases c4 : x5_1 < (l0.length : Int)
        · rw [if_pos c4] at H
          have c4b0 : decide (x5_1 < (l0.length : Int)) = true := decide_eq_true c4
          clear c4
          by_cases c5 : 0 ≤ x5_1
          · rw [if_pos c5] at H
            have c5b0 : decide (0 ≤ x5_1) = true := decide_eq_true c5
            clear c5
            by_cases c6 : x5_1 < (l1.length : Int)
            · rw [if_pos c6] at H
              have c6b0 : decide (x5_1 < (l1.length : Int)) = true := decide_eq_true c6
              clear c6
              replace H := Option.bind_eq_some_iff.mp H
              obtain ⟨t147, A70, H⟩ := H
              replace H : (if t147 = true then (interregnumref01_Rows.l0 k1 l0 l1 (wrap64 (x5_1 + 1))) else (some false)) = some r := H
              have A7 := Aside0.mk A70
              clear A70
              by_cases c8 : t147 = true
              · subst c8
                have H1 : (interregnumref01_Rows.l0 k1 l0 l1 (wrap64 (x5_1 + 1))) = some r := by rw [if_pos rfl] at H; exact H
                clear H
                have H := H1
                clear H1
                have H' := Aside0.mk H
                clear H
                have p145 : 0 ≤ (x5_1 : Int) := of_decide_eq_true (by first | (with_reducible assumption) | assumption)
                have q145 : x5_1 < (l0.length : Int) := of_decide_eq_true (by first | (with_reducible assumption) | assumption)
                obtain ⟨ad145, A145_0, c145_0, e145, hx145_0, hl145_0, hi145_0⟩ := at_L1 HR0.out x5_1 p145 q145
                cases e145
                have HR145_0 := Aside0.mk hi145_0
                have HC145_0 := Aside0.mk hl145_0
                clear hi145_0 hl145_0
                replace p145 := eq_true p145
                replace q145 := eq_true q145
                have p146 : 0 ≤ (x5_1 : Int) := of_decide_eq_true (by first | (with_reducible assumption) | assumption)
                have q146 : x5_1 < (l1.length : Int) := of_decide_eq_true (by first | (with_reducible assumption) | assumption)
                obtain ⟨ad146, A146_0, c146_0, e146, hx146_0, hl146_0, hi146_0⟩ := at_L1 HR1.out x5_1 p146 q146
                cases e146
                have HR146_0 := Aside0.mk hi146_0
                have HC146_0 := Aside0.mk hl146_0
                clear hi146_0 hl146_0
                replace p146 := eq_true p146
                replace q146 := eq_true q146
                go_wp2_with (first | (go_at_call 17; (with_reducible refine (interregnumref01_Same.calls k1 _ _ (rd_L1 l0 x5_1) _ _ (rd_L1 l1 x5_1) true _ ?side1 ?side2 ?side3 ?side4 A7.out).mono ?_); (case side1 => repeat (first | exact HR145_0.out | (with_reducible refine Kd.C_alloc ?_ _) | (with_reducible refine Kd.C_drewN ?_ _) | (with_reducible refine Kd.C_drew ?_))); (case side2 => exact HC145_0.out); (case side3 => repeat (first | exact HR146_0.out | (with_reducible refine Kd.C_alloc ?_ _) | (with_reducible refine Kd.C_drewN ?_ _) | (with_reducible refine Kd.C_drew ?_))); (case side4 => exact HC146_0.out); rintro e w' ⟨rfl, ⟨nd, rfl⟩⟩; (try first | exact ⟨rfl, _, World.drewN_drewN _ _ _⟩ | exact ⟨rfl, _, Eq.trans (World.drewN_drewN _ _ _) (congrArg (World.drewN _) (Nat.add_assoc _ _ _))⟩)))
                repeat (go_quiet (first | (go_at_call 17; (with_reducible refine (interregnumref01_Same.calls k1 _ _ (rd_L1 l0 x5_1) _ _ (rd_L1 l1 x5_1) true _ ?side1 ?side2 ?side3 ?side4 A7.out).mono ?_); (case side1 => repeat (first | exact HR145_0.out | (with_reducible refine Kd.C_alloc ?_ _) | (with_reducible refine Kd.C_drewN ?_ _) | (with_reducible refine Kd.C_drew ?_))); (case side2 => exact HC145_0.out); (case side3 => repeat (first | exact HR146_0.out | (with_reducible refine Kd.C_alloc ?_ _) | (with_reducible refine Kd.C_drewN ?_ _) | (with_reducible refine Kd.C_drew ?_))); (case side4 => exact HC146_0.out); rintro e w' ⟨rfl, ⟨nd, rfl⟩⟩; (try first | exact ⟨rfl, _, World.drewN_drewN _ _ _⟩ | exact ⟨rfl, _, Eq.trans (World.drewN_drewN _ _ _) (congrArg (World.drewN _) (Nat.add_assoc _ _ _))⟩))); try go_wp2_with (first | (go_at_call 17; (with_reducible refine (interregnumref01_Same.calls k1 _ _ (rd_L1 l0 x5_1) _ _ (rd_L1 l1 x5_1) true _ ?side1 ?side2 ?side3 ?side4 A7.out).mono ?_); (case side1 => repeat (first | exact HR145_0.out | (with_reducible refine Kd.C_alloc ?_ _) | (with_reducible refine Kd.C_drewN ?_ _) | (with_reducible refine Kd.C_drew ?_))); (case side2 => exact HC145_0.out); (case side3 => repeat (first | exact HR146_0.out | (with_reducible refine Kd.C_alloc ?_ _) | (with_reducible refine Kd.C_drewN ?_ _) | (with_reducible refine Kd.C_drew ?_))); (case side4 => exact HC146_0.out); rintro e w' ⟨rfl, ⟨nd, rfl⟩⟩; (try first | exact ⟨rfl, _, World.drewN_drewN _ _ _⟩ | exact ⟨rfl, _, Eq.trans (World.drewN_drewN _ _ _) (congrArg (World.drewN _) (Nat.add_assoc _ _ _))⟩))))
                go_roundg k1
                case measure => have := HK1.out; omega
                case rel => exact ⟨(wrap64 (x5_1 + 1)), (by first | rfl | (simp; done) | (simp [*]; done)), H', ⟨by have := HK1.out; omega⟩, by repeat (first | exact Drawn0.refl _ | apply Drawn0.step)⟩
              · replace c8 := Bool.eq_false_iff.mpr c8
                subst c8
                have H1 : (some false) = some r := by rw [if_neg (show ¬ (false = true) by decide)] at H; exact H
                clear H
                have H := H1
                clear H1
                obtain rfl := Option.some.inj H
                have p145 : 0 ≤ (x5_1 : Int) := of_decide_eq_true (by first | (with_reducible assumption) | assumption)
                have q145 : x5_1 < (l0.length : Int) := of_decide_eq_true (by first | (with_reducible assumption) | assumption)
                obtain ⟨ad145, A145_0, c145_0, e145, hx145_0, hl145_0, hi145_0⟩ := at_L1 HR0.out x5_1 p145 q145
                cases e145
                have HR145_0 := Aside0.mk hi145_0
                have HC145_0 := Aside0.mk hl145_0
                clear hi145_0 hl145_0
                replace p145 := eq_true p145
                replace q145 := eq_true q145
                have p146 : 0 ≤ (x5_1 : Int) := of_decide_eq_true (by first | (with_reducible assumption) | assumption)
                have q146 : x5_1 < (l1.length : Int) := of_decide_eq_true (by first | (with_reducible assumption) | assumption)
                obtain ⟨ad146, A146_0, c146_0, e146, hx146_0, hl146_0, hi146_0⟩ := at_L1 HR1.out x5_1 p146 q146
                cases e146
                have HR146_0 := Aside0.mk hi146_0
                have HC146_0 := Aside0.mk hl146_0
                clear hi146_0 hl146_0
                replace p146 := eq_true p146
                replace q146 := eq_true q146
                go_wp2_with (first | (go_at_call 17; (with_reducible refine (interregnumref01_Same.calls k1 _ _ (rd_L1 l0 x5_1) _ _ (rd_L1 l1 x5_1) false _ ?side1 ?side2 ?side3 ?side4 A7.out).mono ?_); (case side1 => repeat (first | exact HR145_0.out | (with_reducible refine Kd.C_alloc ?_ _) | (with_reducible refine Kd.C_drewN ?_ _) | (with_reducible refine Kd.C_drew ?_))); (case side2 => exact HC145_0.out); (case side3 => repeat (first | exact HR146_0.out | (with_reducible refine Kd.C_alloc ?_ _) | (with_reducible refine Kd.C_drewN ?_ _) | (with_reducible refine Kd.C_drew ?_))); (case side4 => exact HC146_0.out); rintro e w' ⟨rfl, ⟨nd, rfl⟩⟩; (try first | exact ⟨rfl, _, World.drewN_drewN _ _ _⟩ | exact ⟨rfl, _, Eq.trans (World.drewN_drewN _ _ _) (congrArg (World.drewN _) (Nat.add_assoc _ _ _))⟩)))
                repeat (go_quiet (first | (go_at_call 17; (with_reducible refine (interregnumref01_Same.calls k1 _ _ (rd_L1 l0 x5_1) _ _ (rd_L1 l1 x5_1) false _ ?side1 ?side2 ?side3 ?side4 A7.out).mono ?_); (case side1 => repeat (first | exact HR145_0.out | (with_reducible refine Kd.C_alloc ?_ _) | (with_reducible refine Kd.C_drewN ?_ _) | (with_reducible refine Kd.C_drew ?_))); (case side2 => exact HC145_0.out); (case side3 => repeat (first | exact HR146_0.out | (with_reducible refine Kd.C_alloc ?_ _) | (with_reducible refine Kd.C_drewN ?_ _) | (with_reducible refine Kd.C_drew ?_))); (case side4 => exact HC146_0.out); rintro e w' ⟨rfl, ⟨nd, rfl⟩⟩; (try first | exact ⟨rfl, _, World.drewN_drewN _ _ _⟩ | exact ⟨rfl, _, Eq.trans (World.drewN_drewN _ _ _) (congrArg (World.drewN _) (Nat.add_assoc _ _ _))⟩))); try go_wp2_with (first | (go_at_call 17; (with_reducible refine (interregnumref01_Same.calls k1 _ _ (rd_L1 l0 x5_1) _ _ (rd_L1 l1 x5_1) false _ ?side1 ?side2 ?side3 ?side4 A7.out).mono ?_); (case side1 => repeat (first | exact HR145_0.out | (with_reducible refine Kd.C_alloc ?_ _) | (with_reducible refine Kd.C_drewN ?_ _) | (with_reducible refine Kd.C_drew ?_))); (case side2 => exact HC145_0.out); (case side3 => repeat (first | exact HR146_0.out | (with_reducible refine Kd.C_alloc ?_ _) | (with_reducible refine Kd.C_drewN ?_ _) | (with_reducible refine Kd.C_drew ?_))); (case side4 => exact HC146_0.out); rintro e w' ⟨rfl, ⟨nd, rfl⟩⟩; (try first | exact ⟨rfl, _, World.drewN_drewN _ _ _⟩ | exact ⟨rfl, _, Eq.trans (World.drewN_drewN _ _ _) (congrArg (World.drewN _) (Nat.add_assoc _ _ _))⟩))))
                go_ret
                exact ⟨by first | rfl | (simp; done) | (simp [*]; done), by repeat (first | exact Drawn0.refl _ | apply Drawn0.step)⟩
            · rw [if_neg c6] at H
              exact absurd H (by simp)
          · rw [if_neg c5] at H
            exact absurd H (by simp)
        · rw [if_neg c4] at H
          have c4b0 : decide (x5_1 < (l0.length : Int)) = false := decide_eq_false c4
          clear c4
          obtain rfl := Option.some.inj H
          go_wp2
          repeat (go_quiet (fail); try go_wp2)
          go_ret
          exact ⟨by first | rfl | (simp; done) | (simp [*]; done), by repeat (first | exact Drawn0.refl _ | apply Drawn0.step)⟩
  · rw [if_neg c3] at H
    have c3b0 : ((l0.length : Int) == (l1.length : Int)) = false := beq_eq_false_iff_ne.mpr c3
    have c3b1 : ((l0.length : Int) != (l1.length : Int)) = true := bne_iff_ne.mpr c3
    have c3b2 : (l0.length == l1.length) = false := by first | simpa using c3 | (simp at c3 ⊢; omega)
    obtain rfl := Option.some.inj H
    go_enter Try.func27, Try.ntmps27
    go_wp2
    repeat (go_quiet (fail); try go_wp2)
    go_ret
    exact ⟨by first | rfl | (simp; done) | (simp [*]; done), by repeat (first | exact Drawn0.refl _ | apply Drawn0.step)⟩

/-! ### interregnumlaw03_RegionTorn: function 10 -/
-- FN rounds=1 making=1
-- IMPORT Derived.Test.YtjaibpphlbddoaaMid
-- IMPORT Derived.Test.YtjaibpphlbddoaaHelp
def interregnumlaw03_RegionTorn.f (k : Nat) (l0 l1 : List Int) (a2 a3 a4 a5 : Int) : Option Bool :=
  if (l0.length : Int) > 400 ∨ (l1.length : Int) > 400 then some true else
    (region_Lay.f k (Disk.new 30) 2 30 5 l0).bind fun t1 => (region_Lay.f k { t1.2.2 with fuse := a2 % 10 } t1.1 30 5 l1).bind fun t2 => (region_Scan.f k (Disk.crash t2.2.2 a3 a4 a5) 2 30 5).bind fun t3 =>
      if t1.2.1 = 0 ∧ t2.2.2.loose.length < 1000000 ∧ 0 ≤ a2 ∧ a2 < 256 ∧ ((t3.1 = [l0, l1] ∧ interregnumref01_Rows.f k [l0, l1] [l0, l1] = some true) ∨ (t3.1 = [l0] ∧ t2.2.1 ≠ 0 ∧ interregnumref01_Rows.f k [l0] [l0, l1] = some false ∧ interregnumref01_Rows.f k [l0] [l0] = some true)) then some true else none
theorem rows_C {w : World} {A : Option Addr} {n : Nat} {c : Nat} {xs : List Int} {L : List (Option Addr × Nat × Nat)} {B : Option Addr} {r : List (List Int)} (hC : Kd.C (Kd.scalar sliceV sliceV_one) w B L.length L) (hL : RowsAt w L r) : Kd.C (Kd.slice 5 (Kd.int .u8)) w B r.length r := by
  obtain ⟨hn, hm, hc⟩ := hC
  refine ⟨rfl, by have := hL.1; omega, fun h0 => ?_⟩
  obtain ⟨ad, e, hcell⟩ := hc (by have := hL.1; omega)
  refine ⟨ad, e, fun j xs hj => ?_⟩
  have hjl : j < L.length := by rw [hL.1]; exact (List.getElem?_eq_some_iff.1 hj).1
  obtain ⟨cs, h1, h2, h3⟩ := hcell j _ (List.getElem?_eq_getElem hjl)
  obtain ⟨p1, p2, p3⟩ := hL.2 j _ xs (List.getElem?_eq_getElem hjl) hj
  refine ⟨cs, h1, ⟨(L[j]).1, (L[j]).2.2, ?_, p2, Lies.C p3⟩, h3⟩
  have h2' : cs = [sliceV L[j]] := h2
  rw [h2']
  unfold sliceV
  rw [p1]
theorem lit_C {w : World} {b : Nat} {L : List (Option Addr × Nat × Nat)} {r : List (List Int)} (hb : w.heap[b]? = some (.cells (L.map sliceV).toArray 22 (0, 0))) (hl : L.length = r.length) (hm : r.length ≤ 9223372036854775807)
    (h : ∀ (j : Nat) p xs, L[j]? = some p → r[j]? = some xs → p.2.1 = xs.length ∧ xs.length ≤ p.2.2 ∧ Kd.C (Kd.int .u8) w p.1 xs.length xs) : Kd.C (Kd.slice 5 (Kd.int .u8)) w (some ⟨b, 0, none⟩) r.length r := by
  refine ⟨rfl, hm, fun h0 => ⟨_, rfl, fun j xs hj => ?_⟩⟩
  have hjl : j < L.length := by rw [hl]; exact (List.getElem?_eq_some_iff.1 hj).1
  obtain ⟨p1, p2, p3⟩ := h j _ xs (List.getElem?_eq_getElem hjl) hj
  refine ⟨[sliceV L[j]], rfl, ⟨(L[j]).1, (L[j]).2.2, by unfold sliceV; rw [p1], p2, p3⟩, fun i u hi => ?_⟩
  match i, hi with
  | 0, hi =>
    simp only [List.getElem?_cons_zero, Option.some.injEq] at hi
    subst hi
    have e : (⟨b, 0, none⟩ : Addr).add (j * 1 + 0) = ⟨b, j, none⟩ := by
      unfold Addr.add
      split
      · rename_i h0; congr 1; omega
      · show (⟨b, 0 + (j * 1 + 0), none⟩ : Addr) = _
        rw [Nat.zero_add, Nat.add_zero, Nat.mul_one]
    show w.cell? ((⟨b, 0, none⟩ : Addr).add (j * 1 + 0)) = _
    rw [e, blk_cell hb j, List.getElem?_toArray, List.getElem?_map, List.getElem?_eq_getElem hjl]
    rfl
set_option maxHeartbeats 4000000 in
set_option maxRecDepth 100000 in
open Go.Proofs.Ytjaibpphlbddoaa.Opq in
theorem interregnumlaw03_RegionTorn.calls (k : Nat) (A0 : Option Addr) (c0 : Nat) (l0 : List Int) (A1 : Option Addr) (c1 : Nat) (l1 : List Int) (a2 : Int) (a3 : Int) (a4 : Int) (a5 : Int) (r : Bool) (w : World) (hr0 : Kd.C (Kd.int .u8) w A0 l0.length l0) (hc0 : l0.length ≤ c0) (hr1 : Kd.C (Kd.int .u8) w A1 l1.length l1) (hc1 : l1.length ≤ c1) (h : interregnumlaw03_RegionTorn.f k l0 l1 a2 a3 a4 a5 = some r) :
    Calls Try.prog 10 #[.slice A0 l0.length c0, .slice A1 l1.length c1, .int .u8 a2, .int .u64 a3, .int .i64 a4, .int .i64 a5] w fun e w' => e = .returned (.bool r) ∧ Below w.heap.size w w' := by
  unfold interregnumlaw03_RegionTorn.f at h
  have HA := Aside0.mk (show ∀ W, Calls Try.prog 24 #[] W fun e w' => e = .returned (.bool true) ∧ Below W.heap.size W w' from fun W => interregnumlaw03_answers.calls true W rfl)
  by_cases hl : (l0.length : Int) > 400
  · rw [if_pos (.inl hl)] at h
    obtain rfl := Option.some.inj h
    have d0 : decide ((l0.length : Int) > 400) = true := decide_eq_true hl
    have d1 : decide (l0.length > 400) = true := decide_eq_true (by omega)
    clear hr0 hc0 hr1 hc1 h hl
    go_enter Try.func10, Try.ntmps10
    go_wp2_with (go_at_call 24; refine (HA.out _).mono ?_; rintro e w1 ⟨rfl, hb⟩; have HB := Aside0.mk hb; clear hb)
    go_ret
    exact ⟨rfl, HB.out⟩
  have d0 : decide ((l0.length : Int) > 400) = false := decide_eq_false hl
  have d1 : decide (l0.length > 400) = false := decide_eq_false (by omega)
  by_cases hl2 : (l1.length : Int) > 400
  · rw [if_pos (.inr hl2)] at h
    obtain rfl := Option.some.inj h
    have d2 : decide ((l1.length : Int) > 400) = true := decide_eq_true hl2
    have d3 : decide (l1.length > 400) = true := decide_eq_true (by omega)
    clear hr0 hc0 hr1 hc1 h hl hl2
    go_enter Try.func10, Try.ntmps10
    go_wp2_with (go_at_call 24; refine (HA.out _).mono ?_; rintro e w1 ⟨rfl, hb⟩; have HB := Aside0.mk hb; clear hb)
    go_ret
    exact ⟨rfl, HB.out⟩
  have d2 : decide ((l1.length : Int) > 400) = false := decide_eq_false hl2
  have d3 : decide (l1.length > 400) = false := decide_eq_false (by omega)
  rw [if_neg (by rintro (h1 | h1); exact hl h1; exact hl2 h1)] at h
  obtain ⟨⟨n, e1, s1⟩, hlay, h⟩ := Option.bind_eq_some_iff.mp h
  obtain ⟨⟨n2, e2, s2⟩, hlay2, h⟩ := Option.bind_eq_some_iff.mp h
  obtain ⟨⟨x1, y1, s3⟩, hsc, h⟩ := Option.bind_eq_some_iff.mp h
  dsimp only at hlay2 hsc h
  split at h
  case isFalse => cases h
  case isTrue hg =>
  obtain rfl := Option.some.inj h
  obtain ⟨rfl, hloose, b0, b1, hg⟩ := hg
  have HLAY := Aside0.mk hlay
  have HLAY2 := Aside0.mk hlay2
  have HSC := Aside0.mk hsc
  have HG := Aside0.mk hg
  have HLO := Aside0.mk hloose
  have HR0 := Aside0.mk hr0
  have HC0 := Aside0.mk hc0
  have HR1 := Aside0.mk hr1
  have HC1 := Aside0.mk hc1
  clear hlay hlay2 hsc hg hloose hr0 hc0 hr1 hc1 h hl hl2
  have tm : Int.tmod a2 10 = a2 % 10 := Int.tmod_eq_emod_of_nonneg b0
  have wr1 : IntKind.u8.wrap (a2 % 10) = a2 % 10 := by simp [IntKind.wrap, IntKind.bits, IntKind.signed]; omega
  have wr2 : IntKind.i64.wrap (a2 % 10) = a2 % 10 := by rw [i64_w]; unfold wrap64; omega
  go_enter Try.func10, Try.ntmps10
  go_wp2_with fail
  refine (sector_New.calls 30 (Disk.new 30) w w (Below.refl _ _) rfl).mono ?_
  rintro e w1 ⟨g, rfl, hi, hb, _⟩
  have HI := Aside0.mk hi
  have HB := Aside0.mk hb
  clear hi hb
  go_wp2_with fail
  refine (region_Lay.calls k g (Disk.new 30) 2 30 5 A0 c0 l0 n 0 s1 w w1 HI.out HB.out (C_came (Kd.heap_int _) HR0.out HB.out) HC0.out HLAY.out).mono ?_
  rintro e w2 ⟨rfl, hi, hb, _⟩
  clear HI HB
  have HI := Aside0.mk hi
  have HB := Aside0.mk hb
  clear hi hb
  go_wp2_with fail
  refine (sector_Disk_Fuse.calls g s1 (a2 % 10) { s1 with fuse := a2 % 10 } w w2 HI.out HB.out (by unfold sector_Disk_Fuse.f mx; rw [if_neg (by omega)])).mono ?_
  rintro e w3 ⟨rfl, hi, hb, _⟩
  clear HI HB
  have HI := Aside0.mk hi
  have HB := Aside0.mk hb
  clear hi hb
  go_wp2_with fail
  refine (region_Lay.calls k g _ n 30 5 A1 c1 l1 n2 e2 s2 w w3 HI.out HB.out (C_came (Kd.heap_int _) HR1.out HB.out) HC1.out HLAY2.out).mono ?_
  rintro e w4 ⟨rfl, hi, hb, _⟩
  clear HI HB
  have HI := Aside0.mk hi
  have HB := Aside0.mk hb
  clear hi hb
  go_wp2_with fail
  refine (sector_Disk_Crash.calls g s2 a3 a4 a5 _ w w4 HI.out HB.out (by unfold sector_Disk_Crash.f; rw [if_pos HLO.out])).mono ?_
  rintro e w5 ⟨rfl, hi, hb, _⟩
  clear HI HB
  have HI := Aside0.mk hi
  have HB := Aside0.mk hb
  clear hi hb
  go_wp2_with fail
  refine (region_Scan.calls k g _ 2 30 5 x1 y1 s3 w w5 HI.out HB.out HSC.out).mono ?_
  rintro e w6 ⟨v1, L1, rfl, hR, hL, hi, hb, _⟩
  obtain ⟨B2, c2, rfl⟩ := Kd.R_slice hR
  have hl1 := hL.1
  have HCR := Aside0.mk (rows_C (c := c2) (n := 0) (A := none) (xs := []) (Kd.R_reads' hR).2.2 hL)
  have HCC := Aside0.mk (Kd.R_reads' hR).2.1
  clear HI HB hR hL
  have HB := Aside0.mk hb
  clear hi hb
  rw [hl1] at HCC ⊢
  clear hl1
  have hblk1 := heap_alloc_new w6 (.cells #[.slice A0 l0.length c0] 22)
  have hblk2 := heap_alloc_new (w6.alloc (.cells #[.slice A0 l0.length c0] 22)) (.cells #[.slice A0 l0.length c0, .slice A1 l1.length c1] 22)
  have hblk1' := (below_alloc (Below.refl _ (w6.alloc (.cells #[.slice A0 l0.length c0] 22))) (.cells #[.slice A0 l0.length c0, .slice A1 l1.length c1] 22)).block _ (blk_lt hblk1) |>.trans hblk1
  have hbA := below_alloc (below_alloc HB.out (.cells #[.slice A0 l0.length c0] 22)) (.cells #[.slice A0 l0.length c0, .slice A1 l1.length c1] 22)
  have hbB := below_alloc (below_alloc (Below.refl w6.heap.size w6) (.cells #[.slice A0 l0.length c0] 22)) (.cells #[.slice A0 l0.length c0, .slice A1 l1.length c1] 22)
  have hin0 := Kd.C_below HR0.out hbA
  have hin1 := Kd.C_below HR1.out hbA
  have hC1 := lit_C (L := [(A0, l0.length, c0)]) (r := [l0]) hblk1' rfl (by show 1 ≤ _; omega) (fun j p xs h1 h2 => by
    match j, h1, h2 with
    | 0, h1, h2 =>
      simp only [List.getElem?_cons_zero, Option.some.injEq] at h1 h2
      subst h1 h2
      exact ⟨rfl, HC0.out, hin0⟩)
  have hC2 := lit_C (L := [(A0, l0.length, c0), (A1, l1.length, c1)]) (r := [l0, l1]) hblk2 rfl (by show 2 ≤ _; omega) (fun j p xs h1 h2 => by
    match j, h1, h2 with
    | 0, h1, h2 =>
      simp only [List.getElem?_cons_zero, Option.some.injEq] at h1 h2
      subst h1 h2
      exact ⟨rfl, HC0.out, hin0⟩
    | 1, h1, h2 =>
      simp only [List.getElem?_cons_succ, List.getElem?_cons_zero, Option.some.injEq] at h1 h2
      subst h1 h2
      exact ⟨rfl, HC1.out, hin1⟩)
  rw [Go.Proofs.Ytjaibpphlbddoaa.Help.alloc_size] at hC2
  have HX1 := Aside0.mk hC1
  have HX2 := Aside0.mk hC2
  have HCR := Aside0.mk (Kd.C_below HCR.out hbB)
  have HBA := Aside0.mk hbA
  clear hblk1 hblk2 hblk1' hbA hbB hin0 hin1 hC1 hC2
  go_wp2_with fail
  refine (HA.out _).mono ?_
  rintro e w7 ⟨rfl, hb7⟩
  have HB7 := Aside0.mk (below_weaken HBA.out HBA.out.size hb7)
  have HCR7 := Aside0.mk (Kd.C_below HCR.out hb7)
  have HX17 := Aside0.mk (Kd.C_below HX1.out hb7)
  have HX27 := Aside0.mk (Kd.C_below HX2.out hb7)
  clear hb7 HB HCR HX1 HX2 HBA
  rcases HG.out with ⟨hx, hr2⟩ | ⟨hx, he2, hrf, hr1⟩
  · subst hx
    have HRW := Aside0.mk hr2
    clear hr2 HG
    go_wp2_with fail
    refine (interregnumref01_Rows.calls k B2 c2 [l0, l1] _ 2 [l0, l1] true _ HCR7.out HCC.out HX27.out (Nat.le_refl _) HRW.out).mono ?_
    rintro e w8 ⟨rfl, hd8⟩
    have HB8 := Aside0.mk (below_weaken HB7.out HB7.out.size hd8.below)
    clear hd8
    go_wp2
    go_ret
    exact ⟨rfl, HB8.out⟩
  · subst hx
    have HRF := Aside0.mk hrf
    have HRW := Aside0.mk hr1
    have d4 : (e2 != 0) = true := bne_iff_ne.2 he2
    have d5 : decide (e2 = 0) = false := decide_eq_false he2
    clear hrf hr1 HG
    go_wp2_with fail
    refine (interregnumref01_Rows.calls k B2 c2 [l0] _ 2 [l0, l1] false _ HCR7.out HCC.out HX27.out (Nat.le_refl _) HRF.out).mono ?_
    rintro e w8 ⟨rfl, hd8⟩
    have HB8 := Aside0.mk (below_weaken HB7.out HB7.out.size hd8.below)
    have HCR8 := Aside0.mk (Kd.C_below HCR7.out hd8.below)
    have HX18 := Aside0.mk (Kd.C_below HX17.out hd8.below)
    clear hd8
    go_wp2_with fail
    refine (interregnumref01_Rows.calls k B2 c2 [l0] _ 1 [l0] true _ HCR8.out HCC.out HX18.out (Nat.le_refl _) HRW.out).mono ?_
    rintro e w9 ⟨rfl, hd9⟩
    have HB9 := Aside0.mk (below_weaken HB8.out HB8.out.size hd9.below)
    clear hd9
    go_wp2
    go_ret
    exact ⟨rfl, HB9.out⟩


end Go.Proofs.Ytjaibpphlbddoaa.PRegionTorn
