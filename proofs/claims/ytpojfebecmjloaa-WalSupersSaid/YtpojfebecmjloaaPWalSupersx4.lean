-- Lean text by a program of this repo (wip/tools/printx.py), out of Lean's own print of the translation
import Derived.Deep.RegionWith
import Derived.RegionCalls
import Derived.BigQuiet
import Derived.Deep.QuietTactic
import Derived.Test.YtpojfebecmjloaaMid
import Derived.Test.YtpojfebecmjloaaPWalSupersx0
import Derived.Test.YtpojfebecmjloaaPWalSupersx1
import Derived.Test.YtpojfebecmjloaaPWalSupersx2
import Derived.Test.YtpojfebecmjloaaPWalSupersx3
namespace Go.Proofs.Ytpojfebecmjloaa.PWalSupers
open Go.RowKit Go.Proofs.YtpojfebecmjloaaW.PrintWords Go.Proofs.YtpojfebecmjloaaW.PrintLast Go.Proofs.YtpojfebecmjloaaW.PrintMore
attribute [local go_sem] max2_int min2_int max_two min_two max_three min_three max_four min_four   -- for this text's walks alone
set_option linter.unusedVariables false
set_option linter.unusedSimpArgs false

/-! ### region_one: function 48 -/
-- FN rounds=1 making=1
-- IMPORT Derived.Test.YtpojfebecmjloaaMid
-- IMPORT Derived.Deep.QuietTactic
-- IMPORT Derived.BigQuiet
-- IMPORT Derived.RegionCalls
-- IMPORT Derived.Deep.RegionWith
mutual
def region_one.j0 : Nat → Int → Int → Int → List Int → Bool → Disk.DiskM → Option (List Int × Bool × Disk.DiskM)
  | 0, _, _, _, _, _, _ => none
  | k + 1, x1, x2, x3, x10, x46, x1000 => if x46 = true then (some (([] : List Int), false, x1000)) else (if 4 ≤ (x10.length : Int) then ((region_Get.f (x10.drop 4)).bind fun t165 => (if (wrap64 (t165)) > 8192 then (region_one.j1 k x1 x3 x10 (wrap64 (t165)) true x1000) else ((region_Size.f (wrap64 (t165))).bind fun t166 => ((sector_Disk_Len.f x1000).bind fun bt167 => (region_one.j1 k x1 x3 x10 (wrap64 (t165)) (decide (t166 > (wrap64 ((mn x2 bt167.1) - x1)))) bt167.2))))) else (none))
def region_one.j1 : Nat → Int → Int → List Int → Int → Bool → Disk.DiskM → Option (List Int × Bool × Disk.DiskM)
  | 0, _, _, _, _, _, _ => none
  | k + 1, x1, x3, x10, x12, x63, x1000 => if x63 = true then (some (([] : List Int), false, x1000)) else (region_one.l0 k x1 x3 x10 x12 ([] : List Int) 1 x1000)
def region_one.l0 : Nat → Int → Int → List Int → Int → List Int → Int → Disk.DiskM → Option (List Int × Bool × Disk.DiskM)
  | 0, _, _, _, _, _, _, _ => none
  | k + 1, x1, x3, x10, x12, x13, x14, x1000 => (region_Size.f x12).bind fun t169 => (if x14 < t169 then ((sector_Disk_Read.f x1000 (wrap64 (x1 + x14))).bind fun bt170 => (if x13.length + bt170.1.length < 140737488355328 then (region_one.l0 k x1 x3 x10 x12 (x13 ++ bt170.1) (wrap64 (x14 + 1)) bt170.2.2) else (none))) else (if 0 ≤ x12 then (if x12 ≤ (x13.length : Int) then ((some (x13.take (x12 : Int).toNat : List Int)).bind fun y182 => ((region_first.f k x3 y182).bind fun t185 => (if 16 ≤ (x10.length : Int) then ((bytes_Equal.f t185 (x10.take 16)).bind fun t192 => (if t192 = true then ((region_zero.f (x10.drop 16)).bind fun t197 => (if t197 = true then ((region_zero.f (x13.drop (x12 : Int).toNat)).bind fun t198 => (some (y182, t198, x1000))) else (some (y182, false, x1000)))) else (some (y182, false, x1000)))) else (none)))) else (none)) else (none)))
end
def region_one.f (k : Nat) (s0_0 : Disk.DiskM) (a1 : Int) (a2 : Int) (a3 : Int) : Option (List Int × Bool × Disk.DiskM) := (sector_Disk_Read.f s0_0 a1).bind fun bt145 => (if bt145.2.1 = 0 then (if a1 ≥ a2 then (region_one.j0 k a1 a2 a3 bt145.1 true bt145.2.2) else ((region_Get.f bt145.1).bind fun t150 => (if t150 = ((a3) % 4294967296) then (if 12 ≤ (bt145.1.length : Int) then ((sum_Of.f k (bt145.1.take 12)).bind fun t155 => ((region_Get.f (bt145.1.drop 12)).bind fun t160 => (region_one.j0 k a1 a2 a3 bt145.1 (t155 != t160) bt145.2.2))) else (none)) else (region_one.j0 k a1 a2 a3 bt145.1 true bt145.2.2)))) else (region_one.j0 k a1 a2 a3 bt145.1 true bt145.2.2))
theorem region_one.mono_l : ∀ k, (∀ y0 y1 y2 y3 y4 y5, LeO (region_one.j0 k y0 y1 y2 y3 y4 y5) (region_one.j0 (k + 1) y0 y1 y2 y3 y4 y5)) ∧ (∀ y0 y1 y2 y3 y4 y5, LeO (region_one.j1 k y0 y1 y2 y3 y4 y5) (region_one.j1 (k + 1) y0 y1 y2 y3 y4 y5)) ∧ (∀ y0 y1 y2 y3 y4 y5 y6, LeO (region_one.l0 k y0 y1 y2 y3 y4 y5 y6) (region_one.l0 (k + 1) y0 y1 y2 y3 y4 y5 y6))
  | 0 => ⟨fun _ _ _ _ _ _ r h => by simp [region_one.j0] at h, fun _ _ _ _ _ _ r h => by simp [region_one.j1] at h, fun _ _ _ _ _ _ _ r h => by simp [region_one.l0] at h⟩
  | k + 1 => by
    obtain ⟨ih0, ih1, ih2⟩ := region_one.mono_l k
    refine ⟨?_, ?_, ?_⟩
    · intro y0 y1 y2 y3 y4 y5
      unfold region_one.j0
      repeat' first
      | (with_reducible exact ih0 _ _ _ _ _ _)
      | (with_reducible exact ih1 _ _ _ _ _ _)
      | (with_reducible exact ih2 _ _ _ _ _ _ _)
      | (with_reducible exact region_first.mono _ _ _)
      | (with_reducible exact sum_Of.mono _ _)
      | (with_reducible exact LeO.refl _)
      | (with_reducible exact LeO.none _)
      | (with_reducible refine LeO.ite ?_ ?_)
      | (with_reducible refine LeO.bind ?_ (fun _ => ?_))
      | exact ih0 _ _ _ _ _ _
      | exact ih1 _ _ _ _ _ _
      | exact ih2 _ _ _ _ _ _ _
      | exact region_first.mono _ _ _
      | exact sum_Of.mono _ _
      | exact LeO.none _
      | refine LeO.ite ?_ ?_
      | refine LeO.bind ?_ (fun _ => ?_)
    · intro y0 y1 y2 y3 y4 y5
      unfold region_one.j1
      repeat' first
      | (with_reducible exact ih0 _ _ _ _ _ _)
      | (with_reducible exact ih1 _ _ _ _ _ _)
      | (with_reducible exact ih2 _ _ _ _ _ _ _)
      | (with_reducible exact region_first.mono _ _ _)
      | (with_reducible exact sum_Of.mono _ _)
      | (with_reducible exact LeO.refl _)
      | (with_reducible exact LeO.none _)
      | (with_reducible refine LeO.ite ?_ ?_)
      | (with_reducible refine LeO.bind ?_ (fun _ => ?_))
      | exact ih0 _ _ _ _ _ _
      | exact ih1 _ _ _ _ _ _
      | exact ih2 _ _ _ _ _ _ _
      | exact region_first.mono _ _ _
      | exact sum_Of.mono _ _
      | exact LeO.none _
      | refine LeO.ite ?_ ?_
      | refine LeO.bind ?_ (fun _ => ?_)
    · intro y0 y1 y2 y3 y4 y5 y6
      unfold region_one.l0
      repeat' first
      | (with_reducible exact ih0 _ _ _ _ _ _)
      | (with_reducible exact ih1 _ _ _ _ _ _)
      | (with_reducible exact ih2 _ _ _ _ _ _ _)
      | (with_reducible exact region_first.mono _ _ _)
      | (with_reducible exact sum_Of.mono _ _)
      | (with_reducible exact LeO.refl _)
      | (with_reducible exact LeO.none _)
      | (with_reducible refine LeO.ite ?_ ?_)
      | (with_reducible refine LeO.bind ?_ (fun _ => ?_))
      | exact ih0 _ _ _ _ _ _
      | exact ih1 _ _ _ _ _ _
      | exact ih2 _ _ _ _ _ _ _
      | exact region_first.mono _ _ _
      | exact sum_Of.mono _ _
      | exact LeO.none _
      | refine LeO.ite ?_ ?_
      | refine LeO.bind ?_ (fun _ => ?_)
theorem region_one.mono : ∀ a0 a1 a2 a3 k, LeO (region_one.f k a0 a1 a2 a3) (region_one.f (k + 1) a0 a1 a2 a3) := by
  intro a0 a1 a2 a3 k
  obtain ⟨ih0, ih1, ih2⟩ := region_one.mono_l k
  unfold region_one.f
  repeat' first
      | (with_reducible exact ih0 _ _ _ _ _ _)
      | (with_reducible exact ih1 _ _ _ _ _ _)
      | (with_reducible exact ih2 _ _ _ _ _ _ _)
      | (with_reducible exact region_first.mono _ _ _)
      | (with_reducible exact sum_Of.mono _ _)
      | (with_reducible exact LeO.refl _)
      | (with_reducible exact LeO.none _)
      | (with_reducible refine LeO.ite ?_ ?_)
      | (with_reducible refine LeO.bind ?_ (fun _ => ?_))
      | exact ih0 _ _ _ _ _ _
      | exact ih1 _ _ _ _ _ _
      | exact ih2 _ _ _ _ _ _ _
      | exact region_first.mono _ _ _
      | exact sum_Of.mono _ _
      | exact LeO.none _
      | refine LeO.ite ?_ ?_
      | refine LeO.bind ?_ (fun _ => ?_)
/-- Where one's bytes lie: at the head of a block of bytes. -/
def Lies (w : World) (A : Option Addr) (xs : List Int) : Prop :=
  xs.length ≤ 9223372036854775807 ∧ (xs = [] ∨ ∃ g cur, A = some ⟨g, 0, none⟩ ∧ w.heap[g]? = some (.cells cur 5 (0, 0)) ∧ ∀ (j : Nat) x, xs[j]? = some x → cur[j]? = some (.int .u8 x))
theorem Lies.nil (w : World) (A : Option Addr) : Lies w A [] := ⟨Nat.zero_le _, .inl rfl⟩
theorem Lies.C {w : World} {A : Option Addr} {xs : List Int} (h : Lies w A xs) : Kd.C (Kd.int .u8) w A xs.length xs := by
  obtain ⟨hm, rfl | ⟨g, cur, rfl, hb, hc⟩⟩ := h
  · exact Kd.C_of_reads (d := (0 : Int)) ⟨rfl, Nat.zero_le _, fun h => absurd h (by simp)⟩
  · refine Kd.C_of_reads (d := (0 : Int)) ⟨rfl, hm, fun _ => ⟨_, rfl, fun j hj => ?_⟩⟩
    have := hc j _ (List.getElem?_eq_getElem hj)
    rw [show (⟨g, 0, none⟩ : Addr).add j = ⟨g, j, none⟩ by unfold Addr.add; split <;> simp_all, blk_cell hb j, this, List.getD_eq_getElem?_getD, List.getElem?_eq_getElem hj]
    rfl
theorem Lies.keep {w w1 : World} {A : Option Addr} {xs : List Int} (h : Lies w A xs) (hk : ∀ (g : Nat) (cur : Array Value), w.heap[g]? = some (.cells cur 5 (0, 0)) → w1.heap[g]? = some (.cells cur 5 (0, 0))) : Lies w1 A xs := by
  obtain ⟨hm, h | ⟨g, cur, hA, hb, hc⟩⟩ := h
  · exact ⟨hm, .inl h⟩
  · exact ⟨hm, .inr ⟨g, cur, hA, hk g cur hb, hc⟩⟩
theorem Lies.of_R {w : World} {base : Nat} {ok : Nat → Prop} {A : Option Addr} {n c : Nat} {xs : List Int} (h : Kd.R (Kd.int .u8) 5 w base ok (.slice A n c) xs) : Lies w A xs := by
  have hn := (Kd.R_reads' h).1
  have hm := Kd.C_max (Kd.R_reads' h).2.2
  have ho := Kd.own_of_R h
  refine ⟨hm, ?_⟩
  obtain ⟨_, ⟨_, h0⟩ | ⟨g, cap, cur, hv, _, hb, hnc, _, hcs, ht⟩⟩ := ho
  · exact .inl (List.length_eq_zero_iff.1 h0)
  · injection hv with h1 h2 h3
    subst h1
    refine .inr ⟨g, cur, rfl, hb, fun j x hj => ?_⟩
    have hl : j < xs.length := (List.getElem?_eq_some_iff.1 hj).1
    have h3 : (cur.toList.take (xs.length * 1))[j]? = some (.int .u8 x) := by
      rw [ht]
      show (xs.map _)[j]? = _
      rw [List.getElem?_map, hj]
      rfl
    rwa [List.getElem?_take, if_pos (by omega), Array.getElem?_toList] at h3
theorem Lies.take {w : World} {A : Option Addr} {xs : List Int} (h : Lies w A xs) (n : Nat) : Lies w A (xs.take n) := by
  obtain ⟨hm, rfl | ⟨g, cur, hA, hb, hc⟩⟩ := h
  · exact ⟨by simp, .inl (by simp)⟩
  · refine ⟨by rw [List.length_take]; omega, .inr ⟨g, cur, hA, hb, fun j x hj => hc j x ?_⟩⟩
    rw [List.getElem?_take] at hj
    split at hj
    · exact hj
    · cases hj
theorem Lies.keepO {ts : List Nat} {B : Nat} {w w1 : World} {A : Option Addr} {xs : List Int} (h : Lies w A xs) (hk : Go.Proofs.Ytpojfebecmjloaa.Opq.KeepO ts B w w1) (ht : 5 ∉ ts) : Lies w1 A xs :=
  Lies.keep h fun _ _ hb => hk.blk hb ht
theorem one_j0_true {k : Nat} {a1 a2 a3 : Int} {hd : List Int} {s : Disk.DiskM} {r : List Int × Bool × Disk.DiskM} (h : region_one.j0 k a1 a2 a3 hd true s = some r) : r = ([], false, s) := by
  cases k with
  | zero => simp [region_one.j0] at h
  | succ k =>
    unfold region_one.j0 at h
    dsimp only at h
    rw [if_pos rfl] at h
    exact (Option.some.inj h).symm
theorem read_len {w0 w : World} {g : Nat} {s s2 : Disk.DiskM} {a e : Int} {hd : List Int} (hI : IsS71 w0 w g s) (h : sector_Disk_Read.f s a = some (hd, e, s2)) : (e = 0 ∧ hd.length = 64) ∨ (e = 1 ∧ hd = []) := by
  obtain ⟨gl, vo, _, _, _, _, _, hok⟩ := hI
  unfold sector_Disk_Read.f at h
  split at h
  · split at h
    · rename_i ht
      injection h with h
      injection h with h1 h
      injection h with h2 _
      refine .inl ⟨h2.symm, ?_⟩
      subst h1
      unfold Disk.read
      cases hl : Disk.latest s.loose a with
      | none => exact Disk.sector_length (Disk.there_in hok ht).2.2
      | some b =>
        have : ∀ (l : List (Int × List Int)), (∀ p ∈ l, p.2.length = 64) → ∀ b, Disk.latest l a = some b → b.length = 64 := by
          intro l
          induction l with
          | nil => intro _ b hb; cases hb
          | cons p r ih =>
            intro hp b hb
            unfold Disk.latest at hb
            cases hr : Disk.latest r a with
            | some c => rw [hr] at hb; injection hb with hb; subst hb; exact ih (fun q hq => hp q (List.mem_cons_of_mem _ hq)) c hr
            | none =>
              rw [hr] at hb
              dsimp only at hb
              split at hb
              · injection hb with hb; subst hb; exact hp p List.mem_cons_self
              · cases hb
        exact this s.loose (fun p hp => (hok.loose p hp).2.2) b hl
    · injection h with h
      injection h with h1 h
      injection h with h2 _
      exact .inr ⟨h2.symm, h1.symm⟩
  · cases h
theorem one_exit {k : Nat} {a1 a2 a3 : Int} {hd : List Int} {s : Disk.DiskM} {r1 : List Int} {r2 : Bool} {r3 : Disk.DiskM} (h : region_one.j0 k a1 a2 a3 hd true s = some (r1, r2, r3)) : r1 = [] ∧ r2 = false ∧ r3 = s := by
  have h := one_j0_true h
  injection h with h1 h
  injection h with h2 h3
  exact ⟨h1, h2, h3⟩
set_option maxHeartbeats 8000000 in
set_option maxRecDepth 100000 in
open Go.Proofs.Ytpojfebecmjloaa.Opq in
theorem region_one.calls (k : Nat) (g : Nat) (s0_0 : Disk.DiskM) (a1 : Int) (a2 : Int) (a3 : Int) (r1 : List Int) (r2 : Bool) (r3 : Disk.DiskM) (w0 w : World) (hI : IsS71 w0 w g s0_0) (hB : Below w0.heap.size w0 w) (h : region_one.f k s0_0 a1 a2 a3 = some (r1, r2, r3)) :
    Calls Try.prog 48 #[.pointer (some ⟨g, 0, none⟩), .int .i64 a1, .int .i64 a2, .int .i64 a3] w fun e w' => ∃ (Ar : Option Addr) (cr : Nat), e = .returned (.tuple #[.slice Ar r1.length cr, .bool r2]) ∧ r1.length ≤ cr ∧ Lies w' Ar r1 ∧ IsS71 w0 w' g r3 ∧ Below w0.heap.size w0 w' ∧ Go.Proofs.Ytpojfebecmjloaa.Opq.KeepO ts71 w0.heap.size w w' := by
  unfold region_one.f at h
  obtain ⟨⟨hd, e, s⟩, hrd, h⟩ := Option.bind_eq_some_iff.mp h
  have HX := Aside0.mk (sector_Disk_Read.calls g s0_0 a1 hd e s w0 w hI hB hrd)
  have hre := read_len hI hrd
  clear hrd
  dsimp only at h
  rcases hre with ⟨rfl, hlen⟩ | ⟨rfl, rfl⟩
  rotate_left
  · rw [if_neg (by decide)] at h
    obtain ⟨rfl, rfl, rfl⟩ := one_exit h
    clear h
    go_enter Try.func48, Try.ntmps48
    go_wp2_with fail
    refine HX.out.mono ?_
    rintro e w1 ⟨v0, rfl, ho, hi, hb, hk⟩
    have HI := Aside0.mk hi
    have HB := Aside0.mk hb
    have HK := Aside0.mk hk
    clear HX ho hi hb hk
    go_wp2
    go_quiet (fail)
    go_wp2
    go_ret2
    exact ⟨none, 0, rfl, Nat.le_refl _, Lies.nil _ _, HI.out.drewN _, pw_below_drewN HB.out _, HK.out.drewN⟩
  rw [if_pos rfl] at h
  by_cases hend : a1 ≥ a2
  · rw [if_pos hend] at h
    obtain ⟨rfl, rfl, rfl⟩ := one_exit h
    have d0 : decide (a2 ≤ a1) = true := decide_eq_true hend
    clear h hend
    go_enter Try.func48, Try.ntmps48
    go_wp2_with fail
    refine HX.out.mono ?_
    rintro e w1 ⟨v0, rfl, ho, hi, hb, hk⟩
    have HI := Aside0.mk hi
    have HB := Aside0.mk hb
    have HK := Aside0.mk hk
    clear HX ho hi hb hk
    go_wp2
    go_quiet (fail)
    go_wp2
    go_ret2
    exact ⟨none, 0, rfl, Nat.le_refl _, Lies.nil _ _, HI.out.drewN _, pw_below_drewN HB.out _, HK.out.drewN⟩
  rw [if_neg hend] at h
  have d0 : decide (a2 ≤ a1) = false := decide_eq_false hend
  obtain ⟨t, hget, h⟩ := Option.bind_eq_some_iff.mp h
  have HG := Aside0.mk hget
  have HLEN := Aside0.mk hlen
  clear hend hget hlen
  by_cases ht : t = a3 % 4294967296
  rotate_left
  · rw [if_neg ht] at h
    obtain ⟨rfl, rfl, rfl⟩ := one_exit h
    have d1 : (t != a3 % 4294967296) = true := bne_iff_ne.2 ht
    have d2 : (t != IntKind.u32.wrap a3) = true := by rw [IntKind.wrap_u32]; exact d1
    clear h ht
    go_enter Try.func48, Try.ntmps48
    go_wp2_with fail
    refine HX.out.mono ?_
    rintro e w1 ⟨v0, rfl, ho, hi, hb, hk⟩
    obtain ⟨A, c, e0, hlc, hC⟩ := Kd.R_reads ho
    subst e0
    have HC := Aside0.mk hC
    have HLC := Aside0.mk hlc
    have HI := Aside0.mk hi
    have HB := Aside0.mk hb
    have HK := Aside0.mk hk
    clear HX ho hi hb hk hC hlc
    go_wp2
    go_quiet (first | (go_at_call 67; (with_reducible refine (region_Get.calls A c hd t _ ?g1 HLC.out HG.out).mono ?_); (case g1 => repeat (first | exact HC.out | (with_reducible refine Kd.C_drewN ?_ _) | (with_reducible refine Kd.C_drew ?_))); rintro e w' ⟨rfl, ⟨nd, rfl⟩⟩; (try first | exact ⟨rfl, _, World.drewN_drewN _ _ _⟩ | exact ⟨rfl, _, Eq.trans (World.drewN_drewN _ _ _) (congrArg (World.drewN _) (Nat.add_assoc _ _ _))⟩)))
    go_wp2
    go_ret2
    exact ⟨none, 0, rfl, Nat.le_refl _, Lies.nil _ _, HI.out.drewN _, pw_below_drewN HB.out _, HK.out.drewN⟩
  rw [if_pos ht] at h
  have d1 : (t != a3 % 4294967296) = false := by rw [ht]; exact bne_self_eq_false _
  have d2 : (t != IntKind.u32.wrap a3) = false := by rw [IntKind.wrap_u32]; exact d1
  rw [if_pos (show 12 ≤ (hd.length : Int) by rw [HLEN.out]; decide)] at h
  obtain ⟨ts, hs, h⟩ := Option.bind_eq_some_iff.mp h
  obtain ⟨tg, hg, h⟩ := Option.bind_eq_some_iff.mp h
  have HS := Aside0.mk hs
  have HG2 := Aside0.mk hg
  have H := Aside0.mk h
  clear hs hg h ht
  obtain ⟨bx, hbx⟩ : ∃ bx, (ts != tg) = bx := ⟨_, rfl⟩
  have HBX := Aside0.mk hbx
  go_enter Try.func48, Try.ntmps48
  go_wp2_with fail
  refine HX.out.mono ?_
  rintro e w1 ⟨v0, rfl, ho, hi, hb, hk⟩
  obtain ⟨A, c, e0, hlc, hC⟩ := Kd.R_reads ho
  subst e0
  have HLI := Aside0.mk (Lies.of_R ho)
  have hl12 : (12 : Int) ≤ hd.length := by rw [HLEN.out]; decide
  obtain ⟨i0, hi0, _, hsz, _⟩ := info_parts info5
  obtain ⟨hT, hTr, hTl⟩ := print_take_of (P := Try.prog) (Value.int .u8) 0 22 5 .i64 Try.underlying22 hi0 hsz A c hd 12 (by decide) hl12 hlc
  obtain ⟨AD, hD, hDr, hDl⟩ := print_drop_of (P := Try.prog) (Value.int .u8) 0 22 5 .i64 Try.underlying22 hi0 hsz A c hd 12 (by decide) hl12 hlc
  have HC := Aside0.mk hC
  have HLC := Aside0.mk hlc
  have HI := Aside0.mk hi
  have HB := Aside0.mk hb
  have HK := Aside0.mk hk
  have HCT := Aside0.mk (Kd.C_of_reads (hTr _ (Kd.reads_of_C hC)) : Kd.C (Kd.int .u8) w1 A (hd.take 12).length (hd.take 12))
  have HCD := Aside0.mk (Kd.C_of_reads (hDr _ (Kd.reads_of_C hC)) : Kd.C (Kd.int .u8) w1 AD (hd.drop 12).length (hd.drop 12))
  have HS := Aside0.mk (show ∀ W, Kd.C (Kd.int .u8) W A (hd.take 12).length (hd.take 12) → Calls Try.prog 66 #[.slice A (min 12 hd.length) c] W fun e w' => e = .returned (.int .u32 ts) ∧ Drawn0 W w' from fun W hC => by
    have := sum_Of.calls k A c (hd.take 12) ts W hC hTl HS.out
    rwa [List.length_take] at this)
  have HG2 := Aside0.mk (show ∀ W, Kd.C (Kd.int .u8) W AD (hd.drop 12).length (hd.drop 12) → Calls Try.prog 67 #[.slice AD (hd.length - 12) (c - 12)] W fun e w' => e = .returned (.int .u32 tg) ∧ Drawn0 W w' from fun W hC => by
    have := region_Get.calls AD (c - 12) (hd.drop 12) tg W hC hDl HG2.out
    rwa [List.length_drop] at this)
  clear HX ho hi hb hk hC hlc hTr hTl hDr hDl hl12 hbx
  go_wp2
  go_quiet (first | (go_at_call 67; (with_reducible refine (region_Get.calls A c hd _ _ ?g1 HLC.out HG.out).mono ?_); (case g1 => repeat (first | exact HC.out | (with_reducible refine Kd.C_drewN ?_ _) | (with_reducible refine Kd.C_drew ?_))); rintro e w' ⟨rfl, ⟨nd, rfl⟩⟩; (try first | exact ⟨rfl, _, World.drewN_drewN _ _ _⟩ | exact ⟨rfl, _, Eq.trans (World.drewN_drewN _ _ _) (congrArg (World.drewN _) (Nat.add_assoc _ _ _))⟩)) | (go_at_call 67; (with_reducible refine (HG2.out _ ?g1).mono ?_); (case g1 => repeat (first | exact HCD.out | (with_reducible refine Kd.C_drewN ?_ _) | (with_reducible refine Kd.C_drew ?_))); rintro e w' ⟨rfl, ⟨nd, rfl⟩⟩; (try first | exact ⟨rfl, _, World.drewN_drewN _ _ _⟩ | exact ⟨rfl, _, Eq.trans (World.drewN_drewN _ _ _) (congrArg (World.drewN _) (Nat.add_assoc _ _ _))⟩)) | (go_at_call 66; (with_reducible refine (HS.out _ ?g1).mono ?_); (case g1 => repeat (first | exact HCT.out | (with_reducible refine Kd.C_drewN ?_ _) | (with_reducible refine Kd.C_drew ?_))); rintro e w' ⟨rfl, ⟨nd, rfl⟩⟩; (try first | exact ⟨rfl, _, World.drewN_drewN _ _ _⟩ | exact ⟨rfl, _, Eq.trans (World.drewN_drewN _ _ _) (congrArg (World.drewN _) (Nat.add_assoc _ _ _))⟩)))
  rw [HBX.out]
  have hI2 := HI.out.drewN (m := nq)
  have hB2 := pw_below_drewN HB.out nq
  have hK2 := HK.out.drewN (m := nq)
  have hL2 : Lies (w1.drewN nq) A hd := HLI.out
  have h := H.out
  rw [HBX.out] at h
  clear HC HCT HCD hT hD HI HB HK HLI H HG HG2 HS HBX d1 d2 d0
  generalize w1.drewN nq = w2 at hI2 hB2 hK2 hL2
  have HI := Aside0.mk hI2
  have HB := Aside0.mk hB2
  have HK := Aside0.mk hK2
  have HLI := Aside0.mk hL2
  clear hI2 hB2 hK2 hL2
  cases bx with
  | true =>
    obtain ⟨rfl, rfl, rfl⟩ := one_exit h
    clear h
    go_wp2
    go_ret2
    exact ⟨none, 0, rfl, Nat.le_refl _, Lies.nil _ _, HI.out, HB.out, HK.out⟩
  | false =>
  cases k with
  | zero => simp [region_one.j0] at h
  | succ k1 =>
  simp only [region_one.j0] at h
  rw [if_neg (by decide), if_pos (show 4 ≤ (hd.length : Int) by rw [HLEN.out]; decide)] at h
  obtain ⟨tn, hg4, h⟩ := Option.bind_eq_some_iff.mp h
  obtain ⟨n, hn⟩ : ∃ n, wrap64 tn = n := ⟨_, rfl⟩
  rw [hn] at h
  have hn2 : IntKind.i64.wrap tn = n := (i64_w _).trans hn
  have hl4 : (4 : Int) ≤ hd.length := by rw [HLEN.out]; decide
  obtain ⟨AD, hD, hDr, hDl⟩ := print_drop_of (P := Try.prog) (Value.int .u8) 0 22 5 .i64 Try.underlying22 hi0 hsz A c hd 4 (by decide) hl4 HLC.out
  have HG4 := Aside0.mk (show ∀ W, Kd.C (Kd.int .u8) W A hd.length hd → Calls Try.prog 67 #[.slice AD (hd.length - 4) (c - 4)] W fun e w' => e = .returned (.int .u32 tn) ∧ Drawn0 W w' from fun W hC => by
    have := region_Get.calls AD (c - 4) (hd.drop 4) tn W (Kd.C_of_reads (hDr _ (Kd.reads_of_C hC))) hDl hg4
    rwa [List.length_drop] at this)
  have H := Aside0.mk h
  have HN := Aside0.mk hn
  clear hg4 h hDr hDl hl4 hn
  go_wp2_with fail
  refine (HG4.out _ (Lies.C HLI.out)).mono ?_
  rintro e w3 ⟨rfl, hd3⟩
  have HI3 := Aside0.mk (HI.out.below hd3.below)
  have HB3 := Aside0.mk (below_weaken HB.out HB.out.size hd3.below)
  have HK3 := Aside0.mk (HK.out.below_trans hd3.below)
  have HL3 := Aside0.mk (Lies.keep HLI.out (fun g cur hb => (hd3.below.block _ (blk_lt hb)).trans hb))
  clear hd3 HI HB HK HLI HG4 hD
  have h := H.out
  clear H
  by_cases h8 : n > 8192
  · rw [if_pos h8] at h
    have d8 : decide (8192 < n) = true := decide_eq_true h8
    clear h8
    cases k1 with
    | zero => simp [region_one.j1] at h
    | succ k2 =>
    simp only [region_one.j1] at h
    rw [if_pos (by trivial)] at h
    simp only [Option.some.injEq, Prod.mk.injEq] at h
    obtain ⟨rfl, rfl, rfl⟩ := h
    go_wp2
    go_ret2
    exact ⟨none, 0, rfl, Nat.le_refl _, Lies.nil _ _, HI3.out, HB3.out, HK3.out⟩
  rw [if_neg h8] at h
  have d8 : decide (8192 < n) = false := decide_eq_false h8
  clear h8
  obtain ⟨sz, hsz5, h⟩ := Option.bind_eq_some_iff.mp h
  obtain ⟨⟨ln, s9⟩, hln, h⟩ := Option.bind_eq_some_iff.mp h
  obtain ⟨e1, e2⟩ : Disk.len s = ln ∧ s = s9 := by
    have := Option.some.inj hln
    exact ⟨congrArg Prod.fst this, congrArg Prod.snd this⟩
  subst e1 e2
  have HS := Aside0.mk hsz5
  have H := Aside0.mk h
  clear hsz5 hln h
  go_wp2_with fail
  refine (region_Size.calls n sz _ HS.out).mono ?_
  rintro e w4 ⟨rfl, hb4⟩
  have HI4 := Aside0.mk (HI3.out.below hb4)
  have HB4 := Aside0.mk (below_weaken HB3.out HB3.out.size hb4)
  have HK4 := Aside0.mk (HK3.out.below_trans hb4)
  have HL4 := Aside0.mk (Lies.keep HL3.out (fun g cur hb => (hb4.block _ (blk_lt hb)).trans hb))
  clear hb4 HI3 HB3 HK3 HL3
  go_wp2_with fail
  refine (sector_Disk_Len.calls0 g s w0 w4 HI4.out).mono ?_
  rintro e w5 ⟨rfl, rfl⟩
  obtain ⟨mi, hmi⟩ : ∃ mi, mn a2 (Disk.len s) = mi := ⟨_, rfl⟩
  have hmi_ : (if Disk.len s < a2 then Disk.len s else a2) = mi := hmi
  have h := H.out
  rw [hmi] at h
  obtain ⟨bz, hbz⟩ : ∃ bz, decide (sz > wrap64 (mi - a1)) = bz := ⟨_, rfl⟩
  rw [hbz] at h
  clear H
  have d9 : decide (wrap64 (mi - a1) < sz) = bz := hbz
  have HIDE := Aside0.mk hmi
  clear hbz hmi
  cases k1 with
  | zero => simp [region_one.j1] at h
  | succ k2 =>
  simp only [region_one.j1] at h
  cases bz with
  | true =>
    rw [if_pos rfl] at h
    simp only [Option.some.injEq, Prod.mk.injEq] at h
    obtain ⟨rfl, rfl, rfl⟩ := h
    go_wp2
    go_ret2
    exact ⟨none, 0, rfl, Nat.le_refl _, Lies.nil _ _, HI4.out, HB4.out, HK4.out⟩
  | false =>
  rw [if_neg (by decide)] at h
  have H := Aside0.mk h
  clear h
  have HW4 := Aside0.mk HB4.out.size
  have HV4 := HK4
  have HL4' := HL4
  go_wp2
  go_loopg [13, 14] k2 (fun kq v13 v14 wr => ∃ (b : List Int) (i : Int) (sk : Disk.DiskM), v14 = .int .i64 i ∧ Aside0 (region_one.l0 kq a1 a3 hd n b i sk = some (r1, r2, r3)) ∧ Aside0 (kq ≤ k2) ∧ Aside0 (Kd.R (Kd.int .u8) 5 wr w4.heap.size (fun _ => True) v13 b) ∧ Aside0 (IsS71 w0 wr g sk) ∧ Aside0 (Below w0.heap.size w0 wr) ∧ Aside0 (KeepO ts71 w0.heap.size w4 wr))
  case atStart => exact ⟨[], 1, s, rfl, H, ⟨Nat.le_refl _⟩, ⟨Kd.R_nil _ _ _ _ _⟩, HI4, HB4, ⟨KeepO.refl _ _ _⟩⟩
  case round =>
    clear H HI4 HB4 HK4
    obtain ⟨b, i, sk, rfl, H, HQ, HR, HI, HB, HK⟩ := hrel
    have h := H.out
    cases gk with
    | zero => simp [region_one.l0] at h
    | succ k3 =>
    simp only [region_one.l0] at h
    obtain ⟨sz2, hsz6, h⟩ := Option.bind_eq_some_iff.mp h
    have HS := Aside0.mk hsz6
    clear hsz6 H
    by_cases hlt : i < sz2
    · rw [if_pos hlt] at h
      have dl : decide (i < sz2) = true := decide_eq_true hlt
      obtain ⟨⟨part, ec, s10⟩, hrd, h⟩ := Option.bind_eq_some_iff.mp h
      dsimp only at h
      have HRD := Aside0.mk hrd
      by_cases hmax : b.length + part.length < 140737488355328
      rotate_left
      · rw [if_neg hmax] at h
        cases h
      rw [if_pos hmax] at h
      have HMX := Aside0.mk hmax
      have H := Aside0.mk h
      clear hlt hrd hmax h
      go_wp2_with fail
      refine (region_Size.calls n sz2 _ HS.out).mono ?_
      rintro e w5 ⟨rfl, hb5⟩
      have HI5 := Aside0.mk (HI.out.below hb5)
      have HB5 := Aside0.mk (below_weaken HB.out HB.out.size hb5)
      have HK5 := Aside0.mk (HK.out.below_trans hb5)
      have HR5 := Aside0.mk (Kd.R_below HR.out hb5)
      clear hb5 HI HB HK HR
      go_wp2_with fail
      refine (sector_Disk_Read.calls g sk (wrap64 (a1 + i)) part ec s10 w0 w5 HI5.out HB5.out HRD.out).mono ?_
      rintro e w6 ⟨vp, rfl, ho6, hi6, hb6, hk6⟩
      obtain ⟨Ap, cp, ep, hcp, hCp⟩ := Kd.R_reads ho6
      subst ep
      have HI6 := Aside0.mk hi6
      have HB6 := Aside0.mk hb6
      have HK6 := Aside0.mk (HK5.out.trans hk6)
      have HR6 := Aside0.mk (R_keep HR5.out hk6 (by decide))
      have HCP := Aside0.mk hCp
      clear ho6 hi6 hb6 hk6 hCp hcp HI5 HB5 HK5 HR5
      go_wp2_with ((with_reducible refine gate_builtin (b := .append) (xs := #[.tmp 78, .tmp 79]) rfl ?_); (try (refine gate_guard (by rfl) ?_; dsimp only)); at_builtin; refine Kd.R_append_rows (Kd.int .u8) w4.heap.size rfl (.tmp 78) (.tmp 79) 22 5 (.int .u8 0) 1 rfl Try.underlying22 info5 rfl (by decide) (by omega) _ b part _ _ _ (fun _ => True) (fun _ => False) rfl rfl HR6.out HCP.out (fun _ _ h => h) (fun _ h => h.elim) (fun _ _ => trivial) (Below.refl _ _) HK6.out.size (by have := HMX.out; omega) ?_; intro v7 w7 ho hb hg hat; have HR7 := Aside0.mk ho; have HI7 := Aside0.mk (HI6.out.grown hg (NPr.typed (Kd.R_typed HR6.out) (by decide))); have HB7 := Aside0.mk (below_weaken HB6.out (Nat.le_trans HW4.out (Nat.le_refl _)) hb); have HK7 := Aside0.mk (HK6.out.trans3 hg (Kd.R_base2 HR6.out)); clear ho hb hg hat)
      go_roundg k3
      case measure => have := HQ.out; omega
      case rel => exact ⟨b ++ part, wrap64 (i + 1), s10, by go_num, H, ⟨by have := HQ.out; omega⟩, HR7, HI7, HB7, HK7⟩
    · rw [if_neg hlt] at h
      have dl : decide (i < sz2) = false := decide_eq_false hlt
      by_cases hn0 : 0 ≤ n
      rotate_left
      · rw [if_neg hn0] at h
        cases h
      by_cases hnb : n ≤ (b.length : Int)
      rotate_left
      · rw [if_pos hn0, if_neg hnb] at h
        cases h
      rw [if_pos hn0, if_pos hnb, Option.bind_some] at h
      obtain ⟨fr, hfr, h⟩ := Option.bind_eq_some_iff.mp h
      rw [if_pos (show 16 ≤ (hd.length : Int) by rw [HLEN.out]; decide)] at h
      obtain ⟨eq, heq, h⟩ := Option.bind_eq_some_iff.mp h
      obtain ⟨Ab, cb, eb⟩ := Kd.R_slice HR.out
      subst eb
      have hcb : b.length ≤ cb := (Kd.R_reads' HR.out).2.1
      have HLB := Aside0.mk (Lies.of_R HR.out)
      have HLH := Aside0.mk (HL4'.out.keepO HK.out (by decide))
      have hl16 : (16 : Int) ≤ hd.length := by rw [HLEN.out]; decide
      obtain ⟨AF, hDF, hDFr, hDFl⟩ := print_drop_of (P := Try.prog) (Value.int .u8) 0 22 5 .i64 Try.underlying22 hi0 hsz Ab cb b n hn0 hnb hcb
      obtain ⟨hT16, hT16r, hT16l⟩ := print_take_of (P := Try.prog) (Value.int .u8) 0 22 5 .i64 Try.underlying22 hi0 hsz A c hd 16 (by decide) hl16 HLC.out
      obtain ⟨A16, hD16, hD16r, hD16l⟩ := print_drop_of (P := Try.prog) (Value.int .u8) 0 22 5 .i64 Try.underlying22 hi0 hsz A c hd 16 (by decide) hl16 HLC.out
      have HFR := Aside0.mk (show ∀ W, Lies W Ab b → Calls Try.prog 47 #[.int .i64 a3, .slice Ab n.toNat n.toNat] W fun e w' => ∃ Af cf, e = .returned (.slice Af fr.length cf) ∧ fr.length ≤ cf ∧ Kd.C (Kd.int .u8) w' Af fr.length fr ∧ Below W.heap.size W w' from fun W hL => by
        have hl : (b.take n.toNat).length = n.toNat := by rw [List.length_take]; omega
        have := region_first.calls k3 a3 Ab n.toNat (b.take n.toNat) fr W (Lies.C (hL.take _)) (by omega) hfr
        rw [hl] at this
        refine this.mono ?_
        rintro e w' ⟨v, rfl, ho, hb⟩
        obtain ⟨Af, cf, rfl, hcf, hC⟩ := Kd.R_reads ho
        exact ⟨Af, cf, rfl, hcf, hC, hb⟩)
      have HEQ := Aside0.mk (show ∀ W Af cf, fr.length ≤ cf → Kd.C (Kd.int .u8) W Af fr.length fr → Lies W A hd → Calls Try.prog 68 #[.slice Af fr.length cf, .slice A (min 16 hd.length) c] W fun e w' => e = .returned (.bool eq) ∧ Below W.heap.size W w' from fun W Af cf hcf hC hL => by
        have := bytes_Equal.calls Af cf fr A c (hd.take 16) eq W hC hcf (Kd.C_of_reads (hT16r _ (Kd.reads_of_C (Lies.C hL)))) hT16l heq
        rw [List.length_take] at this
        exact this.mono fun e w' ⟨h1, h2⟩ => ⟨h1, h2.below⟩)
      clear hfr heq hT16r hT16l
      have HDF := Aside0.mk hDFr
      have HD16 := Aside0.mk hD16r
      have HDFL := Aside0.mk hDFl
      have HD16L := Aside0.mk hD16l
      clear hDFr hD16r hDFl hD16l hl16
      cases eq with
      | false =>
        rw [if_neg (by decide)] at h
        simp only [Option.some.injEq, Prod.mk.injEq] at h
        obtain ⟨rfl, rfl, rfl⟩ := h
        go_wp2_with fail
        refine (region_Size.calls n sz2 _ HS.out).mono ?_
        rintro e w5 ⟨rfl, hb5⟩
        have HI5 := Aside0.mk (HI.out.below hb5)
        have HB5 := Aside0.mk (below_weaken HB.out HB.out.size hb5)
        have HK5 := Aside0.mk (HK.out.below_trans hb5)
        have HLB5 := Aside0.mk (Lies.keep HLB.out (fun g cur hb => (hb5.block _ (blk_lt hb)).trans hb))
        have HLH5 := Aside0.mk (Lies.keep HLH.out (fun g cur hb => (hb5.block _ (blk_lt hb)).trans hb))
        clear hb5 HI HB HK HR HLB HLH
        go_wp2_with fail
        refine wp_region_any (by kernel_rfl) ?_
        try (change wpAny _ _ _ _ _ _ _ (World.drew _))
        refine wpAny_take (i := 0) (oi := _) (v := ?_) rfl (by kernel_rfl) (by kernel_rfl) (by kernel_rfl) (fun _ _ _ h => h) (Or.inl ⟨by rfl, ?_⟩) ?_
        rotate_left
        · intro w
          go_simp
          with_reducible rfl
        (try simp only [List.getElem_toArray, List.getElem_cons_zero, List.getElem_cons_succ, Act.put, List.setIfInBounds_toArray, List.set_cons_zero, List.set_cons_succ])
        refine wpAny_take (i := 1) (oi := _) (v := ?_) rfl (by kernel_rfl) (by kernel_rfl) (by kernel_rfl) (fun _ _ _ h => h) (Or.inl ⟨by rfl, ?_⟩) ?_
        rotate_left
        · intro w
          go_simp
          with_reducible rfl
        (try simp only [List.getElem_toArray, List.getElem_cons_zero, List.getElem_cons_succ, Act.put, List.setIfInBounds_toArray, List.set_cons_zero, List.set_cons_succ])
        refine wpAny_take (i := 2) (oi := _) (v := ?_) rfl (by kernel_rfl) (by kernel_rfl) (by kernel_rfl) (fun _ _ _ h => h) (Or.inl ⟨by rfl, ?_⟩) ?_
        rotate_left
        · intro w
          go_simp
          with_reducible rfl
        (try simp only [List.getElem_toArray, List.getElem_cons_zero, List.getElem_cons_succ, Act.put, List.setIfInBounds_toArray, List.set_cons_zero, List.set_cons_succ])
        refine wpAny_take (i := 4) (oi := _) (v := ?_) rfl (by kernel_rfl) (by kernel_rfl) (by kernel_rfl) (fun _ _ _ h => h) (Or.inl ⟨by rfl, ?_⟩) ?_
        rotate_left
        · intro w
          go_simp
          with_reducible rfl
        (try simp only [List.getElem_toArray, List.getElem_cons_zero, List.getElem_cons_succ, Act.put, List.setIfInBounds_toArray, List.set_cons_zero, List.set_cons_succ])
        refine wpAny_take (i := 5) (oi := _) (v := ?_) rfl (by kernel_rfl) (by kernel_rfl) (by kernel_rfl) (fun _ _ _ h => h) (Or.inl ⟨by rfl, ?_⟩) ?_
        rotate_left
        · intro w
          go_simp
          with_reducible rfl
        (try simp only [List.getElem_toArray, List.getElem_cons_zero, List.getElem_cons_succ, Act.put, List.setIfInBounds_toArray, List.set_cons_zero, List.set_cons_succ])
        refine wpAny_ready (rs := [3]) (by kernel_rfl) (by simp) ?_
        refine AllReady.cons (o := _) rfl (fun K hK => ?_) AllReady.nil
        go_simp
        go_wp2_with (first | (go_at_call 47; refine (HFR.out _ ?g).mono ?_; (case g => exact HLB5.out); rintro e w6 ⟨Af, cf, rfl, hcf, hC6, hb6⟩; have HB6 := Aside0.mk (show Below w5.heap.size w5 w6 from ⟨hb6.os, hb6.tape, hb6.output, hb6.size, hb6.block⟩); have HC6 := Aside0.mk hC6; have HCF := Aside0.mk hcf; clear hC6 hcf hb6))
        (try (refine hK _ _ ?_; clear hK K))
        refine wpAny_ready (rs := [6]) (by kernel_rfl) (by simp) ?_
        refine AllReady.cons (o := _) rfl (fun K hK => ?_) AllReady.nil
        go_simp
        go_wp2_with (first | (go_at_call 68; refine (HEQ.out _ Af cf HCF.out HC6.out ?g).mono ?_; (case g => exact Lies.keep HLH5.out (fun g cur hb => (HB6.out.block _ (blk_lt hb)).trans hb)); rintro e w7 ⟨rfl, hb7⟩; have HB7 := Aside0.mk (show Below w6.heap.size w6 w7 from ⟨hb7.os, hb7.tape, hb7.output, hb7.size, hb7.block⟩); clear hb7))
        (try (refine hK _ _ ?_; clear hK K))
        refine wpAny_take (i := 7) (oi := _) (v := ?_) rfl (by kernel_rfl) (by kernel_rfl) (by kernel_rfl) (fun _ _ _ h => h) (Or.inl ⟨by rfl, ?_⟩) ?_
        rotate_left
        · intro w
          go_simp
          with_reducible rfl
        (try simp only [List.getElem_toArray, List.getElem_cons_zero, List.getElem_cons_succ, Act.put, List.setIfInBounds_toArray, List.set_cons_zero, List.set_cons_succ])
        refine wpAny_take (i := 8) (oi := _) (v := undef) rfl (by kernel_rfl) (by kernel_rfl) (by kernel_rfl) (fun _ _ _ h => h) (Or.inr ⟨by rfl, rfl⟩) ?_
        (try simp only [List.getElem_toArray, List.getElem_cons_zero, List.getElem_cons_succ, Act.put, List.setIfInBounds_toArray, List.set_cons_zero, List.set_cons_succ])
        refine wpAny_take (i := 9) (oi := _) (v := undef) rfl (by kernel_rfl) (by kernel_rfl) (by kernel_rfl) (fun _ _ _ h => h) (Or.inr ⟨by rfl, rfl⟩) ?_
        (try simp only [List.getElem_toArray, List.getElem_cons_zero, List.getElem_cons_succ, Act.put, List.setIfInBounds_toArray, List.set_cons_zero, List.set_cons_succ])
        refine wpAny_ready (rs := [10]) (by kernel_rfl) (by simp) ?_
        refine AllReady.cons (o := _) rfl (fun K hK => ?_) AllReady.nil
        go_simp
        (try (refine hK _ _ ?_; clear hK K))
        refine wpAny_take (i := 11) (oi := _) (v := ?_) rfl (by kernel_rfl) (by kernel_rfl) (by kernel_rfl) (fun _ _ _ h => h) (Or.inl ⟨by rfl, ?_⟩) ?_
        rotate_left
        · intro w
          go_simp
          with_reducible rfl
        (try simp only [List.getElem_toArray, List.getElem_cons_zero, List.getElem_cons_succ, Act.put, List.setIfInBounds_toArray, List.set_cons_zero, List.set_cons_succ])
        refine wpAny_take (i := 12) (oi := _) (v := ?_) rfl (by kernel_rfl) (by kernel_rfl) (by kernel_rfl) (fun _ _ _ h => h) (Or.inl ⟨by rfl, ?_⟩) ?_
        rotate_left
        · intro w
          go_simp
          with_reducible rfl
        (try simp only [List.getElem_toArray, List.getElem_cons_zero, List.getElem_cons_succ, Act.put, List.setIfInBounds_toArray, List.set_cons_zero, List.set_cons_succ])
        refine wpAny_take (i := 13) (oi := _) (v := undef) rfl (by kernel_rfl) (by kernel_rfl) (by kernel_rfl) (fun _ _ _ h => h) (Or.inr ⟨by rfl, rfl⟩) ?_
        (try simp only [List.getElem_toArray, List.getElem_cons_zero, List.getElem_cons_succ, Act.put, List.setIfInBounds_toArray, List.set_cons_zero, List.set_cons_succ])
        refine wpAny_ready (rs := [14]) (by kernel_rfl) (by simp) ?_
        refine AllReady.cons (o := _) rfl (fun K hK => ?_) AllReady.nil
        go_simp
        (try (refine hK _ _ ?_; clear hK K))
        refine wpAny_take (i := 15) (oi := _) (v := ?_) rfl (by kernel_rfl) (by kernel_rfl) (by kernel_rfl) (fun _ _ _ h => h) (Or.inl ⟨by rfl, ?_⟩) ?_
        rotate_left
        · intro w
          go_simp
          with_reducible rfl
        (try simp only [List.getElem_toArray, List.getElem_cons_zero, List.getElem_cons_succ, Act.put, List.setIfInBounds_toArray, List.set_cons_zero, List.set_cons_succ])
        refine wpAny_take (i := 16) (oi := _) (v := ?_) rfl (by kernel_rfl) (by kernel_rfl) (by kernel_rfl) (fun _ _ _ h => h) (Or.inl ⟨by rfl, ?_⟩) ?_
        rotate_left
        · intro w
          go_simp
          with_reducible rfl
        (try simp only [List.getElem_toArray, List.getElem_cons_zero, List.getElem_cons_succ, Act.put, List.setIfInBounds_toArray, List.set_cons_zero, List.set_cons_succ])
        refine wpAny_take (i := 17) (oi := _) (v := ?_) rfl (by kernel_rfl) (by kernel_rfl) (by kernel_rfl) (fun _ _ _ h => h) (Or.inl ⟨by rfl, ?_⟩) ?_
        rotate_left
        · intro w
          go_simp
          with_reducible rfl
        (try simp only [List.getElem_toArray, List.getElem_cons_zero, List.getElem_cons_succ, Act.put, List.setIfInBounds_toArray, List.set_cons_zero, List.set_cons_succ])
        refine wpAny_done (by kernel_rfl) ?_ _
        go_wp2
        go_ret2
        have HLT : (b.take n.toNat).length = n.toNat := by rw [List.length_take]; omega
        refine ⟨Ab, n.toNat, by rw [HLT]; rfl, by rw [HLT]; exact Nat.le_refl _, (Lies.keep (Lies.keep HLB5.out (fun g cur hb => (HB6.out.block _ (blk_lt hb)).trans hb)) (fun g cur hb => (HB7.out.block _ (blk_lt hb)).trans hb)).take _, ((HI5.out.below HB6.out).below HB7.out), ?_, HV4.out.trans ((HK5.out.below_trans HB6.out).below_trans HB7.out)⟩
        exact (below_weaken (below_weaken HB5.out (HB5.out).size HB6.out) ((below_weaken HB5.out (HB5.out).size HB6.out)).size HB7.out)
      | true =>
        rw [if_pos rfl] at h
        obtain ⟨z1, hz1, h⟩ := Option.bind_eq_some_iff.mp h
        have HZ1 := Aside0.mk (show ∀ W, Lies W A hd → Calls Try.prog 46 #[.slice A16 (hd.length - 16) (c - 16)] W fun e w' => e = .returned (.bool z1) ∧ Below W.heap.size W w' from fun W hL => by
          have := region_zero.calls A16 (c - 16) (hd.drop 16) z1 W (Kd.C_of_reads (HD16.out _ (Kd.reads_of_C (Lies.C hL)))) HD16L.out hz1
          rwa [List.length_drop] at this)
        clear hz1
        cases z1 with
        | false =>
          rw [if_neg (by decide)] at h
          simp only [Option.some.injEq, Prod.mk.injEq] at h
          obtain ⟨rfl, rfl, rfl⟩ := h
          go_wp2_with fail
          refine (region_Size.calls n sz2 _ HS.out).mono ?_
          rintro e w5 ⟨rfl, hb5⟩
          have HI5 := Aside0.mk (HI.out.below hb5)
          have HB5 := Aside0.mk (below_weaken HB.out HB.out.size hb5)
          have HK5 := Aside0.mk (HK.out.below_trans hb5)
          have HLB5 := Aside0.mk (Lies.keep HLB.out (fun g cur hb => (hb5.block _ (blk_lt hb)).trans hb))
          have HLH5 := Aside0.mk (Lies.keep HLH.out (fun g cur hb => (hb5.block _ (blk_lt hb)).trans hb))
          clear hb5 HI HB HK HR HLB HLH
          go_wp2_with fail
          refine wp_region_any (by kernel_rfl) ?_
          try (change wpAny _ _ _ _ _ _ _ (World.drew _))
          refine wpAny_take (i := 0) (oi := _) (v := ?_) rfl (by kernel_rfl) (by kernel_rfl) (by kernel_rfl) (fun _ _ _ h => h) (Or.inl ⟨by rfl, ?_⟩) ?_
          rotate_left
          · intro w
            go_simp
            with_reducible rfl
          (try simp only [List.getElem_toArray, List.getElem_cons_zero, List.getElem_cons_succ, Act.put, List.setIfInBounds_toArray, List.set_cons_zero, List.set_cons_succ])
          refine wpAny_take (i := 1) (oi := _) (v := ?_) rfl (by kernel_rfl) (by kernel_rfl) (by kernel_rfl) (fun _ _ _ h => h) (Or.inl ⟨by rfl, ?_⟩) ?_
          rotate_left
          · intro w
            go_simp
            with_reducible rfl
          (try simp only [List.getElem_toArray, List.getElem_cons_zero, List.getElem_cons_succ, Act.put, List.setIfInBounds_toArray, List.set_cons_zero, List.set_cons_succ])
          refine wpAny_take (i := 2) (oi := _) (v := ?_) rfl (by kernel_rfl) (by kernel_rfl) (by kernel_rfl) (fun _ _ _ h => h) (Or.inl ⟨by rfl, ?_⟩) ?_
          rotate_left
          · intro w
            go_simp
            with_reducible rfl
          (try simp only [List.getElem_toArray, List.getElem_cons_zero, List.getElem_cons_succ, Act.put, List.setIfInBounds_toArray, List.set_cons_zero, List.set_cons_succ])
          refine wpAny_take (i := 4) (oi := _) (v := ?_) rfl (by kernel_rfl) (by kernel_rfl) (by kernel_rfl) (fun _ _ _ h => h) (Or.inl ⟨by rfl, ?_⟩) ?_
          rotate_left
          · intro w
            go_simp
            with_reducible rfl
          (try simp only [List.getElem_toArray, List.getElem_cons_zero, List.getElem_cons_succ, Act.put, List.setIfInBounds_toArray, List.set_cons_zero, List.set_cons_succ])
          refine wpAny_take (i := 5) (oi := _) (v := ?_) rfl (by kernel_rfl) (by kernel_rfl) (by kernel_rfl) (fun _ _ _ h => h) (Or.inl ⟨by rfl, ?_⟩) ?_
          rotate_left
          · intro w
            go_simp
            with_reducible rfl
          (try simp only [List.getElem_toArray, List.getElem_cons_zero, List.getElem_cons_succ, Act.put, List.setIfInBounds_toArray, List.set_cons_zero, List.set_cons_succ])
          refine wpAny_ready (rs := [3]) (by kernel_rfl) (by simp) ?_
          refine AllReady.cons (o := _) rfl (fun K hK => ?_) AllReady.nil
          go_simp
          go_wp2_with (first | (go_at_call 47; refine (HFR.out _ ?g).mono ?_; (case g => exact HLB5.out); rintro e w6 ⟨Af, cf, rfl, hcf, hC6, hb6⟩; have HB6 := Aside0.mk (show Below w5.heap.size w5 w6 from ⟨hb6.os, hb6.tape, hb6.output, hb6.size, hb6.block⟩); have HC6 := Aside0.mk hC6; have HCF := Aside0.mk hcf; clear hC6 hcf hb6))
          (try (refine hK _ _ ?_; clear hK K))
          refine wpAny_ready (rs := [6]) (by kernel_rfl) (by simp) ?_
          refine AllReady.cons (o := _) rfl (fun K hK => ?_) AllReady.nil
          go_simp
          go_wp2_with (first | (go_at_call 68; refine (HEQ.out _ Af cf HCF.out HC6.out ?g).mono ?_; (case g => exact Lies.keep HLH5.out (fun g cur hb => (HB6.out.block _ (blk_lt hb)).trans hb)); rintro e w7 ⟨rfl, hb7⟩; have HB7 := Aside0.mk (show Below w6.heap.size w6 w7 from ⟨hb7.os, hb7.tape, hb7.output, hb7.size, hb7.block⟩); clear hb7))
          (try (refine hK _ _ ?_; clear hK K))
          refine wpAny_take (i := 7) (oi := _) (v := ?_) rfl (by kernel_rfl) (by kernel_rfl) (by kernel_rfl) (fun _ _ _ h => h) (Or.inl ⟨by rfl, ?_⟩) ?_
          rotate_left
          · intro w
            go_simp
            with_reducible rfl
          (try simp only [List.getElem_toArray, List.getElem_cons_zero, List.getElem_cons_succ, Act.put, List.setIfInBounds_toArray, List.set_cons_zero, List.set_cons_succ])
          refine wpAny_take (i := 8) (oi := _) (v := ?_) rfl (by kernel_rfl) (by kernel_rfl) (by kernel_rfl) (fun _ _ _ h => h) (Or.inl ⟨by rfl, ?_⟩) ?_
          rotate_left
          · intro w
            go_simp
            with_reducible rfl
          (try simp only [List.getElem_toArray, List.getElem_cons_zero, List.getElem_cons_succ, Act.put, List.setIfInBounds_toArray, List.set_cons_zero, List.set_cons_succ])
          refine wpAny_take (i := 9) (oi := _) (v := ?_) rfl (by kernel_rfl) (by kernel_rfl) (by kernel_rfl) (fun _ _ _ h => h) (Or.inl ⟨by rfl, ?_⟩) ?_
          rotate_left
          · intro w
            go_simp
            with_reducible rfl
          (try simp only [List.getElem_toArray, List.getElem_cons_zero, List.getElem_cons_succ, Act.put, List.setIfInBounds_toArray, List.set_cons_zero, List.set_cons_succ])
          refine wpAny_ready (rs := [10]) (by kernel_rfl) (by simp) ?_
          refine AllReady.cons (o := _) rfl (fun K hK => ?_) AllReady.nil
          go_simp
          go_wp2_with (first | (go_at_call 46; refine (HZ1.out _ ?g).mono ?_; (case g => exact (Lies.keep (Lies.keep HLH5.out (fun g cur hb => (HB6.out.block _ (blk_lt hb)).trans hb)) (fun g cur hb => (HB7.out.block _ (blk_lt hb)).trans hb))); rintro e w8 ⟨rfl, hbz⟩; have HB8 := Aside0.mk (show Below w7.heap.size w7 w8 from ⟨hbz.os, hbz.tape, hbz.output, hbz.size, hbz.block⟩); clear hbz))
          (try (refine hK _ _ ?_; clear hK K))
          refine wpAny_take (i := 11) (oi := _) (v := ?_) rfl (by kernel_rfl) (by kernel_rfl) (by kernel_rfl) (fun _ _ _ h => h) (Or.inl ⟨by rfl, ?_⟩) ?_
          rotate_left
          · intro w
            go_simp
            with_reducible rfl
          (try simp only [List.getElem_toArray, List.getElem_cons_zero, List.getElem_cons_succ, Act.put, List.setIfInBounds_toArray, List.set_cons_zero, List.set_cons_succ])
          refine wpAny_take (i := 12) (oi := _) (v := ?_) rfl (by kernel_rfl) (by kernel_rfl) (by kernel_rfl) (fun _ _ _ h => h) (Or.inl ⟨by rfl, ?_⟩) ?_
          rotate_left
          · intro w
            go_simp
            with_reducible rfl
          (try simp only [List.getElem_toArray, List.getElem_cons_zero, List.getElem_cons_succ, Act.put, List.setIfInBounds_toArray, List.set_cons_zero, List.set_cons_succ])
          refine wpAny_take (i := 13) (oi := _) (v := undef) rfl (by kernel_rfl) (by kernel_rfl) (by kernel_rfl) (fun _ _ _ h => h) (Or.inr ⟨by rfl, rfl⟩) ?_
          (try simp only [List.getElem_toArray, List.getElem_cons_zero, List.getElem_cons_succ, Act.put, List.setIfInBounds_toArray, List.set_cons_zero, List.set_cons_succ])
          refine wpAny_ready (rs := [14]) (by kernel_rfl) (by simp) ?_
          refine AllReady.cons (o := _) rfl (fun K hK => ?_) AllReady.nil
          go_simp
          (try (refine hK _ _ ?_; clear hK K))
          refine wpAny_take (i := 15) (oi := _) (v := ?_) rfl (by kernel_rfl) (by kernel_rfl) (by kernel_rfl) (fun _ _ _ h => h) (Or.inl ⟨by rfl, ?_⟩) ?_
          rotate_left
          · intro w
            go_simp
            with_reducible rfl
          (try simp only [List.getElem_toArray, List.getElem_cons_zero, List.getElem_cons_succ, Act.put, List.setIfInBounds_toArray, List.set_cons_zero, List.set_cons_succ])
          refine wpAny_take (i := 16) (oi := _) (v := ?_) rfl (by kernel_rfl) (by kernel_rfl) (by kernel_rfl) (fun _ _ _ h => h) (Or.inl ⟨by rfl, ?_⟩) ?_
          rotate_left
          · intro w
            go_simp
            with_reducible rfl
          (try simp only [List.getElem_toArray, List.getElem_cons_zero, List.getElem_cons_succ, Act.put, List.setIfInBounds_toArray, List.set_cons_zero, List.set_cons_succ])
          refine wpAny_take (i := 17) (oi := _) (v := ?_) rfl (by kernel_rfl) (by kernel_rfl) (by kernel_rfl) (fun _ _ _ h => h) (Or.inl ⟨by rfl, ?_⟩) ?_
          rotate_left
          · intro w
            go_simp
            with_reducible rfl
          (try simp only [List.getElem_toArray, List.getElem_cons_zero, List.getElem_cons_succ, Act.put, List.setIfInBounds_toArray, List.set_cons_zero, List.set_cons_succ])
          refine wpAny_done (by kernel_rfl) ?_ _
          go_wp2
          go_ret2
          have HLT : (b.take n.toNat).length = n.toNat := by rw [List.length_take]; omega
          refine ⟨Ab, n.toNat, by rw [HLT]; rfl, by rw [HLT]; exact Nat.le_refl _, (Lies.keep (Lies.keep (Lies.keep HLB5.out (fun g cur hb => (HB6.out.block _ (blk_lt hb)).trans hb)) (fun g cur hb => (HB7.out.block _ (blk_lt hb)).trans hb)) (fun g cur hb => (HB8.out.block _ (blk_lt hb)).trans hb)).take _, (((HI5.out.below HB6.out).below HB7.out).below HB8.out), ?_, HV4.out.trans (((HK5.out.below_trans HB6.out).below_trans HB7.out).below_trans HB8.out)⟩
          exact (below_weaken (below_weaken (below_weaken HB5.out (HB5.out).size HB6.out) ((below_weaken HB5.out (HB5.out).size HB6.out)).size HB7.out) ((below_weaken (below_weaken HB5.out (HB5.out).size HB6.out) ((below_weaken HB5.out (HB5.out).size HB6.out)).size HB7.out)).size HB8.out)
        | true =>
          rw [if_pos rfl] at h
          obtain ⟨z2, hz2, h⟩ := Option.bind_eq_some_iff.mp h
          have HZ2 := Aside0.mk (show ∀ W, Lies W Ab b → Calls Try.prog 46 #[.slice AF (b.length - n.toNat) (cb - n.toNat)] W fun e w' => e = .returned (.bool z2) ∧ Below W.heap.size W w' from fun W hL => by
            have := region_zero.calls AF (cb - n.toNat) (b.drop n.toNat) z2 W (Kd.C_of_reads (HDF.out _ (Kd.reads_of_C (Lies.C hL)))) HDFL.out hz2
            rwa [List.length_drop] at this)
          clear hz2
          simp only [Option.some.injEq, Prod.mk.injEq] at h
          obtain ⟨rfl, rfl, rfl⟩ := h
          go_wp2_with fail
          refine (region_Size.calls n sz2 _ HS.out).mono ?_
          rintro e w5 ⟨rfl, hb5⟩
          have HI5 := Aside0.mk (HI.out.below hb5)
          have HB5 := Aside0.mk (below_weaken HB.out HB.out.size hb5)
          have HK5 := Aside0.mk (HK.out.below_trans hb5)
          have HLB5 := Aside0.mk (Lies.keep HLB.out (fun g cur hb => (hb5.block _ (blk_lt hb)).trans hb))
          have HLH5 := Aside0.mk (Lies.keep HLH.out (fun g cur hb => (hb5.block _ (blk_lt hb)).trans hb))
          clear hb5 HI HB HK HR HLB HLH
          go_wp2_with fail
          refine wp_region_any (by kernel_rfl) ?_
          try (change wpAny _ _ _ _ _ _ _ (World.drew _))
          refine wpAny_take (i := 0) (oi := _) (v := ?_) rfl (by kernel_rfl) (by kernel_rfl) (by kernel_rfl) (fun _ _ _ h => h) (Or.inl ⟨by rfl, ?_⟩) ?_
          rotate_left
          · intro w
            go_simp
            with_reducible rfl
          (try simp only [List.getElem_toArray, List.getElem_cons_zero, List.getElem_cons_succ, Act.put, List.setIfInBounds_toArray, List.set_cons_zero, List.set_cons_succ])
          refine wpAny_take (i := 1) (oi := _) (v := ?_) rfl (by kernel_rfl) (by kernel_rfl) (by kernel_rfl) (fun _ _ _ h => h) (Or.inl ⟨by rfl, ?_⟩) ?_
          rotate_left
          · intro w
            go_simp
            with_reducible rfl
          (try simp only [List.getElem_toArray, List.getElem_cons_zero, List.getElem_cons_succ, Act.put, List.setIfInBounds_toArray, List.set_cons_zero, List.set_cons_succ])
          refine wpAny_take (i := 2) (oi := _) (v := ?_) rfl (by kernel_rfl) (by kernel_rfl) (by kernel_rfl) (fun _ _ _ h => h) (Or.inl ⟨by rfl, ?_⟩) ?_
          rotate_left
          · intro w
            go_simp
            with_reducible rfl
          (try simp only [List.getElem_toArray, List.getElem_cons_zero, List.getElem_cons_succ, Act.put, List.setIfInBounds_toArray, List.set_cons_zero, List.set_cons_succ])
          refine wpAny_take (i := 4) (oi := _) (v := ?_) rfl (by kernel_rfl) (by kernel_rfl) (by kernel_rfl) (fun _ _ _ h => h) (Or.inl ⟨by rfl, ?_⟩) ?_
          rotate_left
          · intro w
            go_simp
            with_reducible rfl
          (try simp only [List.getElem_toArray, List.getElem_cons_zero, List.getElem_cons_succ, Act.put, List.setIfInBounds_toArray, List.set_cons_zero, List.set_cons_succ])
          refine wpAny_take (i := 5) (oi := _) (v := ?_) rfl (by kernel_rfl) (by kernel_rfl) (by kernel_rfl) (fun _ _ _ h => h) (Or.inl ⟨by rfl, ?_⟩) ?_
          rotate_left
          · intro w
            go_simp
            with_reducible rfl
          (try simp only [List.getElem_toArray, List.getElem_cons_zero, List.getElem_cons_succ, Act.put, List.setIfInBounds_toArray, List.set_cons_zero, List.set_cons_succ])
          refine wpAny_ready (rs := [3]) (by kernel_rfl) (by simp) ?_
          refine AllReady.cons (o := _) rfl (fun K hK => ?_) AllReady.nil
          go_simp
          go_wp2_with (first | (go_at_call 47; refine (HFR.out _ ?g).mono ?_; (case g => exact HLB5.out); rintro e w6 ⟨Af, cf, rfl, hcf, hC6, hb6⟩; have HB6 := Aside0.mk (show Below w5.heap.size w5 w6 from ⟨hb6.os, hb6.tape, hb6.output, hb6.size, hb6.block⟩); have HC6 := Aside0.mk hC6; have HCF := Aside0.mk hcf; clear hC6 hcf hb6))
          (try (refine hK _ _ ?_; clear hK K))
          refine wpAny_ready (rs := [6]) (by kernel_rfl) (by simp) ?_
          refine AllReady.cons (o := _) rfl (fun K hK => ?_) AllReady.nil
          go_simp
          go_wp2_with (first | (go_at_call 68; refine (HEQ.out _ Af cf HCF.out HC6.out ?g).mono ?_; (case g => exact Lies.keep HLH5.out (fun g cur hb => (HB6.out.block _ (blk_lt hb)).trans hb)); rintro e w7 ⟨rfl, hb7⟩; have HB7 := Aside0.mk (show Below w6.heap.size w6 w7 from ⟨hb7.os, hb7.tape, hb7.output, hb7.size, hb7.block⟩); clear hb7))
          (try (refine hK _ _ ?_; clear hK K))
          refine wpAny_take (i := 7) (oi := _) (v := ?_) rfl (by kernel_rfl) (by kernel_rfl) (by kernel_rfl) (fun _ _ _ h => h) (Or.inl ⟨by rfl, ?_⟩) ?_
          rotate_left
          · intro w
            go_simp
            with_reducible rfl
          (try simp only [List.getElem_toArray, List.getElem_cons_zero, List.getElem_cons_succ, Act.put, List.setIfInBounds_toArray, List.set_cons_zero, List.set_cons_succ])
          refine wpAny_take (i := 8) (oi := _) (v := ?_) rfl (by kernel_rfl) (by kernel_rfl) (by kernel_rfl) (fun _ _ _ h => h) (Or.inl ⟨by rfl, ?_⟩) ?_
          rotate_left
          · intro w
            go_simp
            with_reducible rfl
          (try simp only [List.getElem_toArray, List.getElem_cons_zero, List.getElem_cons_succ, Act.put, List.setIfInBounds_toArray, List.set_cons_zero, List.set_cons_succ])
          refine wpAny_take (i := 9) (oi := _) (v := ?_) rfl (by kernel_rfl) (by kernel_rfl) (by kernel_rfl) (fun _ _ _ h => h) (Or.inl ⟨by rfl, ?_⟩) ?_
          rotate_left
          · intro w
            go_simp
            with_reducible rfl
          (try simp only [List.getElem_toArray, List.getElem_cons_zero, List.getElem_cons_succ, Act.put, List.setIfInBounds_toArray, List.set_cons_zero, List.set_cons_succ])
          refine wpAny_ready (rs := [10]) (by kernel_rfl) (by simp) ?_
          refine AllReady.cons (o := _) rfl (fun K hK => ?_) AllReady.nil
          go_simp
          go_wp2_with (first | (go_at_call 46; refine (HZ1.out _ ?g).mono ?_; (case g => exact (Lies.keep (Lies.keep HLH5.out (fun g cur hb => (HB6.out.block _ (blk_lt hb)).trans hb)) (fun g cur hb => (HB7.out.block _ (blk_lt hb)).trans hb))); rintro e w8 ⟨rfl, hbz⟩; have HB8 := Aside0.mk (show Below w7.heap.size w7 w8 from ⟨hbz.os, hbz.tape, hbz.output, hbz.size, hbz.block⟩); clear hbz))
          (try (refine hK _ _ ?_; clear hK K))
          refine wpAny_take (i := 11) (oi := _) (v := ?_) rfl (by kernel_rfl) (by kernel_rfl) (by kernel_rfl) (fun _ _ _ h => h) (Or.inl ⟨by rfl, ?_⟩) ?_
          rotate_left
          · intro w
            go_simp
            with_reducible rfl
          (try simp only [List.getElem_toArray, List.getElem_cons_zero, List.getElem_cons_succ, Act.put, List.setIfInBounds_toArray, List.set_cons_zero, List.set_cons_succ])
          refine wpAny_take (i := 12) (oi := _) (v := ?_) rfl (by kernel_rfl) (by kernel_rfl) (by kernel_rfl) (fun _ _ _ h => h) (Or.inl ⟨by rfl, ?_⟩) ?_
          rotate_left
          · intro w
            go_simp
            with_reducible rfl
          (try simp only [List.getElem_toArray, List.getElem_cons_zero, List.getElem_cons_succ, Act.put, List.setIfInBounds_toArray, List.set_cons_zero, List.set_cons_succ])
          refine wpAny_take (i := 13) (oi := _) (v := ?_) rfl (by kernel_rfl) (by kernel_rfl) (by kernel_rfl) (fun _ _ _ h => h) (Or.inl ⟨by rfl, ?_⟩) ?_
          rotate_left
          · intro w
            go_simp
            with_reducible rfl
          (try simp only [List.getElem_toArray, List.getElem_cons_zero, List.getElem_cons_succ, Act.put, List.setIfInBounds_toArray, List.set_cons_zero, List.set_cons_succ])
          refine wpAny_ready (rs := [14]) (by kernel_rfl) (by simp) ?_
          refine AllReady.cons (o := _) rfl (fun K hK => ?_) AllReady.nil
          go_simp
          go_wp2_with (first | (go_at_call 46; refine (HZ2.out _ ?g).mono ?_; (case g => exact (Lies.keep (Lies.keep (Lies.keep HLB5.out (fun g cur hb => (HB6.out.block _ (blk_lt hb)).trans hb)) (fun g cur hb => (HB7.out.block _ (blk_lt hb)).trans hb)) (fun g cur hb => (HB8.out.block _ (blk_lt hb)).trans hb))); rintro e w9 ⟨rfl, hbz⟩; have HB9 := Aside0.mk (show Below w8.heap.size w8 w9 from ⟨hbz.os, hbz.tape, hbz.output, hbz.size, hbz.block⟩); clear hbz))
          (try (refine hK _ _ ?_; clear hK K))
          refine wpAny_take (i := 15) (oi := _) (v := ?_) rfl (by kernel_rfl) (by kernel_rfl) (by kernel_rfl) (fun _ _ _ h => h) (Or.inl ⟨by rfl, ?_⟩) ?_
          rotate_left
          · intro w
            go_simp
            with_reducible rfl
          (try simp only [List.getElem_toArray, List.getElem_cons_zero, List.getElem_cons_succ, Act.put, List.setIfInBounds_toArray, List.set_cons_zero, List.set_cons_succ])
          refine wpAny_take (i := 16) (oi := _) (v := ?_) rfl (by kernel_rfl) (by kernel_rfl) (by kernel_rfl) (fun _ _ _ h => h) (Or.inl ⟨by rfl, ?_⟩) ?_
          rotate_left
          · intro w
            go_simp
            with_reducible rfl
          (try simp only [List.getElem_toArray, List.getElem_cons_zero, List.getElem_cons_succ, Act.put, List.setIfInBounds_toArray, List.set_cons_zero, List.set_cons_succ])
          refine wpAny_take (i := 17) (oi := _) (v := ?_) rfl (by kernel_rfl) (by kernel_rfl) (by kernel_rfl) (fun _ _ _ h => h) (Or.inl ⟨by rfl, ?_⟩) ?_
          rotate_left
          · intro w
            go_simp
            with_reducible rfl
          (try simp only [List.getElem_toArray, List.getElem_cons_zero, List.getElem_cons_succ, Act.put, List.setIfInBounds_toArray, List.set_cons_zero, List.set_cons_succ])
          refine wpAny_done (by kernel_rfl) ?_ _
          go_wp2
          go_ret2
          have HLT : (b.take n.toNat).length = n.toNat := by rw [List.length_take]; omega
          refine ⟨Ab, n.toNat, by rw [HLT]; rfl, by rw [HLT]; exact Nat.le_refl _, (Lies.keep (Lies.keep (Lies.keep (Lies.keep HLB5.out (fun g cur hb => (HB6.out.block _ (blk_lt hb)).trans hb)) (fun g cur hb => (HB7.out.block _ (blk_lt hb)).trans hb)) (fun g cur hb => (HB8.out.block _ (blk_lt hb)).trans hb)) (fun g cur hb => (HB9.out.block _ (blk_lt hb)).trans hb)).take _, ((((HI5.out.below HB6.out).below HB7.out).below HB8.out).below HB9.out), ?_, HV4.out.trans ((((HK5.out.below_trans HB6.out).below_trans HB7.out).below_trans HB8.out).below_trans HB9.out)⟩
          exact (below_weaken (below_weaken (below_weaken (below_weaken HB5.out (HB5.out).size HB6.out) ((below_weaken HB5.out (HB5.out).size HB6.out)).size HB7.out) ((below_weaken (below_weaken HB5.out (HB5.out).size HB6.out) ((below_weaken HB5.out (HB5.out).size HB6.out)).size HB7.out)).size HB8.out) ((below_weaken (below_weaken (below_weaken HB5.out (HB5.out).size HB6.out) ((below_weaken HB5.out (HB5.out).size HB6.out)).size HB7.out) ((below_weaken (below_weaken HB5.out (HB5.out).size HB6.out) ((below_weaken HB5.out (HB5.out).size HB6.out)).size HB7.out)).size HB8.out)).size HB9.out)


end Go.Proofs.Ytpojfebecmjloaa.PWalSupers
