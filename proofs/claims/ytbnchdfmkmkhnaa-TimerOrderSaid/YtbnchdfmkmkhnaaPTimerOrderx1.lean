-- Lean text by a program of this repo (wip/tools/printx.py), out of Lean's own print of the translation
import Derived.Test.YtbnchdfmkmkhnaaTimer
import Derived.Test.YtbnchdfmkmkhnaaOpq
import Derived.Test.YtbnchdfmkmkhnaaPTimerOrderx0
namespace Go.Proofs.Ytbnchdfmkmkhnaa.PTimerOrder
open Go.RowKit Go.Proofs.YtbnchdfmkmkhnaaW.PrintWords Go.Proofs.YtbnchdfmkmkhnaaW.PrintLast Go.Proofs.YtbnchdfmkmkhnaaW.PrintMore
attribute [local go_sem] max2_int min2_int max_two min_two max_three min_three max_four min_four   -- for this text's walks alone
set_option linter.unusedVariables false
set_option linter.unusedSimpArgs false

-- IMPORT Derived.Test.YtbnchdfmkmkhnaaOpq
abbrev ts77 : List Nat := [77]
-- IMPORT Derived.Test.YtbnchdfmkmkhnaaTimer
attribute [local go_sem] Go.Proofs.Ytbnchdfmkmkhnaa.Timer.binOp_leq
def IsS77 (w0 W : World) (g : Nat) (s : Timer.TimerM) : Prop :=
  ∃ (b : Nat) (D : DataW Unit), W.heap[g]? = some (.cells #[.map (some b)] 77 (0, 0)) ∧ w0.heap.size ≤ g ∧ w0.heap.size ≤ b ∧
    W.ownsMap Try.prog 9 (plainElem Try.prog 3) b s.length D ∧ Go.Proofs.Ytbnchdfmkmkhnaa.Timer.TimesD s D
theorem IsS77.blk {w0 W : World} {g : Nat} {s : Timer.TimerM} (h : IsS77 w0 W g s) : ∃ cells, W.heap[g]? = some (.cells cells 77 (0, 0)) := by
  obtain ⟨b, D, hg, _⟩ := h
  exact ⟨_, hg⟩
theorem IsS77.ge {w0 W : World} {g : Nat} {s : Timer.TimerM} (h : IsS77 w0 W g s) : w0.heap.size ≤ g := by
  obtain ⟨b, D, _, h1, _⟩ := h
  exact h1
theorem IsS77.frame {w0 W W1 : World} {g : Nat} {s : Timer.TimerM} (h : IsS77 w0 W g s)
    (hk : ∀ k, w0.heap.size ≤ k → k < W.heap.size → Go.Proofs.Ytbnchdfmkmkhnaa.Opq.Priv ts77 W.heap[k]? → W1.heap[k]? = W.heap[k]?) : IsS77 w0 W1 g s := by
  obtain ⟨b, D, hg, h1, h2, ⟨es, clock, hb, F, hs, hD⟩, hT⟩ := h
  refine ⟨b, D, (hk g h1 (blk_lt hg) (by rw [hg]; show _ ∈ ts77; decide)).trans hg, h1, h2, ⟨es, clock, (hk b h2 (blk_lt hb) (by rw [hb]; trivial)).trans hb, F, hs, hD⟩, hT⟩
theorem IsS77.lt {w0 W : World} {g : Nat} {s : Timer.TimerM} (h : IsS77 w0 W g s) : g < W.heap.size := by
  obtain ⟨_, hb⟩ := h.blk
  exact blk_lt hb
theorem IsS77.fresh {w0 W : World} {g : Nat} {s : Timer.TimerM} (h : IsS77 w0 W g s) : ∀ k, W.heap.size ≤ k → k ≠ g := by
  obtain ⟨_, hb⟩ := h.blk
  exact Kd.freshB hb
theorem IsS77.grown {w0 W : World} {g : Nat} {s : Timer.TimerM} {W1 : World} {row : Option Nat} (h : IsS77 w0 W g s) (hw : W.grownBy W1 row) (hne : Go.Proofs.Ytbnchdfmkmkhnaa.Opq.NPr ts77 W row) : IsS77 w0 W1 g s := h.frame (Go.Proofs.Ytbnchdfmkmkhnaa.Opq.frame_grown hw hne)
theorem IsS77.below {w0 W : World} {g : Nat} {s : Timer.TimerM} {W1 : World} (h : IsS77 w0 W g s) (hw : Below W.heap.size W W1) : IsS77 w0 W1 g s := h.frame (fun k _ hk _ => hw.block k hk)
theorem IsS77.alloc {w0 W : World} {g : Nat} {s : Timer.TimerM} (h : IsS77 w0 W g s) (o : Obj) : IsS77 w0 (W.alloc o) g s := h.below (below_alloc (Below.refl _ _) o)
theorem IsS77.drewN {w0 W : World} {g : Nat} {s : Timer.TimerM} (h : IsS77 w0 W g s) (m : Nat) : IsS77 w0 (W.drewN m) g s := h.frame (fun _ _ _ _ => rfl)
theorem IsS77.drew {w0 W : World} {g : Nat} {s : Timer.TimerM} (h : IsS77 w0 W g s) : IsS77 w0 W.drew g s := h.frame (fun _ _ _ _ => rfl)
theorem IsS77.at_ {w0 W : World} {g : Nat} {s : Timer.TimerM} {w' : World} {m : Nat} (hq : W.drewN m = w') (h : IsS77 w0 W g s) : IsS77 w0 w' g s := by subst hq; exact IsS77.drewN h m
theorem IsS77.far {w0 W : World} {g : Nat} {s : Timer.TimerM} {p : Addr} (h : IsS77 w0 W g s) (hne : Go.Proofs.Ytbnchdfmkmkhnaa.Opq.NP ts77 W p.block) (u : Value) : IsS77 w0 (W.setCell p u) g s := h.frame (Go.Proofs.Ytbnchdfmkmkhnaa.Opq.frame_far hne u)
theorem IsS77.apart {w0 W : World} {g : Nat} {s : Timer.TimerM} {α : Type} {d : Kd α} {e : Nat} {base : Nat} {ok : Nat → Prop} {v : Value} {xs : List α} (h : IsS77 w0 W g s) (ho : d.R e W base ok v xs) (ht : ∀ q, q ∈ e :: d.E → q ≠ 77) : d.R e W base (fun k => ok k ∧ k ≠ g) v xs := by
  obtain ⟨_, hb⟩ := h.blk
  exact Kd.R_types ho hb ht
theorem IsS77.own_ne {w0 W : World} {g : Nat} {s : Timer.TimerM} {α : Type} {d : Kd α} {e : Nat} {base : Nat} {ok : Nat → Prop} {v : Value} {xs : List α} (h : IsS77 w0 W g s) (ho : d.R e W base ok v xs) (ht : e ≠ 77) : some g ≠ v.ownBlock := by
  obtain ⟨_, hb⟩ := h.blk
  exact Kd.R_ne ho hb ht
theorem IsS77.apartQ {w0 W : World} {g : Nat} {s : Timer.TimerM} {α : Type} {d : Kd α} {e : Nat} {base : Nat} {ok : Nat → Prop} {v : Value} {xs : List α} (h : IsS77 w0 W g s) (ho : d.Q e W base ok v xs) (ht : ∀ q, q ∈ e :: d.E → q ≠ 77) : d.Q e W base (fun k => ok k ∧ k ≠ g) v xs := by
  obtain ⟨_, hb⟩ := h.blk
  exact Kd.Q_types ho hb ht
theorem IsS77.own_neQ {w0 W : World} {g : Nat} {s : Timer.TimerM} {α : Type} {d : Kd α} {e : Nat} {base : Nat} {ok : Nat → Prop} {v : Value} {xs : List α} (h : IsS77 w0 W g s) (ho : d.Q e W base ok v xs) (ht : e ≠ 77) : some g ≠ v.ownBlock := by
  obtain ⟨_, hb⟩ := h.blk
  exact Kd.Q_ne ho hb ht
theorem IsS77.apartS {w0 W : World} {g : Nat} {s : Timer.TimerM} {α : Type} {d : Kd α} {e : Nat} {base : Nat} {ok : Nat → Prop} {v : Value} {xs : List α} (h : IsS77 w0 W g s) (ho : d.S e W base ok v xs) (ht : ∀ q, q ∈ e :: d.E → q ≠ 77) : d.S e W base (fun k => ok k ∧ k ≠ g) v xs := by
  obtain ⟨_, hb⟩ := h.blk
  exact Kd.S_types ho hb ht
theorem IsS77.own_neS {w0 W : World} {g : Nat} {s : Timer.TimerM} {α : Type} {d : Kd α} {e : Nat} {base : Nat} {ok : Nat → Prop} {v : Value} {xs : List α} (h : IsS77 w0 W g s) (ho : d.S e W base ok v xs) (ht : e ≠ 77) : some g ≠ v.ownBlock := by
  obtain ⟨_, hb⟩ := h.blk
  exact Kd.S_ne ho hb ht
theorem IsS77.own_neN {w0 W : World} {g : Nat} {s : Timer.TimerM} {α : Type} {d : Kd α} {e : Nat} {base : Nat} {ok : Nat → Prop} {v : Value} {xs : List α} (h : IsS77 w0 W g s) (ho : Kd.N d e W base ok v xs) (ht : e ≠ 77) : some g ≠ v.ownBlock := by
  obtain ⟨_, hb⟩ := h.blk
  exact Kd.N_ne ho hb ht
theorem IsS77.ne_blk {w0 W : World} {g : Nat} {s : Timer.TimerM} {a : Nat} {cs : Array Value} {t : TypeId} {fr : Nat × Nat} (h : IsS77 w0 W g s) (hb2 : W.heap[a]? = some (.cells cs t fr)) (ht : t ≠ 77) : g ≠ a := by
  obtain ⟨_, hb⟩ := h.blk
  rintro rfl
  rw [hb] at hb2
  injection hb2 with hb2
  injection hb2 with _ ht2
  exact ht ht2.symm

/-! ### timer_New: function 14 -/
-- FN rounds=0 making=1
open Go.Proofs.Ytbnchdfmkmkhnaa.Timer Go.Proofs.Ytbnchdfmkmkhnaa.Opq in
def timer_New.f : Option Timer.TimerM := some []
set_option maxHeartbeats 2000000 in
open Go.Proofs.Ytbnchdfmkmkhnaa.Timer Go.Proofs.Ytbnchdfmkmkhnaa.Opq in
theorem timer_New.calls (r : Timer.TimerM) (w0 w : World) (hB : Below w0.heap.size w0 w) (h : timer_New.f = some r) :
    Calls Try.prog 14 #[] w fun e w' => ∃ g_ : Nat, e = .returned (.pointer (some ⟨g_, 0, none⟩)) ∧ IsS77 w0 w' g_ r ∧ Below w0.heap.size w0 w' ∧ Below w.heap.size w w' := by
  obtain rfl := Option.some.inj h
  have HB := Aside0.mk hB
  have HS := Aside0.mk hB.size
  have hmm := @run_makeMap Try.prog
  have hu77 := Try.underlying77
  have hum := Try.underlying75
  clear h hB
  go_enter Try.func14, Try.ntmps14
  go_wp2
  go_ret
  have hm := World.ownsMap_made (H := Unit) w Try.prog 9 (plainElem Try.prog 3)
  refine ⟨_, rfl, ⟨w.heap.size, _, ?_, ?_, HS.out, hm.alloc _, empty_timesD⟩, ?_, ?_⟩
  · simpa using heap_alloc_new (w.alloc (.map #[] 0)) (.cells #[.map (some w.heap.size)] 77)
  · have := HS.out; simp; omega
  · exact below_weaken HB.out HS.out (below_alloc (below_alloc (Below.refl _ _) _) _)
  · exact below_alloc (below_alloc (Below.refl _ _) _) _


/-! ### timer_Timers_Set: function 15 -/
-- FN rounds=0 making=1
def timer_Timers_Set.f (s : Timer.TimerM) (a1 : ByteArray) (a2 : Int) : Option (Timer.TimerM) := if a1.size ≤ maxLen ∧ (Lit.int .i64 a2).wf = true ∧ s.length < maxLen then some (Go.Proofs.Ytbnchdfmkmkhnaa.Timer.setM s a1 a2) else none
set_option maxHeartbeats 2000000 in
open Go.Proofs.Ytbnchdfmkmkhnaa.Timer Go.Proofs.Ytbnchdfmkmkhnaa.Opq in
theorem timer_Timers_Set.calls (g : Nat) (s0_0 : Timer.TimerM) (a1 : ByteArray) (a2 : Int) (r : Timer.TimerM) (w0 w : World) (hI : IsS77 w0 w g s0_0) (hB : Below w0.heap.size w0 w) (h : timer_Timers_Set.f s0_0 a1 a2 = some r) :
    Calls Try.prog 15 #[.pointer (some ⟨g, 0, none⟩), .string a1, .int .i64 a2] w fun e w' => e = .returned (.tuple #[]) ∧ IsS77 w0 w' g r ∧ Below w0.heap.size w0 w' ∧ Go.Proofs.Ytbnchdfmkmkhnaa.Opq.KeepO ts77 w0.heap.size w w' := by
  unfold timer_Timers_Set.f at h
  split at h
  case isFalse => cases h
  case isTrue hc =>
  obtain ⟨hz, hw, hl⟩ := hc
  obtain rfl := Option.some.inj h
  obtain ⟨b, D, hg, hge, hgb, hown, hT⟩ := hI
  have hne : some g ≠ some b := by
    intro e
    injection e with e
    subst e
    obtain ⟨_, _, hb, _⟩ := hown
    rw [hb] at hg
    cases hg
  have hpb : Priv ts77 w.heap[b]? := by
    obtain ⟨_, _, hb, _⟩ := hown
    rw [hb]; trivial
  have hkey : keyOf Try.prog 9 (.string a1) = some (keyL a1) := WideMaps.keyOf_string_mk Try.underlying9 hz
  have hval : plainElem (H := Unit) Try.prog 3 (.int .i64 a2) = some (.lit (.int .i64 a2), []) := plainElem_int Try.underlying3 hw
  have hcell : w.cell? ⟨g, 0, none⟩ = some (.map (some b)) := (blk_cell hg 0).trans rfl
  have HG := Aside0.mk hg
  have HB := Aside0.mk hB
  have HX := Aside0.mk (And.intro hge (And.intro hgb (And.intro hT (And.intro hne hpb))))
  have HL := Aside0.mk hl
  have HK := Aside0.mk hkey
  have HV := Aside0.mk hval
  have HO := Aside0.mk hown
  clear hg hge hgb hT hne hB h hz hw hl hkey hval hown hpb
  go_enter Try.func15, Try.ntmps15
  go_wp2_with (at_mapUpdate; refine wpList_mapUpdate_own _ rfl _ _ _ 75 rfl 9 3 (Maps.string_keyed Try.underlying9) Try.underlying75 _ b s0_0.length D rfl HO.out HL.out _ _ _ rfl rfl HK.out _ [] HV.out ?_; intro w1 ho1 hg1; have HO1 := Aside0.mk ho1; have HG1 := Aside0.mk hg1; clear ho1 hg1)
  obtain ⟨hge, hgb, hT, hne, hpb⟩ := HX.out
  have hbl : b < w.heap.size := HO.out.lt
  first | go_end0 | skip
  refine ⟨rfl, ⟨b, _, (HG1.out.block g (blk_lt HG.out) hne).trans HG.out, hge, hgb, ?_, hT.set a1 a2⟩, ?_, HG1.out.size, fun k hk hp => HG1.out.block k hk (fun e => ?_)⟩
  · have h1 := ownsMap_tight HO1.out
    rwa [(hT.set a1 a2).size] at h1
  · exact HB.out.grown HG1.out HB.out.size (fun k e => by injection e with e; omega)
  · injection e with e
    subst e
    rcases hp with hp | hp
    · omega
    · exact hp hpb


/-! ### timer_Timers_Due: function 16 -/
-- FN rounds=0 making=1
def timer_Timers_Due.f (s : Timer.TimerM) (a1 : Int) : Option (ByteArray × Int × Bool × Timer.TimerM) :=
  match Go.Proofs.Ytbnchdfmkmkhnaa.Timer.dueM s a1 with
  | none => some (⟨#[]⟩, 0, false, s)
  | some p => if p.1.size ≤ maxLen then some (p.1, p.2, true, Go.Proofs.Ytbnchdfmkmkhnaa.Timer.delM s p.1) else none
set_option maxHeartbeats 4000000 in
set_option maxRecDepth 100000 in
open Go.Proofs.Ytbnchdfmkmkhnaa.Timer Go.Proofs.Ytbnchdfmkmkhnaa.Opq in
theorem timer_Timers_Due.calls (g : Nat) (s0_0 : Timer.TimerM) (a1 : Int) (r1 : ByteArray) (r2 : Int) (r3 : Bool) (r4 : Timer.TimerM) (w0 w : World) (hI : IsS77 w0 w g s0_0) (hB : Below w0.heap.size w0 w) (h : timer_Timers_Due.f s0_0 a1 = some (r1, r2, r3, r4)) :
    Calls Try.prog 16 #[.pointer (some ⟨g, 0, none⟩), .int .i64 a1] w fun e w' => e = .returned (.tuple #[.string r1, .int .i64 r2, .bool r3]) ∧ IsS77 w0 w' g r4 ∧ Below w0.heap.size w0 w' ∧ Go.Proofs.Ytbnchdfmkmkhnaa.Opq.KeepO ts77 w0.heap.size w w' := by
  have HF := Aside0.mk h
  have HI := Aside0.mk hI
  obtain ⟨b, D, hg, hge, hgb, hown, hT⟩ := hI
  have hne : some g ≠ some b := by
    intro e
    injection e with e
    subst e
    obtain ⟨_, _, hb, _⟩ := hown
    rw [hb] at hg
    cases hg
  have hpb : Priv ts77 w.heap[b]? := by
    obtain ⟨_, _, hb, _⟩ := hown
    rw [hb]; trivial
  have hcell : w.cell? ⟨g, 0, none⟩ = some (.map (some b)) := (blk_cell hg 0).trans rfl
  have HG := Aside0.mk hg
  have HB := Aside0.mk hB
  have HX := Aside0.mk (And.intro hge (And.intro hgb (And.intro hne hpb)))
  have HT := Aside0.mk hT
  have HO := Aside0.mk hown
  clear hg hge hgb hT hne hB h hown hpb
  go_enter Try.func16, Try.ntmps16
  go_wp2_with (at_range; refine wpList_range_own _ rfl _ 75 rfl 9 3 (Maps.string_keyed Try.underlying9) Try.underlying75 _ b s0_0.length D rfl HO.out ?_; intro w1 hrg0 hg0 hs0; have HR0 := Aside0.mk hrg0; have HG0 := Aside0.mk hg0; clear hrg0 hg0 hs0)
  go_frame
  go_loopw [4, 5, 6] (fun v4 v5 v6 wr => ∃ (n : ByteArray) (v : Int) (ok : Bool) (left : Lit → Bool) (cnt : Nat), v4 = .string n ∧ v5 = .int .i64 v ∧ v6 = .bool ok ∧
      Aside0 (wr.ranges Try.prog 9 (plainElem Try.prog 3) b w.heap.size s0_0.length D left cnt) ∧ Aside0 (Best (fun q => q ∈ s0_0 ∧ left (keyL q.1) = false) a1 n v ok) ∧ Aside0 (w.grownBy wr none))
    (fun _ _ _ wr => wr.rangeLeft b w.heap.size)
  case atStart =>
    refine ⟨_, _, _, _, _, rfl, rfl, rfl, HR0, ⟨.inl ⟨rfl, rfl, rfl, fun q hq => ?_⟩⟩, HG0⟩
    have h1 := (HT.out.has (keyL q.1)).2 ⟨q, hq.1, rfl⟩
    exact absurd (h1.symm.trans hq.2) (by simp)
  case round =>
    obtain ⟨n, v, ok, left, cnt, rfl, rfl, rfl, HR, HBest, HGw⟩ := hrel
    clear HR0 HG0
    go_wp2_with (at_next; refine wpList_next_ranges _ rfl _ rfl 9 (Maps.string_keyed Try.underlying9) (plainElem Try.prog 3) Value.string (Value.int .i64) (invK Try.underlying9) (invV Try.underlying3) b w.heap.size s0_0.length D left cnt rfl HR.out ?_ ?_)
    · intro _ hl0
      have HE := Aside0.mk ((HBest.out.congr (met' := (· ∈ s0_0)) (fun q => ⟨fun h => ⟨h, hl0 _⟩, fun h => h.1⟩)).end_)
      have HO1 := Aside0.mk HR.out.owns
      have HC1 := Aside0.mk ((HGw.out.block g (blk_lt HG.out) (by simp)).trans HG.out)
      clear HR HBest hl0
      have hcell1 : wr.cell? ⟨g, 0, none⟩ = some (.map (some b)) := (blk_cell HC1.out 0).trans rfl
      cases ok with
      | false =>
        go_wp2
        go_ret3
        have h := HF.out
        unfold timer_Timers_Due.f at h
        obtain ⟨e1, e2⟩ := HE.out
        cases hd : dueM s0_0 a1 with
        | some p => rw [hd] at e1; cases e1
        | none =>
          rw [hd] at e2 h
          injection e2 with e2 e3
          injection h with h
          injection h with h1 h
          injection h with h2 h
          injection h with h3 h4
          subst h1 h2 h3 h4 e2 e3
          exact ⟨rfl, HI.out.grown HGw.out (fun k e => by cases e), HB.out.grown HGw.out HB.out.size (fun k e => by cases e), (KeepO.refl _ _ _).trans3 HGw.out (.inl rfl)⟩
      | true =>
        have h := HF.out
        unfold timer_Timers_Due.f at h
        obtain ⟨e1, e2⟩ := HE.out
        cases hd : dueM s0_0 a1 with
        | none => rw [hd] at e1; cases e1
        | some p =>
        rw [hd] at e2 h
        have e2 : (n, v) = p := e2
        subst e2
        dsimp only at h
        split at h
        case isFalse => cases h
        case isTrue hz =>
        injection h with h
        injection h with h1 h
        injection h with h2 h
        injection h with h3 h4
        subst h1 h2 h3 h4
        have HK := Aside0.mk (show keyOf Try.prog 9 (.string n) = some (keyL n) from WideMaps.keyOf_string_mk Try.underlying9 hz)
        clear hz hd HE HF e1
        go_wp2_with (at_delete; refine wpList_delete_own _ rfl _ _ 75 9 rfl 3 (Maps.string_keyed Try.underlying9) Try.underlying75 _ b s0_0.length D rfl HO1.out _ _ rfl HK.out ?_; intro w2 ho2 hg2; have HO2 := Aside0.mk ho2; have HG2 := Aside0.mk hg2.grown; clear ho2 hg2)
        go_ret3
        obtain ⟨hge, hgb, hne, hpb⟩ := HX.out
        have hbl : b < w.heap.size := HO.out.lt
        have hT := HT.out
        have HGG := (HGw.out.but (some b)).andThen HG2.out (fun j e => .inr e)
        refine ⟨rfl, ⟨b, _, (HGG.block g (blk_lt HG.out) hne).trans HG.out, hge, hgb, ?_, hT.del n⟩, ?_, HGG.size, fun k hk hp => HGG.block k hk (fun e => ?_)⟩
        · have h1 := ownsMap_tight HO2.out
          rwa [(hT.del n).size] at h1
        · exact HB.out.grown HGG HB.out.size (fun k e => by injection e with e; omega)
        · injection e with e
          subst e
          rcases hp with hp | hp
          · omega
          · exact hp hpb
    · intro x c kl y yp w1 cnt1 hkx hlx hy hat hrg1 hlt hg1 hs1 hen
      obtain ⟨x', hx', hkl, _⟩ := WideMaps.string_of_keyOf Try.underlying9 hkx
      injection hx' with hx'
      subst hx'
      have hkl : kl = keyL x := hkl
      subst hkl
      obtain ⟨c', hc', hy', _⟩ := plainElem_int_inv Try.underlying3 hy
      injection hc' with _ hc'
      subst hc'
      injection hy' with hy' _
      subst hy'
      have HM := Aside0.mk (met_step HT.out (left := left) hat)
      have HG1 := Aside0.mk (HGw.out.andThen hg1 (fun j e => .inl (by injection e with e; omega)))
      have HR1 := Aside0.mk hrg1
      have HLT := Aside0.mk hlt
      clear hkx hlx hy hat hrg1 hlt hg1 hs1
      have HD := Aside0.mk (show before (x, c) (n, v) = (decide (c < v) || (c == v && Op.bytesLess x.toList n.toList)) from rfl)
      by_cases k1 : c ≤ a1
      · have K1 := Aside0.mk k1
        have d1 : decide (c ≤ a1) = true := decide_eq_true k1
        clear k1
        cases ok with
        | false =>
          go_wp2
          go_roundw
          case rel => exact ⟨x, c, true, _, cnt1, rfl, rfl, rfl, HR1, ⟨HBest.out.take HM.out K1.out (.inl rfl)⟩, HG1⟩
          case measure => rw [HR1.out.left_eq, HR.out.left_eq]; exact HLT.out
        | true =>
          by_cases k2 : c < v
          · have K2 := Aside0.mk k2
            have d2 : decide (c < v) = true := decide_eq_true k2
            clear k2
            go_wp2
            go_roundw
            case rel => exact ⟨x, c, true, _, cnt1, rfl, rfl, rfl, HR1, ⟨HBest.out.take HM.out K1.out (.inr (by rw [HD.out, decide_eq_true K2.out]; rfl))⟩, HG1⟩
            case measure => rw [HR1.out.left_eq, HR.out.left_eq]; exact HLT.out
          · have K2 := Aside0.mk k2
            have d2 : decide (c < v) = false := decide_eq_false k2
            clear k2
            by_cases k3 : c = v
            · have K3 := Aside0.mk k3
              have d3 : (c == v) = true := beq_iff_eq.2 k3
              clear k3
              cases k4 : Op.bytesLess x.toList n.toList with
              | true =>
                have K4 := Aside0.mk k4
                go_wp2
                go_roundw
                case rel => exact ⟨x, c, true, _, cnt1, rfl, rfl, rfl, HR1, ⟨HBest.out.take HM.out K1.out (.inr (by rw [HD.out, K4.out, beq_iff_eq.2 K3.out]; simp))⟩, HG1⟩
                case measure => rw [HR1.out.left_eq, HR.out.left_eq]; exact HLT.out
              | false =>
                have K4 := Aside0.mk k4
                go_wp2
                go_roundw
                case rel => exact ⟨n, v, true, _, cnt1, rfl, rfl, rfl, HR1, ⟨HBest.out.skip HM.out (.inr ⟨rfl, (by rw [HD.out, K4.out, decide_eq_false K2.out]; simp)⟩)⟩, HG1⟩
                case measure => rw [HR1.out.left_eq, HR.out.left_eq]; exact HLT.out
            · have K3 := Aside0.mk k3
              have d3 : (c == v) = false := beq_eq_false_iff_ne.2 k3
              clear k3
              go_wp2
              go_roundw
              case rel => exact ⟨n, v, true, _, cnt1, rfl, rfl, rfl, HR1, ⟨HBest.out.skip HM.out (.inr ⟨rfl, (by rw [HD.out, beq_eq_false_iff_ne.2 K3.out, decide_eq_false K2.out]; rfl)⟩)⟩, HG1⟩
              case measure => rw [HR1.out.left_eq, HR.out.left_eq]; exact HLT.out
      · have K1 := Aside0.mk k1
        have d1 : decide (c ≤ a1) = false := decide_eq_false k1
        clear k1
        go_wp2
        go_roundw
        case rel => exact ⟨n, v, ok, _, cnt1, rfl, rfl, rfl, HR1, ⟨HBest.out.skip HM.out (.inl K1.out)⟩, HG1⟩
        case measure => rw [HR1.out.left_eq, HR.out.left_eq]; exact HLT.out


/-! ### interregnumlaw17_answers: function 13 -/
def interregnumlaw17_answers.f  : Option (Bool) := (timer_New.f).bind fun t101 => ((timer_Timers_Set.f t101 (⟨#[97]⟩ : ByteArray) 5).bind fun t103 => ((timer_Timers_Due.f t103 4).bind fun bt104 => ((timer_Timers_Due.f bt104.2.2.2 5).bind fun bt108 => (if bt104.2.2.1 = true then (some false) else (if bt108.2.2.1 = true then (if bt108.1.toList = ([97] : List UInt8) then (some (bt108.2.1 == 5)) else (some false)) else (some false))))))
set_option maxHeartbeats 8000000 in
set_option maxRecDepth 100000 in
theorem interregnumlaw17_answers.calls  (r : Bool) (w : World) (h : interregnumlaw17_answers.f  = some r) :
    Calls Try.prog 13 #[] w fun e w' => e = .returned (.bool r) ∧ Below w.heap.size w w' := by
  have HB := Aside0.mk (Below.refl w.heap.size w)
  have H : ((timer_New.f).bind fun t101 => ((timer_Timers_Set.f t101 (⟨#[97]⟩ : ByteArray) 5).bind fun t103 => ((timer_Timers_Due.f t103 4).bind fun bt104 => ((timer_Timers_Due.f bt104.2.2.2 5).bind fun bt108 => (if bt104.2.2.1 = true then (some false) else (if bt108.2.2.1 = true then (if bt108.1.toList = ([97] : List UInt8) then (some (bt108.2.1 == 5)) else (some false)) else (some false))))))) = some r := h
  clear h
  replace H := Option.bind_eq_some_iff.mp H
  obtain ⟨t101, A10, H⟩ := H
  replace H : ((timer_Timers_Set.f t101 (⟨#[97]⟩ : ByteArray) 5).bind fun t103 => ((timer_Timers_Due.f t103 4).bind fun bt104 => ((timer_Timers_Due.f bt104.2.2.2 5).bind fun bt108 => (if bt104.2.2.1 = true then (some false) else (if bt108.2.2.1 = true then (if bt108.1.toList = ([97] : List UInt8) then (some (bt108.2.1 == 5)) else (some false)) else (some false)))))) = some r := H
  have A1 := Aside0.mk A10
  clear A10
  replace H := Option.bind_eq_some_iff.mp H
  obtain ⟨t103, A20, H⟩ := H
  replace H : ((timer_Timers_Due.f t103 4).bind fun bt104 => ((timer_Timers_Due.f bt104.2.2.2 5).bind fun bt108 => (if bt104.2.2.1 = true then (some false) else (if bt108.2.2.1 = true then (if bt108.1.toList = ([97] : List UInt8) then (some (bt108.2.1 == 5)) else (some false)) else (some false))))) = some r := H
  have A2 := Aside0.mk A20
  clear A20
  replace H := Option.bind_eq_some_iff.mp H
  obtain ⟨⟨t104, t105, t106, t107⟩, A30, H⟩ := H
  replace H : ((timer_Timers_Due.f t107 5).bind fun bt108 => (if t106 = true then (some false) else (if bt108.2.2.1 = true then (if bt108.1.toList = ([97] : List UInt8) then (some (bt108.2.1 == 5)) else (some false)) else (some false)))) = some r := H
  have A3 := Aside0.mk A30
  clear A30
  replace H := Option.bind_eq_some_iff.mp H
  obtain ⟨⟨t108, t109, t110, t111⟩, A40, H⟩ := H
  replace H : (if t106 = true then (some false) else (if t110 = true then (if t108.toList = ([97] : List UInt8) then (some (t109 == 5)) else (some false)) else (some false))) = some r := H
  have A4 := Aside0.mk A40
  clear A40
  by_cases c5 : t106 = true
  · subst c5
    have H1 : (some false) = some r := by rw [if_pos rfl] at H; exact H
    clear H
    have H := H1
    clear H1
    obtain rfl := Option.some.inj H
    go_enter Try.func13, Try.ntmps13
    go_wp2_with (first | ((with_reducible refine gate_callee (f := 14) rfl ?_); refine goesL_ (some 8) rfl rfl Try.func14 (by kernel_rfl) rfl #[] rfl (by (try simp only [List.map_toArray, List.map_cons, List.map_nil]); first | done | rfl | (simp only [List.length_drop, List.length_take]; rfl)) ?_; (with_reducible refine (timer_New.calls  t101 w _ ?side1 A1.out).mono ?_); (case side1 => repeat (first | (with_reducible first | exact HB.out | apply below_alloc | apply pw_below_drewN | apply below_drew1) | exact HB.out)); rintro e w6 ⟨g102, rfl, hi, hb, hb2⟩; refine ⟨_, rfl, ?_⟩; have n0_ := Aside0.mk (hb); have n1_ := Aside0.mk (hi); clear HB; have HB := n0_; have HI102 := n1_; clear n0_ n1_; (try clear hb); (try clear hb2); (try clear hk); (try clear hi)) | ((with_reducible refine gate_callee (f := 15) rfl ?_); refine goesL_ (some 10) rfl rfl Try.func15 (by kernel_rfl) rfl #[.pointer (some ⟨g102, 0, none⟩), .string (⟨#[97]⟩ : ByteArray), .int .i64 5] rfl (by (try simp only [List.map_toArray, List.map_cons, List.map_nil]); first | done | rfl | (simp only [List.length_drop, List.length_take]; rfl)) ?_; (with_reducible refine (timer_Timers_Set.calls g102 t101 (⟨#[97]⟩ : ByteArray) 5 t103 w _ ?side1 ?side2 A2.out).mono ?_); (case side1 => repeat (first | (with_reducible first | exact HI102.out | apply IsS77.alloc | apply IsS77.drewN | apply IsS77.drew) | exact HI102.out)); (case side2 => repeat (first | (with_reducible first | exact HB.out | apply below_alloc | apply pw_below_drewN | apply below_drew1 | refine below_set ?_ (IsS77.ge HI102.out)) | exact HB.out)); rintro e w7 ⟨rfl, hi, hb, hk⟩; refine ⟨_, rfl, ?_⟩; have n0_ := Aside0.mk (hb); have n1_ := Aside0.mk (hi); clear HB; clear HI102; have HB := n0_; have HI102 := n1_; clear n0_ n1_; (try clear hb); (try clear hb2); (try clear hk); (try clear hi)) | ((with_reducible refine gate_callee (f := 16) rfl ?_); refine goesL_ (some 13) rfl rfl Try.func16 (by kernel_rfl) rfl #[.pointer (some ⟨g102, 0, none⟩), .int .i64 4] rfl (by (try simp only [List.map_toArray, List.map_cons, List.map_nil]); first | done | rfl | (simp only [List.length_drop, List.length_take]; rfl)) ?_; (with_reducible refine (timer_Timers_Due.calls g102 t103 4 t104 t105 true t107 w _ ?side1 ?side2 A3.out).mono ?_); (case side1 => repeat (first | (with_reducible first | exact HI102.out | apply IsS77.alloc | apply IsS77.drewN | apply IsS77.drew) | exact HI102.out)); (case side2 => repeat (first | (with_reducible first | exact HB.out | apply below_alloc | apply pw_below_drewN | apply below_drew1 | refine below_set ?_ (IsS77.ge HI102.out)) | exact HB.out)); rintro e w8 ⟨rfl, hi, hb, hk⟩; refine ⟨_, rfl, ?_⟩; have n0_ := Aside0.mk (hb); have n1_ := Aside0.mk (hi); clear HB; clear HI102; have HB := n0_; have HI102 := n1_; clear n0_ n1_; (try clear hb); (try clear hb2); (try clear hk); (try clear hi)) | ((with_reducible refine gate_callee (f := 16) rfl ?_); refine goesL_ (some 19) rfl rfl Try.func16 (by kernel_rfl) rfl #[.pointer (some ⟨g102, 0, none⟩), .int .i64 5] rfl (by (try simp only [List.map_toArray, List.map_cons, List.map_nil]); first | done | rfl | (simp only [List.length_drop, List.length_take]; rfl)) ?_; (with_reducible refine (timer_Timers_Due.calls g102 t107 5 t108 t109 t110 t111 w _ ?side1 ?side2 A4.out).mono ?_); (case side1 => repeat (first | (with_reducible first | exact HI102.out | apply IsS77.alloc | apply IsS77.drewN | apply IsS77.drew) | exact HI102.out)); (case side2 => repeat (first | (with_reducible first | exact HB.out | apply below_alloc | apply pw_below_drewN | apply below_drew1 | refine below_set ?_ (IsS77.ge HI102.out)) | exact HB.out)); rintro e w9 ⟨rfl, hi, hb, hk⟩; refine ⟨_, rfl, ?_⟩; have n0_ := Aside0.mk (hb); have n1_ := Aside0.mk (hi); clear HB; clear HI102; have HB := n0_; have HI102 := n1_; clear n0_ n1_; (try clear hb); (try clear hb2); (try clear hk); (try clear hi)))
    go_ret
    exact ⟨by first | rfl | (simp [errW_none, errW_some] <;> rfl) | (simp [*, errW_none, errW_some] <;> rfl), by repeat (first | (with_reducible first | exact HB.out | apply below_alloc | apply pw_below_drewN | apply below_drew1 | refine below_set ?_ (IsS77.ge HI102.out)) | exact HB.out)⟩
  · replace c5 := Bool.eq_false_iff.mpr c5
    subst c5
    have H1 : (if t110 = true then (if t108.toList = ([97] : List UInt8) then (some (t109 == 5)) else (some false)) else (some false)) = some r := by rw [if_neg (show ¬ (false = true) by decide)] at H; exact H
    clear H
    have H := H1
    clear H1
    by_cases c10 : t110 = true
    · subst c10
      have H1 : (if t108.toList = ([97] : List UInt8) then (some (t109 == 5)) else (some false)) = some r := by rw [if_pos rfl] at H; exact H
      clear H
      have H := H1
      clear H1
      by_cases c11 : t108.toList = ([97] : List UInt8)
      · rw [if_pos c11] at H
        have c11b0 : (t108.toList == ([97] : List UInt8)) = true := beq_iff_eq.mpr c11
        have c11b1 : (t108.toList != ([97] : List UInt8)) = false := bne_eq_false_iff_eq.mpr c11
        clear c11
        obtain rfl := Option.some.inj H
        go_enter Try.func13, Try.ntmps13
        go_wp2_with (first | ((with_reducible refine gate_callee (f := 14) rfl ?_); refine goesL_ (some 8) rfl rfl Try.func14 (by kernel_rfl) rfl #[] rfl (by (try simp only [List.map_toArray, List.map_cons, List.map_nil]); first | done | rfl | (simp only [List.length_drop, List.length_take]; rfl)) ?_; (with_reducible refine (timer_New.calls  t101 w _ ?side1 A1.out).mono ?_); (case side1 => repeat (first | (with_reducible first | exact HB.out | apply below_alloc | apply pw_below_drewN | apply below_drew1) | exact HB.out)); rintro e w12 ⟨g102, rfl, hi, hb, hb2⟩; refine ⟨_, rfl, ?_⟩; have n0_ := Aside0.mk (hb); have n1_ := Aside0.mk (hi); clear HB; have HB := n0_; have HI102 := n1_; clear n0_ n1_; (try clear hb); (try clear hb2); (try clear hk); (try clear hi)) | ((with_reducible refine gate_callee (f := 15) rfl ?_); refine goesL_ (some 10) rfl rfl Try.func15 (by kernel_rfl) rfl #[.pointer (some ⟨g102, 0, none⟩), .string (⟨#[97]⟩ : ByteArray), .int .i64 5] rfl (by (try simp only [List.map_toArray, List.map_cons, List.map_nil]); first | done | rfl | (simp only [List.length_drop, List.length_take]; rfl)) ?_; (with_reducible refine (timer_Timers_Set.calls g102 t101 (⟨#[97]⟩ : ByteArray) 5 t103 w _ ?side1 ?side2 A2.out).mono ?_); (case side1 => repeat (first | (with_reducible first | exact HI102.out | apply IsS77.alloc | apply IsS77.drewN | apply IsS77.drew) | exact HI102.out)); (case side2 => repeat (first | (with_reducible first | exact HB.out | apply below_alloc | apply pw_below_drewN | apply below_drew1 | refine below_set ?_ (IsS77.ge HI102.out)) | exact HB.out)); rintro e w13 ⟨rfl, hi, hb, hk⟩; refine ⟨_, rfl, ?_⟩; have n0_ := Aside0.mk (hb); have n1_ := Aside0.mk (hi); clear HB; clear HI102; have HB := n0_; have HI102 := n1_; clear n0_ n1_; (try clear hb); (try clear hb2); (try clear hk); (try clear hi)) | ((with_reducible refine gate_callee (f := 16) rfl ?_); refine goesL_ (some 13) rfl rfl Try.func16 (by kernel_rfl) rfl #[.pointer (some ⟨g102, 0, none⟩), .int .i64 4] rfl (by (try simp only [List.map_toArray, List.map_cons, List.map_nil]); first | done | rfl | (simp only [List.length_drop, List.length_take]; rfl)) ?_; (with_reducible refine (timer_Timers_Due.calls g102 t103 4 t104 t105 false t107 w _ ?side1 ?side2 A3.out).mono ?_); (case side1 => repeat (first | (with_reducible first | exact HI102.out | apply IsS77.alloc | apply IsS77.drewN | apply IsS77.drew) | exact HI102.out)); (case side2 => repeat (first | (with_reducible first | exact HB.out | apply below_alloc | apply pw_below_drewN | apply below_drew1 | refine below_set ?_ (IsS77.ge HI102.out)) | exact HB.out)); rintro e w14 ⟨rfl, hi, hb, hk⟩; refine ⟨_, rfl, ?_⟩; have n0_ := Aside0.mk (hb); have n1_ := Aside0.mk (hi); clear HB; clear HI102; have HB := n0_; have HI102 := n1_; clear n0_ n1_; (try clear hb); (try clear hb2); (try clear hk); (try clear hi)) | ((with_reducible refine gate_callee (f := 16) rfl ?_); refine goesL_ (some 19) rfl rfl Try.func16 (by kernel_rfl) rfl #[.pointer (some ⟨g102, 0, none⟩), .int .i64 5] rfl (by (try simp only [List.map_toArray, List.map_cons, List.map_nil]); first | done | rfl | (simp only [List.length_drop, List.length_take]; rfl)) ?_; (with_reducible refine (timer_Timers_Due.calls g102 t107 5 t108 t109 true t111 w _ ?side1 ?side2 A4.out).mono ?_); (case side1 => repeat (first | (with_reducible first | exact HI102.out | apply IsS77.alloc | apply IsS77.drewN | apply IsS77.drew) | exact HI102.out)); (case side2 => repeat (first | (with_reducible first | exact HB.out | apply below_alloc | apply pw_below_drewN | apply below_drew1 | refine below_set ?_ (IsS77.ge HI102.out)) | exact HB.out)); rintro e w15 ⟨rfl, hi, hb, hk⟩; refine ⟨_, rfl, ?_⟩; have n0_ := Aside0.mk (hb); have n1_ := Aside0.mk (hi); clear HB; clear HI102; have HB := n0_; have HI102 := n1_; clear n0_ n1_; (try clear hb); (try clear hb2); (try clear hk); (try clear hi)))
        go_ret
        exact ⟨by first | rfl | (simp [errW_none, errW_some] <;> rfl) | (simp [*, errW_none, errW_some] <;> rfl), by repeat (first | (with_reducible first | exact HB.out | apply below_alloc | apply pw_below_drewN | apply below_drew1 | refine below_set ?_ (IsS77.ge HI102.out)) | exact HB.out)⟩
      · rw [if_neg c11] at H
        have c11b0 : (t108.toList == ([97] : List UInt8)) = false := beq_eq_false_iff_ne.mpr c11
        have c11b1 : (t108.toList != ([97] : List UInt8)) = true := bne_iff_ne.mpr c11
        obtain rfl := Option.some.inj H
        go_enter Try.func13, Try.ntmps13
        go_wp2_with (first | ((with_reducible refine gate_callee (f := 14) rfl ?_); refine goesL_ (some 8) rfl rfl Try.func14 (by kernel_rfl) rfl #[] rfl (by (try simp only [List.map_toArray, List.map_cons, List.map_nil]); first | done | rfl | (simp only [List.length_drop, List.length_take]; rfl)) ?_; (with_reducible refine (timer_New.calls  t101 w _ ?side1 A1.out).mono ?_); (case side1 => repeat (first | (with_reducible first | exact HB.out | apply below_alloc | apply pw_below_drewN | apply below_drew1) | exact HB.out)); rintro e w16 ⟨g102, rfl, hi, hb, hb2⟩; refine ⟨_, rfl, ?_⟩; have n0_ := Aside0.mk (hb); have n1_ := Aside0.mk (hi); clear HB; have HB := n0_; have HI102 := n1_; clear n0_ n1_; (try clear hb); (try clear hb2); (try clear hk); (try clear hi)) | ((with_reducible refine gate_callee (f := 15) rfl ?_); refine goesL_ (some 10) rfl rfl Try.func15 (by kernel_rfl) rfl #[.pointer (some ⟨g102, 0, none⟩), .string (⟨#[97]⟩ : ByteArray), .int .i64 5] rfl (by (try simp only [List.map_toArray, List.map_cons, List.map_nil]); first | done | rfl | (simp only [List.length_drop, List.length_take]; rfl)) ?_; (with_reducible refine (timer_Timers_Set.calls g102 t101 (⟨#[97]⟩ : ByteArray) 5 t103 w _ ?side1 ?side2 A2.out).mono ?_); (case side1 => repeat (first | (with_reducible first | exact HI102.out | apply IsS77.alloc | apply IsS77.drewN | apply IsS77.drew) | exact HI102.out)); (case side2 => repeat (first | (with_reducible first | exact HB.out | apply below_alloc | apply pw_below_drewN | apply below_drew1 | refine below_set ?_ (IsS77.ge HI102.out)) | exact HB.out)); rintro e w17 ⟨rfl, hi, hb, hk⟩; refine ⟨_, rfl, ?_⟩; have n0_ := Aside0.mk (hb); have n1_ := Aside0.mk (hi); clear HB; clear HI102; have HB := n0_; have HI102 := n1_; clear n0_ n1_; (try clear hb); (try clear hb2); (try clear hk); (try clear hi)) | ((with_reducible refine gate_callee (f := 16) rfl ?_); refine goesL_ (some 13) rfl rfl Try.func16 (by kernel_rfl) rfl #[.pointer (some ⟨g102, 0, none⟩), .int .i64 4] rfl (by (try simp only [List.map_toArray, List.map_cons, List.map_nil]); first | done | rfl | (simp only [List.length_drop, List.length_take]; rfl)) ?_; (with_reducible refine (timer_Timers_Due.calls g102 t103 4 t104 t105 false t107 w _ ?side1 ?side2 A3.out).mono ?_); (case side1 => repeat (first | (with_reducible first | exact HI102.out | apply IsS77.alloc | apply IsS77.drewN | apply IsS77.drew) | exact HI102.out)); (case side2 => repeat (first | (with_reducible first | exact HB.out | apply below_alloc | apply pw_below_drewN | apply below_drew1 | refine below_set ?_ (IsS77.ge HI102.out)) | exact HB.out)); rintro e w18 ⟨rfl, hi, hb, hk⟩; refine ⟨_, rfl, ?_⟩; have n0_ := Aside0.mk (hb); have n1_ := Aside0.mk (hi); clear HB; clear HI102; have HB := n0_; have HI102 := n1_; clear n0_ n1_; (try clear hb); (try clear hb2); (try clear hk); (try clear hi)) | ((with_reducible refine gate_callee (f := 16) rfl ?_); refine goesL_ (some 19) rfl rfl Try.func16 (by kernel_rfl) rfl #[.pointer (some ⟨g102, 0, none⟩), .int .i64 5] rfl (by (try simp only [List.map_toArray, List.map_cons, List.map_nil]); first | done | rfl | (simp only [List.length_drop, List.length_take]; rfl)) ?_; (with_reducible refine (timer_Timers_Due.calls g102 t107 5 t108 t109 true t111 w _ ?side1 ?side2 A4.out).mono ?_); (case side1 => repeat (first | (with_reducible first | exact HI102.out | apply IsS77.alloc | apply IsS77.drewN | apply IsS77.drew) | exact HI102.out)); (case side2 => repeat (first | (with_reducible first | exact HB.out | apply below_alloc | apply pw_below_drewN | apply below_drew1 | refine below_set ?_ (IsS77.ge HI102.out)) | exact HB.out)); rintro e w19 ⟨rfl, hi, hb, hk⟩; refine ⟨_, rfl, ?_⟩; have n0_ := Aside0.mk (hb); have n1_ := Aside0.mk (hi); clear HB; clear HI102; have HB := n0_; have HI102 := n1_; clear n0_ n1_; (try clear hb); (try clear hb2); (try clear hk); (try clear hi)))
        go_ret
        exact ⟨by first | rfl | (simp [errW_none, errW_some] <;> rfl) | (simp [*, errW_none, errW_some] <;> rfl), by repeat (first | (with_reducible first | exact HB.out | apply below_alloc | apply pw_below_drewN | apply below_drew1 | refine below_set ?_ (IsS77.ge HI102.out)) | exact HB.out)⟩
    · replace c10 := Bool.eq_false_iff.mpr c10
      subst c10
      have H1 : (some false) = some r := by rw [if_neg (show ¬ (false = true) by decide)] at H; exact H
      clear H
      have H := H1
      clear H1
      obtain rfl := Option.some.inj H
      go_enter Try.func13, Try.ntmps13
      go_wp2_with (first | ((with_reducible refine gate_callee (f := 14) rfl ?_); refine goesL_ (some 8) rfl rfl Try.func14 (by kernel_rfl) rfl #[] rfl (by (try simp only [List.map_toArray, List.map_cons, List.map_nil]); first | done | rfl | (simp only [List.length_drop, List.length_take]; rfl)) ?_; (with_reducible refine (timer_New.calls  t101 w _ ?side1 A1.out).mono ?_); (case side1 => repeat (first | (with_reducible first | exact HB.out | apply below_alloc | apply pw_below_drewN | apply below_drew1) | exact HB.out)); rintro e w20 ⟨g102, rfl, hi, hb, hb2⟩; refine ⟨_, rfl, ?_⟩; have n0_ := Aside0.mk (hb); have n1_ := Aside0.mk (hi); clear HB; have HB := n0_; have HI102 := n1_; clear n0_ n1_; (try clear hb); (try clear hb2); (try clear hk); (try clear hi)) | ((with_reducible refine gate_callee (f := 15) rfl ?_); refine goesL_ (some 10) rfl rfl Try.func15 (by kernel_rfl) rfl #[.pointer (some ⟨g102, 0, none⟩), .string (⟨#[97]⟩ : ByteArray), .int .i64 5] rfl (by (try simp only [List.map_toArray, List.map_cons, List.map_nil]); first | done | rfl | (simp only [List.length_drop, List.length_take]; rfl)) ?_; (with_reducible refine (timer_Timers_Set.calls g102 t101 (⟨#[97]⟩ : ByteArray) 5 t103 w _ ?side1 ?side2 A2.out).mono ?_); (case side1 => repeat (first | (with_reducible first | exact HI102.out | apply IsS77.alloc | apply IsS77.drewN | apply IsS77.drew) | exact HI102.out)); (case side2 => repeat (first | (with_reducible first | exact HB.out | apply below_alloc | apply pw_below_drewN | apply below_drew1 | refine below_set ?_ (IsS77.ge HI102.out)) | exact HB.out)); rintro e w21 ⟨rfl, hi, hb, hk⟩; refine ⟨_, rfl, ?_⟩; have n0_ := Aside0.mk (hb); have n1_ := Aside0.mk (hi); clear HB; clear HI102; have HB := n0_; have HI102 := n1_; clear n0_ n1_; (try clear hb); (try clear hb2); (try clear hk); (try clear hi)) | ((with_reducible refine gate_callee (f := 16) rfl ?_); refine goesL_ (some 13) rfl rfl Try.func16 (by kernel_rfl) rfl #[.pointer (some ⟨g102, 0, none⟩), .int .i64 4] rfl (by (try simp only [List.map_toArray, List.map_cons, List.map_nil]); first | done | rfl | (simp only [List.length_drop, List.length_take]; rfl)) ?_; (with_reducible refine (timer_Timers_Due.calls g102 t103 4 t104 t105 false t107 w _ ?side1 ?side2 A3.out).mono ?_); (case side1 => repeat (first | (with_reducible first | exact HI102.out | apply IsS77.alloc | apply IsS77.drewN | apply IsS77.drew) | exact HI102.out)); (case side2 => repeat (first | (with_reducible first | exact HB.out | apply below_alloc | apply pw_below_drewN | apply below_drew1 | refine below_set ?_ (IsS77.ge HI102.out)) | exact HB.out)); rintro e w22 ⟨rfl, hi, hb, hk⟩; refine ⟨_, rfl, ?_⟩; have n0_ := Aside0.mk (hb); have n1_ := Aside0.mk (hi); clear HB; clear HI102; have HB := n0_; have HI102 := n1_; clear n0_ n1_; (try clear hb); (try clear hb2); (try clear hk); (try clear hi)) | ((with_reducible refine gate_callee (f := 16) rfl ?_); refine goesL_ (some 19) rfl rfl Try.func16 (by kernel_rfl) rfl #[.pointer (some ⟨g102, 0, none⟩), .int .i64 5] rfl (by (try simp only [List.map_toArray, List.map_cons, List.map_nil]); first | done | rfl | (simp only [List.length_drop, List.length_take]; rfl)) ?_; (with_reducible refine (timer_Timers_Due.calls g102 t107 5 t108 t109 false t111 w _ ?side1 ?side2 A4.out).mono ?_); (case side1 => repeat (first | (with_reducible first | exact HI102.out | apply IsS77.alloc | apply IsS77.drewN | apply IsS77.drew) | exact HI102.out)); (case side2 => repeat (first | (with_reducible first | exact HB.out | apply below_alloc | apply pw_below_drewN | apply below_drew1 | refine below_set ?_ (IsS77.ge HI102.out)) | exact HB.out)); rintro e w23 ⟨rfl, hi, hb, hk⟩; refine ⟨_, rfl, ?_⟩; have n0_ := Aside0.mk (hb); have n1_ := Aside0.mk (hi); clear HB; clear HI102; have HB := n0_; have HI102 := n1_; clear n0_ n1_; (try clear hb); (try clear hb2); (try clear hk); (try clear hi)))
      go_ret
      exact ⟨by first | rfl | (simp [errW_none, errW_some] <;> rfl) | (simp [*, errW_none, errW_some] <;> rfl), by repeat (first | (with_reducible first | exact HB.out | apply below_alloc | apply pw_below_drewN | apply below_drew1 | refine below_set ?_ (IsS77.ge HI102.out)) | exact HB.out)⟩

/-! ### interregnumlaw17_TimerOrder: function 3 -/
mutual
def interregnumlaw17_TimerOrder.l0 : Nat → List Int → Int → Timer.TimerM → Option (Bool)
  | 0, _, _, _ => none
  | k + 1, x0, x4, x115000 => if x4 < (x0.length : Int) then (if 0 ≤ x4 then ((timer_Timers_Set.f x115000 (strOfNums (([(97 + ((wrap64 (Int.tdiv x4 26)) % 256)) % 256, (97 + ((Int.tmod x4 26) % 256)) % 256] : List Int))) (wrap64 (rd x0 x4))).bind fun t119 => (interregnumlaw17_TimerOrder.l0 k x0 (wrap64 (x4 + 1)) t119)) else (none)) else (interregnumlaw17_TimerOrder.l1 k x0 (-1) (⟨#[]⟩ : ByteArray) 0 x115000)
def interregnumlaw17_TimerOrder.l1 : Nat → List Int → Int → ByteArray → Int → Timer.TimerM → Option (Bool)
  | 0, _, _, _, _, _ => none
  | k + 1, x0, x5, x6, x7, x115000 => if x7 < (x0.length : Int) then ((timer_Timers_Due.f x115000 70000).bind fun bt120 => (if bt120.2.2.1 = true then (if bt120.2.1 < x5 then (some false) else (if bt120.2.1 = x5 then (if ((Op.bytesLess x6.toList bt120.1.toList) = true) then (interregnumlaw17_TimerOrder.l1 k x0 bt120.2.1 bt120.1 (wrap64 (x7 + 1)) bt120.2.2.2) else (some false)) else (interregnumlaw17_TimerOrder.l1 k x0 bt120.2.1 bt120.1 (wrap64 (x7 + 1)) bt120.2.2.2))) else (some false))) else ((timer_Timers_Due.f x115000 70000).bind fun bt124 => ((interregnumlaw17_answers.f).bind fun t128 => (if t128 = true then (some (!bt124.2.2.1)) else (some false))))
end
def interregnumlaw17_TimerOrder.f (k : Nat) (l0 : List Int) : Option (Bool) := if (l0.length : Int) > 50 then ((interregnumlaw17_answers.f).bind fun t112 => (some t112)) else ((timer_New.f).bind fun t113 => (interregnumlaw17_TimerOrder.l0 k l0 0 t113))
theorem interregnumlaw17_TimerOrder.mono_l : ∀ k, (∀ y0 y1 y2, LeO (interregnumlaw17_TimerOrder.l0 k y0 y1 y2) (interregnumlaw17_TimerOrder.l0 (k + 1) y0 y1 y2)) ∧ (∀ y0 y1 y2 y3 y4, LeO (interregnumlaw17_TimerOrder.l1 k y0 y1 y2 y3 y4) (interregnumlaw17_TimerOrder.l1 (k + 1) y0 y1 y2 y3 y4))
  | 0 => ⟨fun _ _ _ r h => by simp [interregnumlaw17_TimerOrder.l0] at h, fun _ _ _ _ _ r h => by simp [interregnumlaw17_TimerOrder.l1] at h⟩
  | k + 1 => by
    obtain ⟨ih0, ih1⟩ := interregnumlaw17_TimerOrder.mono_l k
    refine ⟨?_, ?_⟩
    · intro y0 y1 y2
      unfold interregnumlaw17_TimerOrder.l0
      repeat' first
      | (with_reducible exact ih0 _ _ _)
      | (with_reducible exact ih1 _ _ _ _ _)
      | (with_reducible exact LeO.refl _)
      | (with_reducible exact LeO.none _)
      | (with_reducible refine LeO.ite ?_ ?_)
      | (with_reducible refine LeO.bind ?_ (fun _ => ?_))
      | exact ih0 _ _ _
      | exact ih1 _ _ _ _ _
      | exact LeO.none _
      | refine LeO.ite ?_ ?_
      | refine LeO.bind ?_ (fun _ => ?_)
    · intro y0 y1 y2 y3 y4
      unfold interregnumlaw17_TimerOrder.l1
      repeat' first
      | (with_reducible exact ih0 _ _ _)
      | (with_reducible exact ih1 _ _ _ _ _)
      | (with_reducible exact LeO.refl _)
      | (with_reducible exact LeO.none _)
      | (with_reducible refine LeO.ite ?_ ?_)
      | (with_reducible refine LeO.bind ?_ (fun _ => ?_))
      | exact ih0 _ _ _
      | exact ih1 _ _ _ _ _
      | exact LeO.none _
      | refine LeO.ite ?_ ?_
      | refine LeO.bind ?_ (fun _ => ?_)
theorem interregnumlaw17_TimerOrder.mono : ∀ a0 k, LeO (interregnumlaw17_TimerOrder.f k a0) (interregnumlaw17_TimerOrder.f (k + 1) a0) := by
  intro a0 k
  obtain ⟨ih0, ih1⟩ := interregnumlaw17_TimerOrder.mono_l k
  unfold interregnumlaw17_TimerOrder.f
  repeat' first
      | (with_reducible exact ih0 _ _ _)
      | (with_reducible exact ih1 _ _ _ _ _)
      | (with_reducible exact LeO.refl _)
      | (with_reducible exact LeO.none _)
      | (with_reducible refine LeO.ite ?_ ?_)
      | (with_reducible refine LeO.bind ?_ (fun _ => ?_))
      | exact ih0 _ _ _
      | exact ih1 _ _ _ _ _
      | exact LeO.none _
      | refine LeO.ite ?_ ?_
      | refine LeO.bind ?_ (fun _ => ?_)
def interregnumlaw17_TimerOrder.T7 : Bool × List (List Nat × List Nat) := (true, [([], []), ([], []), ([1], [1]), ([2], [2]), ([3], [3]), ([], []), ([5], [5]), ([6], [6]), ([7], [7]), ([4, 8], [4, 8]), ([9], [9]), ([], []), ([], []), ([11, 12], [11, 12]), ([13], [13]), ([14], [14]), ([0, 10, 15], [0, 10, 15])])
def interregnumlaw17_TimerOrder.B7 : List Nat := [0, 0, 2, 6, 14, 0, 32, 96, 224, 510, 1022, 0, 0, 6144, 14336, 30720, 65535]
theorem interregnumlaw17_TimerOrder.tab7 : rtab .any (opsOf Try.f3 7) = interregnumlaw17_TimerOrder.T7 := by kernel_rfl
theorem interregnumlaw17_TimerOrder.bits7 : waitsOk interregnumlaw17_TimerOrder.T7.2 interregnumlaw17_TimerOrder.B7 = true := by kernel_rfl
set_option maxHeartbeats 8000000 in
set_option maxRecDepth 100000 in
theorem interregnumlaw17_TimerOrder.calls (k : Nat) (A0 : Option Addr) (c0 : Nat) (l0 : List Int) (r : Bool) (w : World) (hr0 : Kd.C (Kd.int .u16) w A0 l0.length l0) (hc0 : l0.length ≤ c0) (h : interregnumlaw17_TimerOrder.f k l0 = some r) :
    Calls Try.prog 3 #[.slice A0 l0.length c0] w fun e w' => e = .returned (.bool r) ∧ Below w.heap.size w w' := by
  have HR0 := Aside0.mk hr0
  have HC0 := Aside0.mk hc0
  clear hr0 hc0
  have HB := Aside0.mk (Below.refl w.heap.size w)
  have H : (if (l0.length : Int) > 50 then ((interregnumlaw17_answers.f).bind fun t112 => (some t112)) else ((timer_New.f).bind fun t113 => (interregnumlaw17_TimerOrder.l0 k l0 0 t113))) = some r := h
  clear h
  by_cases c2 : (l0.length : Int) > 50
  · rw [if_pos c2] at H
    have c2b0 : decide (50 < (l0.length : Int)) = true := decide_eq_true c2
    have c2b1 : decide (50 < l0.length) = true := decide_eq_true (by omega)
    clear c2
    replace H := Option.bind_eq_some_iff.mp H
    obtain ⟨t112, A30, H⟩ := H
    replace H : (some t112) = some r := H
    have A3 := Aside0.mk A30
    clear A30
    obtain rfl := Option.some.inj H
    go_enter Try.func3, Try.ntmps3
    go_wp2_with (first | ((with_reducible refine gate_callee (f := 13) rfl ?_); refine goesL_ (some 17) rfl rfl Try.func13 (by kernel_rfl) rfl #[] rfl (by (try simp only [List.map_toArray, List.map_cons, List.map_nil]); first | done | rfl | (simp only [List.length_drop, List.length_take]; rfl)) ?_; (with_reducible refine (interregnumlaw17_answers.calls  t112 _ A3.out).mono ?_); rintro e w4 ⟨rfl, hb⟩; refine ⟨_, rfl, ?_⟩; have n0_ := Aside0.mk (below_step (by repeat (first | (with_reducible first | exact HB.out | apply below_alloc | apply pw_below_drewN | apply below_drew1) | exact HB.out)) hb); clear HB; have HB := n0_; clear n0_; (try clear hb); (try clear hb2); (try clear hk); (try clear hi)))
    go_ret
    exact ⟨by first | rfl | (simp [errW_none, errW_some] <;> rfl) | (simp [*, errW_none, errW_some] <;> rfl), by repeat (first | (with_reducible first | exact HB.out | apply below_alloc | apply pw_below_drewN | apply below_drew1) | exact HB.out)⟩
  · rw [if_neg c2] at H
    have c2b0 : decide (50 < (l0.length : Int)) = false := decide_eq_false c2
    have c2b1 : decide (50 < l0.length) = false := decide_eq_false (by omega)
    clear c2
    replace H := Option.bind_eq_some_iff.mp H
    obtain ⟨t113, A50, H⟩ := H
    replace H : (interregnumlaw17_TimerOrder.l0 k l0 0 t113) = some r := H
    have A5 := Aside0.mk A50
    clear A50
    have H' := Aside0.mk H
    clear H
    go_enter Try.func3, Try.ntmps3
    go_wp2_with (first | ((with_reducible refine gate_callee (f := 14) rfl ?_); refine goesL_ (some 18) rfl rfl Try.func14 (by kernel_rfl) rfl #[] rfl (by (try simp only [List.map_toArray, List.map_cons, List.map_nil]); first | done | rfl | (simp only [List.length_drop, List.length_take]; rfl)) ?_; (with_reducible refine (timer_New.calls  t113 w _ ?side1 A5.out).mono ?_); (case side1 => repeat (first | (with_reducible first | exact HB.out | apply below_alloc | apply pw_below_drewN | apply below_drew1) | exact HB.out)); rintro e w6 ⟨g114, rfl, hi, hb, hb2⟩; refine ⟨_, rfl, ?_⟩; have n0_ := Aside0.mk (hb); have n1_ := Aside0.mk (hi); clear HB; have HB := n0_; have HI114 := n1_; clear n0_ n1_; (try clear hb); (try clear hb2); (try clear hk); (try clear hi)))
    go_loopg [4] k (fun kq v4 w' => ∃ (x4_1 : Int) (x115000_1 : Timer.TimerM), v4 = .int .i64 x4_1 ∧ Aside0 (interregnumlaw17_TimerOrder.l0 kq l0 x4_1 x115000_1 = some r) ∧ Aside0 (kq ≤ k) ∧ Aside0 (IsS77 w w' g114 x115000_1) ∧ Aside0 (Below w.heap.size w w'))
    case atStart => exact ⟨(0), (t113), (by first | rfl | (simp; done) | (simp [*]; done)), H', ⟨Nat.le_refl _⟩, ⟨by repeat (first | (with_reducible first | exact HI114.out | apply IsS77.alloc | apply IsS77.drewN | apply IsS77.drew) | exact HI114.out)⟩, ⟨by repeat (first | (with_reducible first | exact HB.out | apply below_alloc | apply pw_below_drewN | apply below_drew1 | refine below_set ?_ (IsS77.ge HI114.out)) | exact HB.out)⟩⟩
    case round =>
      clear H'
      try clear c1
      try clear c2
      try clear c2b0
      try clear c2b1
      try clear p2
      try clear c3
      obtain ⟨x4_1, x115000_1, rfl, HA, HK1, HI114, HB⟩ := hrel
      cases gk with
      | zero => exact absurd HA.out (by simp [interregnumlaw17_TimerOrder.l0])
      | succ k1 =>
        have H := HA.out
        clear HA
        simp only [interregnumlaw17_TimerOrder.l0] at H
        by_cases c7 : x4_1 < (l0.length : Int)
        · rw [if_pos c7] at H
          have c7b0 : decide (x4_1 < (l0.length : Int)) = true := decide_eq_true c7
          clear c7
          obtain ⟨y115, hy115⟩ : ∃ y_ : List Int, y_ = (([(97 + ((wrap64 (Int.tdiv x4_1 26)) % 256)) % 256, (97 + ((Int.tmod x4_1 26) % 256)) % 256] : List Int)) := ⟨_, rfl⟩
          replace H : (if 0 ≤ x4_1 then ((timer_Timers_Set.f x115000_1 (strOfNums y115) (wrap64 (rd l0 x4_1))).bind fun t119 => (interregnumlaw17_TimerOrder.l0 k1 l0 (wrap64 (x4_1 + 1)) t119)) else (none)) = some r := by first | (rw [hy115]; with_reducible exact H) | (have H2_ := (Option.bind_some _ _).symm.trans H; rw [hy115]; with_reducible exact H2_) | (have H2_ := (Option.bind_some _ _).symm.trans H; with_reducible exact H2_) | with_reducible exact H | (rw [hy115]; exact H) | exact H
          have Ny115 := Aside0.mk hy115
          clear hy115
          by_cases c8 : 0 ≤ x4_1
          · rw [if_pos c8] at H
            have c8b0 : decide (0 ≤ x4_1) = true := decide_eq_true c8
            clear c8
            replace H := Option.bind_eq_some_iff.mp H
            obtain ⟨t119, A90, H⟩ := H
            replace H : (interregnumlaw17_TimerOrder.l0 k1 l0 (wrap64 (x4_1 + 1)) t119) = some r := H
            have A9 := Aside0.mk A90
            clear A90
            have H' := Aside0.mk H
            clear H
            try go_wp2
            have n0_ := Aside0.mk (IsS77.drew HI114.out)
            have n1_ := Aside0.mk (below_drew1 HB.out)
            clear HI114
            clear HB
            have HI114 := n0_
            have HB := n1_
            clear n0_ n1_
            have p118 : 0 ≤ (x4_1 : Int) := of_decide_eq_true (by first | (with_reducible assumption) | assumption)
            have q118 : x4_1 < (l0.length : Int) := of_decide_eq_true (by first | (with_reducible assumption) | assumption)
            obtain ⟨ad118, e118, hx118_0⟩ := Kd.at_int HR0.out x4_1 p118 q118
            have hw118_0 := hx118_0
            cases e118
            replace hx118_0 := (HB.out.cell (World.block_lt_of_cell? w _ hx118_0)).trans hx118_0
            replace p118 := eq_true p118
            replace q118 := eq_true q118
            refine start_ (n := 17) (S := fun w' => w'.cell? (ad118.add (x4_1).toNat) = some (.int .u16 (rd l0 x4_1))) (ds := []) #[false, false, false, false, false, false, false, false, false, false, false, false, false, false, false, false, false] (by kernel_rfl) rfl rfl (((HB.out.cell (World.block_lt_of_cell? w _ hw118_0)).trans hw118_0)) (fun hHeld => ?_); refine with_tabW interregnumlaw17_TimerOrder.tab7 interregnumlaw17_TimerOrder.bits7 (fun HT_ HW_ => ?_)
            generalize wr.drew = w10 at HI114 HB hx118_0 hHeld ⊢
            refine pure_ (i := 0) (N := some 25) (v := ?_) (a' := ?_) #[true, false, false, false, false, false, false, false, false, false, false, false, false, false, false, false, false] rfl rfl (any_of HT_.out (by kernel_rfl)) (fun _ _ _ h => h) (Or.inl ⟨by rfl, ?_⟩) ?_ ?_
            rotate_left
            · intro w'
              go_simp
              with_reducible rfl
            rotate_left
            · simp only [Act.put, List.setIfInBounds_toArray, List.set_cons_zero, List.set_cons_succ, i64_w, i32_w]
              rfl
            refine pure_ (i := 1) (N := some 26) (v := ?_) (a' := ?_) #[true, true, false, false, false, false, false, false, false, false, false, false, false, false, false, false, false] rfl rfl (any_of HT_.out (by kernel_rfl)) (fun _ _ _ h => h) (Or.inl ⟨by rfl, ?_⟩) ?_ ?_
            rotate_left
            · intro w'
              go_simp
              with_reducible rfl
            rotate_left
            · simp only [Act.put, List.setIfInBounds_toArray, List.set_cons_zero, List.set_cons_succ, i64_w, i32_w]
              rfl
            refine pure_ (i := 2) (N := some 27) (v := ?_) (a' := ?_) #[true, true, true, false, false, false, false, false, false, false, false, false, false, false, false, false, false] rfl rfl (any_of HT_.out (by kernel_rfl)) (fun _ _ _ h => h) (Or.inl ⟨by rfl, ?_⟩) ?_ ?_
            rotate_left
            · intro w'
              go_simp
              with_reducible rfl
            rotate_left
            · simp only [Act.put, List.setIfInBounds_toArray, List.set_cons_zero, List.set_cons_succ, i64_w, i32_w]
              rfl
            refine pure_ (i := 3) (N := some 28) (v := ?_) (a' := ?_) #[true, true, true, true, false, false, false, false, false, false, false, false, false, false, false, false, false] rfl rfl (any_of HT_.out (by kernel_rfl)) (fun _ _ _ h => h) (Or.inl ⟨by rfl, ?_⟩) ?_ ?_
            rotate_left
            · intro w'
              go_simp
              with_reducible rfl
            rotate_left
            · simp only [Act.put, List.setIfInBounds_toArray, List.set_cons_zero, List.set_cons_succ, i64_w, i32_w]
              rfl
            refine pure_ (i := 4) (N := some 29) (v := ?_) (a' := ?_) #[true, true, true, true, true, false, false, false, false, false, false, false, false, false, false, false, false] rfl rfl (any_of HT_.out (by kernel_rfl)) (fun _ _ _ h => h) (Or.inl ⟨by rfl, ?_⟩) ?_ ?_
            rotate_left
            · intro w'
              go_simp
              with_reducible rfl
            rotate_left
            · simp only [Act.put, List.setIfInBounds_toArray, List.set_cons_zero, List.set_cons_succ, i64_w, i32_w]
              rfl
            refine pure_ (i := 5) (N := some 30) (v := ?_) (a' := ?_) #[true, true, true, true, true, true, false, false, false, false, false, false, false, false, false, false, false] rfl rfl (any_of HT_.out (by kernel_rfl)) (fun _ _ _ h => h) (Or.inl ⟨by rfl, ?_⟩) ?_ ?_
            rotate_left
            · intro w'
              go_simp
              with_reducible rfl
            rotate_left
            · simp only [Act.put, List.setIfInBounds_toArray, List.set_cons_zero, List.set_cons_succ, i64_w, i32_w]
              rfl
            refine pure_ (i := 6) (N := some 31) (v := ?_) (a' := ?_) #[true, true, true, true, true, true, true, false, false, false, false, false, false, false, false, false, false] rfl rfl (any_of HT_.out (by kernel_rfl)) (fun _ _ _ h => h) (Or.inl ⟨by rfl, ?_⟩) ?_ ?_
            rotate_left
            · intro w'
              go_simp
              with_reducible rfl
            rotate_left
            · simp only [Act.put, List.setIfInBounds_toArray, List.set_cons_zero, List.set_cons_succ, i64_w, i32_w]
              rfl
            refine pure_ (i := 7) (N := some 32) (v := ?_) (a' := ?_) #[true, true, true, true, true, true, true, true, false, false, false, false, false, false, false, false, false] rfl rfl (any_of HT_.out (by kernel_rfl)) (fun _ _ _ h => h) (Or.inl ⟨by rfl, ?_⟩) ?_ ?_
            rotate_left
            · intro w'
              go_simp
              with_reducible rfl
            rotate_left
            · simp only [Act.put, List.setIfInBounds_toArray, List.set_cons_zero, List.set_cons_succ, i64_w, i32_w]
              rfl
            refine pure_ (i := 8) (N := some 33) (v := ?_) (a' := ?_) #[true, true, true, true, true, true, true, true, true, false, false, false, false, false, false, false, false] rfl rfl (any_of HT_.out (by kernel_rfl)) (fun _ _ _ h => h) (Or.inl ⟨by rfl, ?_⟩) ?_ ?_
            rotate_left
            · intro w'
              go_simp
              with_reducible rfl
            rotate_left
            · simp only [Act.put, List.setIfInBounds_toArray, List.set_cons_zero, List.set_cons_succ, i64_w, i32_w]
              rfl
            refine pure_ (i := 11) (N := some 36) (v := ?_) (a' := ?_) #[true, true, true, true, true, true, true, true, true, false, false, true, false, false, false, false, false] rfl rfl (any_of HT_.out (by kernel_rfl)) (fun _ _ _ h => h) (Or.inl ⟨by rfl, ?_⟩) ?_ ?_
            rotate_left
            · intro w'
              go_simp
              with_reducible rfl
            rotate_left
            · simp only [Act.put, List.setIfInBounds_toArray, List.set_cons_zero, List.set_cons_succ, i64_w, i32_w]
              rfl
            refine pure_ (i := 12) (N := some 37) (v := ?_) (a' := ?_) #[true, true, true, true, true, true, true, true, true, false, false, true, true, false, false, false, false] rfl rfl (any_of HT_.out (by kernel_rfl)) (fun _ _ _ h => h) (Or.inl ⟨by rfl, ?_⟩) ?_ ?_
            rotate_left
            · intro w'
              go_simp
              with_reducible rfl
            rotate_left
            · simp only [Act.put, List.setIfInBounds_toArray, List.set_cons_zero, List.set_cons_succ, i64_w, i32_w]
              rfl
            refine pure_ (i := 13) (N := some 38) (v := ?_) (a' := ?_) #[true, true, true, true, true, true, true, true, true, false, false, true, true, true, false, false, false] rfl rfl (any_of HT_.out (by kernel_rfl)) (fun _ _ _ h => h) (Or.inl ⟨by rfl, ?_⟩) ?_ ?_
            rotate_left
            · intro w'
              go_simp
              with_reducible rfl
            rotate_left
            · simp only [Act.put, List.setIfInBounds_toArray, List.set_cons_zero, List.set_cons_succ, i64_w, i32_w]
              rfl
            refine take_ (i := 14) (N := some 39) (v := ?_) (a' := ?_) #[true, true, true, true, true, true, true, true, true, false, false, true, true, true, true, false, false] rfl rfl (take_ofW HT_.out HW_.out (by kernel_rfl)) (fun _ _ _ h => h) (Or.inl ⟨by rfl, ?_⟩) hHeld ?_ ?_
            rotate_left
            · intro w' s0
              go_simp
              with_reducible rfl
            rotate_left
            · simp only [Act.put, List.setIfInBounds_toArray, List.set_cons_zero, List.set_cons_succ, i64_w, i32_w]
              rfl
            refine pure_ (i := 15) (N := some 40) (v := ?_) (a' := ?_) #[true, true, true, true, true, true, true, true, true, false, false, true, true, true, true, true, false] rfl rfl (any_of HT_.out (by kernel_rfl)) (fun _ _ _ h => h) (Or.inl ⟨by rfl, ?_⟩) ?_ ?_
            rotate_left
            · intro w'
              go_simp
              with_reducible rfl
            rotate_left
            · simp only [Act.put, List.setIfInBounds_toArray, List.set_cons_zero, List.set_cons_succ, i64_w, i32_w]
              rfl
            refine one_ (i := 9) (N := some 34) #[true, true, true, true, true, true, true, true, true, true, false, true, true, true, true, true, false] rfl rfl (one_of HT_.out (by kernel_rfl)) (by decide) (fun K hK => ?_)
            refine Kd.R_lit_step (Kd.int .u8) _ 5 ?hg (N := 34) ?hd (xs := ([(97 + ((wrap64 (Int.tdiv x4_1 26)) % 256)) % 256, (97 + ((Int.tmod x4_1 26) % 256)) % 256] : List Int)) (inner := [.int .u8 ((97 + ((wrap64 (Int.tdiv x4_1 26)) % 256)) % 256), .int .u8 ((97 + ((Int.tmod x4_1 26) % 256)) % 256)]) (ok := fun _ => True) (okp := fun _ => True) ?hr ?hp (fun _ hk => hk) trivial (Below.refl _ _) (Nat.le_refl _) (by simp) ?_; (case hd => rfl); (case hg => rfl); (case hr => first | (go_simp; done) | (go_simp; rfl) | (go_simp; simp [IntKind.wrap_u8, IntKind.wrap_u32]; done)); (case hp => exact (Reps.one (show Kd.M (Kd.int .u8) _ _ _ ((97 + ((wrap64 (Int.tdiv x4_1 26)) % 256)) % 256) [.int .u8 ((97 + ((wrap64 (Int.tdiv x4_1 26)) % 256)) % 256)] from rfl) (Reps.one (show Kd.M (Kd.int .u8) _ _ _ ((97 + ((Int.tmod x4_1 26) % 256)) % 256) [.int .u8 ((97 + ((Int.tmod x4_1 26) % 256)) % 256)] from rfl) (Reps.none _ _))))
            intro v116 w11 ho12 hb hg_ hnew_
            clear hg_ hnew_
            (first | rw [← Ny115.out] at ho12 | (simp only [Int.reduceToNat] at ho12; rw [← Ny115.out] at ho12))
            have n0_ := Aside0.mk (Kd.R_lower ho12 (below_size (by repeat (first | (with_reducible first | exact HB.out | apply below_alloc | apply pw_below_drewN | apply below_drew1 | refine below_set ?_ (IsS77.ge HI114.out)) | exact HB.out))))
            have n1_ := Aside0.mk (IsS77.below (by repeat (first | (with_reducible first | exact HI114.out | apply IsS77.alloc | apply IsS77.drewN | apply IsS77.drew) | exact HI114.out)) hb)
            have n2_ := Aside0.mk (below_step (by repeat (first | (with_reducible first | exact HB.out | apply below_alloc | apply pw_below_drewN | apply below_drew1 | refine below_set ?_ (IsS77.ge HI114.out)) | exact HB.out)) hb)
            clear HI114
            clear HB
            have HO117 := n0_
            have HI114 := n1_
            have HB := n2_
            clear n0_ n1_ n2_
            clear hb ho12
            refine hK.out _ _ (((HB.out.cell (World.block_lt_of_cell? w _ hw118_0)).trans hw118_0)) (fun hHeld => ?_)
            clear hK K
            refine norm_ (a' := ?_) ?_ ?_
            rotate_left
            · show Act.put _ (some 34) _ = _
              simp only [Act.put, List.setIfInBounds_toArray, List.set_cons_zero, List.set_cons_succ, i64_w, i32_w]
              rfl
            refine one_ (i := 10) (N := some 35) #[true, true, true, true, true, true, true, true, true, true, true, true, true, true, true, true, false] rfl rfl (one_of HT_.out (by kernel_rfl)) (by decide) (fun K hK => ?_)
            have hcv13 := own_string (P := Try.prog) Try.underlying27 Try.underlying5 Try.underlying9 (Kd.own_of_R HO117.out)
            refine value_ (w1 := ?_) (v := ?_) (by rfl) rfl ?_ ?_
            rotate_left 2
            · go_simp
              constructor
              · rfl
              · rfl
            clear hcv13
            refine hK.out _ _ (((HB.out.cell (World.block_lt_of_cell? w _ hw118_0)).trans hw118_0)) (fun hHeld => ?_)
            clear hK K
            refine norm_ (a' := ?_) ?_ ?_
            rotate_left
            · show Act.put _ (some 35) _ = _
              simp only [Act.put, List.setIfInBounds_toArray, List.set_cons_zero, List.set_cons_succ, i64_w, i32_w]
              rfl
            refine one_ (i := 16) (N := some 41) #[true, true, true, true, true, true, true, true, true, true, true, true, true, true, true, true, true] rfl rfl (one_of HT_.out (by kernel_rfl)) (by decide) (fun K hK => ?_)
            refine goes_ Try.func15 (by kernel_rfl) rfl #[.pointer (some ⟨g114, 0, none⟩), .string (strOfNums y115), .int .i64 (wrap64 (rd l0 x4_1))] (by rfl) rfl rfl (by (try simp only [List.map_toArray, List.map_cons, List.map_nil]); first | done | rfl | (simp only [List.length_drop, List.length_take]; rfl)) ?_
            with_reducible refine (timer_Timers_Set.calls g114 x115000_1 (strOfNums y115) (wrap64 (rd l0 x4_1)) t119 w _ ?side1 ?side2 A9.out).mono ?_
            (case side1 => repeat (first | (with_reducible first | exact HI114.out | apply IsS77.alloc | apply IsS77.drewN | apply IsS77.drew) | exact HI114.out))
            (case side2 => repeat (first | (with_reducible first | exact HB.out | apply below_alloc | apply pw_below_drewN | apply below_drew1 | refine below_set ?_ (IsS77.ge HI114.out)) | exact HB.out))
            rintro e w14 ⟨rfl, hi, hb, hk⟩
            refine ⟨_, rfl, ?_⟩
            have n0_ := Aside0.mk (Go.Proofs.Ytbnchdfmkmkhnaa.Opq.R_keep (by (with_reducible repeat (first | apply Kd.R_alloc | apply Kd.R_drewN | apply Kd.R_drew)); exact HO117.out) hk (by decide))
            have n1_ := Aside0.mk (hb)
            have n2_ := Aside0.mk (hi)
            clear HO117
            clear HB
            clear HI114
            have HO117 := n0_
            have HB := n1_
            have HI114 := n2_
            clear n0_ n1_ n2_
            (try clear hb)
            (try clear hb2)
            (try clear hk)
            (try clear hi)
            refine hK.out _ _ (((HB.out.cell (World.block_lt_of_cell? w _ hw118_0)).trans hw118_0)) (fun hHeld => ?_)
            clear hK K
            refine norm_ (a' := ?_) ?_ ?_
            rotate_left
            · show Act.put _ (some 41) _ = _
              simp only [Act.put, List.setIfInBounds_toArray, List.set_cons_zero, List.set_cons_succ, i64_w, i32_w]
              rfl
            refine done_ (done_of HT_.out (by kernel_rfl)) ?_
            try go_wp2
            go_roundg k1
            case measure => have := HK1.out; omega
            case rel => exact ⟨(wrap64 (x4_1 + 1)), (t119), (by first | rfl | (simp; done) | (simp [*]; done)), H', ⟨by have := HK1.out; omega⟩, ⟨by repeat (first | (with_reducible first | exact HI114.out | apply IsS77.alloc | apply IsS77.drewN | apply IsS77.drew) | exact HI114.out)⟩, ⟨by repeat (first | (with_reducible first | exact HB.out | apply below_alloc | apply pw_below_drewN | apply below_drew1 | refine below_set ?_ (IsS77.ge HI114.out)) | exact HB.out)⟩⟩
          · rw [if_neg c8] at H
            exact absurd H (by simp)
        · rw [if_neg c7] at H
          have c7b0 : decide (x4_1 < (l0.length : Int)) = false := decide_eq_false c7
          clear c7
          have H' := Aside0.mk H
          clear H
          go_wp2
          go_loopg [5, 6, 7] k1 (fun kq v5 v6 v7 w' => ∃ (x5_2 : Int) (x6_2 : ByteArray) (x7_2 : Int) (x115000_2 : Timer.TimerM), v5 = .int .i64 x5_2 ∧ v6 = .string x6_2 ∧ v7 = .int .i64 x7_2 ∧ Aside0 (interregnumlaw17_TimerOrder.l1 kq l0 x5_2 x6_2 x7_2 x115000_2 = some r) ∧ Aside0 (kq ≤ k1) ∧ Aside0 (IsS77 w w' g114 x115000_2) ∧ Aside0 (Below w.heap.size w w'))
          case atStart => exact ⟨((-1)), ((⟨#[]⟩ : ByteArray)), (0), (x115000_1), (by first | rfl | (simp; done) | (simp [*]; done)), (by first | rfl | (simp; done) | (simp [*]; done)), (by first | rfl | (simp; done) | (simp [*]; done)), H', ⟨Nat.le_refl _⟩, ⟨by repeat (first | (with_reducible first | exact HI114.out | apply IsS77.alloc | apply IsS77.drewN | apply IsS77.drew) | exact HI114.out)⟩, ⟨by repeat (first | (with_reducible first | exact HB.out | apply below_alloc | apply pw_below_drewN | apply below_drew1 | refine below_set ?_ (IsS77.ge HI114.out)) | exact HB.out)⟩⟩
          case round =>
            clear H'
            try clear c1
            try clear p1
            try clear q1
            try clear hx1
            try clear hcv1
            try clear c2
            try clear c2b0
            try clear c2b1
            try clear p2
            try clear c3
            try clear p6
            try clear c7
            try clear c7b0
            try clear c8
            try clear c8b0
            try clear p11
            try clear q11
            try clear hx11
            try clear c13
            try clear hcv13
            try clear c14
            try clear hx118_0
            try clear p118
            try clear p2
            try clear q118
            obtain ⟨x5_2, x6_2, x7_2, x115000_2, rfl, rfl, rfl, HA, HK2, HI114, HB⟩ := hrel
            cases gk with
            | zero => exact absurd HA.out (by simp [interregnumlaw17_TimerOrder.l1])
            | succ k2 =>
              have H := HA.out
              clear HA
              simp only [interregnumlaw17_TimerOrder.l1] at H
              by_cases c15 : x7_2 < (l0.length : Int)
              · rw [if_pos c15] at H
                have c15b0 : decide (x7_2 < (l0.length : Int)) = true := decide_eq_true c15
                clear c15
                replace H := Option.bind_eq_some_iff.mp H
                obtain ⟨⟨t120, t121, t122, t123⟩, A160, H⟩ := H
                replace H : (if t122 = true then (if t121 < x5_2 then (some false) else (if t121 = x5_2 then (if ((Op.bytesLess x6_2.toList t120.toList) = true) then (interregnumlaw17_TimerOrder.l1 k2 l0 t121 t120 (wrap64 (x7_2 + 1)) t123) else (some false)) else (interregnumlaw17_TimerOrder.l1 k2 l0 t121 t120 (wrap64 (x7_2 + 1)) t123))) else (some false)) = some r := H
                have A16 := Aside0.mk A160
                clear A160
                by_cases c17 : t122 = true
                · subst c17
                  have H1 : (if t121 < x5_2 then (some false) else (if t121 = x5_2 then (if ((Op.bytesLess x6_2.toList t120.toList) = true) then (interregnumlaw17_TimerOrder.l1 k2 l0 t121 t120 (wrap64 (x7_2 + 1)) t123) else (some false)) else (interregnumlaw17_TimerOrder.l1 k2 l0 t121 t120 (wrap64 (x7_2 + 1)) t123))) = some r := by rw [if_pos rfl] at H; exact H
                  clear H
                  have H := H1
                  clear H1
                  by_cases c18 : t121 < x5_2
                  · rw [if_pos c18] at H
                    have c18b0 : decide (t121 < x5_2) = true := decide_eq_true c18
                    clear c18
                    obtain rfl := Option.some.inj H
                    go_wp2_with (first | ((with_reducible refine gate_callee (f := 16) rfl ?_); refine goesL_ (some 50) rfl rfl Try.func16 (by kernel_rfl) rfl #[.pointer (some ⟨g114, 0, none⟩), .int .i64 70000] rfl (by (try simp only [List.map_toArray, List.map_cons, List.map_nil]); first | done | rfl | (simp only [List.length_drop, List.length_take]; rfl)) ?_; (with_reducible refine (timer_Timers_Due.calls g114 x115000_2 70000 t120 t121 true t123 w _ ?side1 ?side2 A16.out).mono ?_); (case side1 => repeat (first | (with_reducible first | exact HI114.out | apply IsS77.alloc | apply IsS77.drewN | apply IsS77.drew) | exact HI114.out)); (case side2 => repeat (first | (with_reducible first | exact HB.out | apply below_alloc | apply pw_below_drewN | apply below_drew1 | refine below_set ?_ (IsS77.ge HI114.out)) | exact HB.out)); rintro e w19 ⟨rfl, hi, hb, hk⟩; refine ⟨_, rfl, ?_⟩; have n0_ := Aside0.mk (hb); have n1_ := Aside0.mk (hi); clear HB; clear HI114; have HB := n0_; have HI114 := n1_; clear n0_ n1_; (try clear hb); (try clear hb2); (try clear hk); (try clear hi)))
                    go_ret
                    exact ⟨by first | rfl | (simp [errW_none, errW_some] <;> rfl) | (simp [*, errW_none, errW_some] <;> rfl), by repeat (first | (with_reducible first | exact HB.out | apply below_alloc | apply pw_below_drewN | apply below_drew1 | refine below_set ?_ (IsS77.ge HI114.out)) | exact HB.out)⟩
                  · rw [if_neg c18] at H
                    have c18b0 : decide (t121 < x5_2) = false := decide_eq_false c18
                    clear c18
                    by_cases c20 : t121 = x5_2
                    · rw [if_pos c20] at H
                      have c20b0 : (t121 == x5_2) = true := beq_iff_eq.mpr c20
                      have c20b1 : (t121 != x5_2) = false := bne_eq_false_iff_eq.mpr c20
                      clear c20
                      by_cases c21 : ((Op.bytesLess x6_2.toList t120.toList) = true)
                      · rw [if_pos c21] at H
                        have c21b0 : (Op.bytesLess x6_2.toList t120.toList) = true := c21
                        clear c21
                        have H' := Aside0.mk H
                        clear H
                        go_wp2_with (first | ((with_reducible refine gate_callee (f := 16) rfl ?_); refine goesL_ (some 50) rfl rfl Try.func16 (by kernel_rfl) rfl #[.pointer (some ⟨g114, 0, none⟩), .int .i64 70000] rfl (by (try simp only [List.map_toArray, List.map_cons, List.map_nil]); first | done | rfl | (simp only [List.length_drop, List.length_take]; rfl)) ?_; (with_reducible refine (timer_Timers_Due.calls g114 x115000_2 70000 t120 t121 true t123 w _ ?side1 ?side2 A16.out).mono ?_); (case side1 => repeat (first | (with_reducible first | exact HI114.out | apply IsS77.alloc | apply IsS77.drewN | apply IsS77.drew) | exact HI114.out)); (case side2 => repeat (first | (with_reducible first | exact HB.out | apply below_alloc | apply pw_below_drewN | apply below_drew1 | refine below_set ?_ (IsS77.ge HI114.out)) | exact HB.out)); rintro e w22 ⟨rfl, hi, hb, hk⟩; refine ⟨_, rfl, ?_⟩; have n0_ := Aside0.mk (hb); have n1_ := Aside0.mk (hi); clear HB; clear HI114; have HB := n0_; have HI114 := n1_; clear n0_ n1_; (try clear hb); (try clear hb2); (try clear hk); (try clear hi)))
                        go_roundg k2
                        case measure => have := HK1.out; have := HK2.out; omega
                        case rel => exact ⟨(t121), (t120), (wrap64 (x7_2 + 1)), (t123), (by first | rfl | (simp; done) | (simp [*]; done)), (by first | rfl | (simp; done) | (simp [*]; done)), (by first | rfl | (simp; done) | (simp [*]; done)), H', ⟨by have := HK1.out; have := HK2.out; omega⟩, ⟨by repeat (first | (with_reducible first | exact HI114.out | apply IsS77.alloc | apply IsS77.drewN | apply IsS77.drew) | exact HI114.out)⟩, ⟨by repeat (first | (with_reducible first | exact HB.out | apply below_alloc | apply pw_below_drewN | apply below_drew1 | refine below_set ?_ (IsS77.ge HI114.out)) | exact HB.out)⟩⟩
                      · rw [if_neg c21] at H
                        have c21b0 : (Op.bytesLess x6_2.toList t120.toList) = false := by simpa using c21
                        clear c21
                        obtain rfl := Option.some.inj H
                        go_wp2_with (first | ((with_reducible refine gate_callee (f := 16) rfl ?_); refine goesL_ (some 50) rfl rfl Try.func16 (by kernel_rfl) rfl #[.pointer (some ⟨g114, 0, none⟩), .int .i64 70000] rfl (by (try simp only [List.map_toArray, List.map_cons, List.map_nil]); first | done | rfl | (simp only [List.length_drop, List.length_take]; rfl)) ?_; (with_reducible refine (timer_Timers_Due.calls g114 x115000_2 70000 t120 t121 true t123 w _ ?side1 ?side2 A16.out).mono ?_); (case side1 => repeat (first | (with_reducible first | exact HI114.out | apply IsS77.alloc | apply IsS77.drewN | apply IsS77.drew) | exact HI114.out)); (case side2 => repeat (first | (with_reducible first | exact HB.out | apply below_alloc | apply pw_below_drewN | apply below_drew1 | refine below_set ?_ (IsS77.ge HI114.out)) | exact HB.out)); rintro e w23 ⟨rfl, hi, hb, hk⟩; refine ⟨_, rfl, ?_⟩; have n0_ := Aside0.mk (hb); have n1_ := Aside0.mk (hi); clear HB; clear HI114; have HB := n0_; have HI114 := n1_; clear n0_ n1_; (try clear hb); (try clear hb2); (try clear hk); (try clear hi)))
                        go_ret
                        exact ⟨by first | rfl | (simp [errW_none, errW_some] <;> rfl) | (simp [*, errW_none, errW_some] <;> rfl), by repeat (first | (with_reducible first | exact HB.out | apply below_alloc | apply pw_below_drewN | apply below_drew1 | refine below_set ?_ (IsS77.ge HI114.out)) | exact HB.out)⟩
                    · rw [if_neg c20] at H
                      have c20b0 : (t121 == x5_2) = false := beq_eq_false_iff_ne.mpr c20
                      have c20b1 : (t121 != x5_2) = true := bne_iff_ne.mpr c20
                      have H' := Aside0.mk H
                      clear H
                      go_wp2_with (first | ((with_reducible refine gate_callee (f := 16) rfl ?_); refine goesL_ (some 50) rfl rfl Try.func16 (by kernel_rfl) rfl #[.pointer (some ⟨g114, 0, none⟩), .int .i64 70000] rfl (by (try simp only [List.map_toArray, List.map_cons, List.map_nil]); first | done | rfl | (simp only [List.length_drop, List.length_take]; rfl)) ?_; (with_reducible refine (timer_Timers_Due.calls g114 x115000_2 70000 t120 t121 true t123 w _ ?side1 ?side2 A16.out).mono ?_); (case side1 => repeat (first | (with_reducible first | exact HI114.out | apply IsS77.alloc | apply IsS77.drewN | apply IsS77.drew) | exact HI114.out)); (case side2 => repeat (first | (with_reducible first | exact HB.out | apply below_alloc | apply pw_below_drewN | apply below_drew1 | refine below_set ?_ (IsS77.ge HI114.out)) | exact HB.out)); rintro e w24 ⟨rfl, hi, hb, hk⟩; refine ⟨_, rfl, ?_⟩; have n0_ := Aside0.mk (hb); have n1_ := Aside0.mk (hi); clear HB; clear HI114; have HB := n0_; have HI114 := n1_; clear n0_ n1_; (try clear hb); (try clear hb2); (try clear hk); (try clear hi)))
                      go_roundg k2
                      case measure => have := HK1.out; have := HK2.out; omega
                      case rel => exact ⟨(t121), (t120), (wrap64 (x7_2 + 1)), (t123), (by first | rfl | (simp; done) | (simp [*]; done)), (by first | rfl | (simp; done) | (simp [*]; done)), (by first | rfl | (simp; done) | (simp [*]; done)), H', ⟨by have := HK1.out; have := HK2.out; omega⟩, ⟨by repeat (first | (with_reducible first | exact HI114.out | apply IsS77.alloc | apply IsS77.drewN | apply IsS77.drew) | exact HI114.out)⟩, ⟨by repeat (first | (with_reducible first | exact HB.out | apply below_alloc | apply pw_below_drewN | apply below_drew1 | refine below_set ?_ (IsS77.ge HI114.out)) | exact HB.out)⟩⟩
                · replace c17 := Bool.eq_false_iff.mpr c17
                  subst c17
                  have H1 : (some false) = some r := by rw [if_neg (show ¬ (false = true) by decide)] at H; exact H
                  clear H
                  have H := H1
                  clear H1
                  obtain rfl := Option.some.inj H
                  go_wp2_with (first | ((with_reducible refine gate_callee (f := 16) rfl ?_); refine goesL_ (some 50) rfl rfl Try.func16 (by kernel_rfl) rfl #[.pointer (some ⟨g114, 0, none⟩), .int .i64 70000] rfl (by (try simp only [List.map_toArray, List.map_cons, List.map_nil]); first | done | rfl | (simp only [List.length_drop, List.length_take]; rfl)) ?_; (with_reducible refine (timer_Timers_Due.calls g114 x115000_2 70000 t120 t121 false t123 w _ ?side1 ?side2 A16.out).mono ?_); (case side1 => repeat (first | (with_reducible first | exact HI114.out | apply IsS77.alloc | apply IsS77.drewN | apply IsS77.drew) | exact HI114.out)); (case side2 => repeat (first | (with_reducible first | exact HB.out | apply below_alloc | apply pw_below_drewN | apply below_drew1 | refine below_set ?_ (IsS77.ge HI114.out)) | exact HB.out)); rintro e w25 ⟨rfl, hi, hb, hk⟩; refine ⟨_, rfl, ?_⟩; have n0_ := Aside0.mk (hb); have n1_ := Aside0.mk (hi); clear HB; clear HI114; have HB := n0_; have HI114 := n1_; clear n0_ n1_; (try clear hb); (try clear hb2); (try clear hk); (try clear hi)))
                  go_ret
                  exact ⟨by first | rfl | (simp [errW_none, errW_some] <;> rfl) | (simp [*, errW_none, errW_some] <;> rfl), by repeat (first | (with_reducible first | exact HB.out | apply below_alloc | apply pw_below_drewN | apply below_drew1 | refine below_set ?_ (IsS77.ge HI114.out)) | exact HB.out)⟩
              · rw [if_neg c15] at H
                have c15b0 : decide (x7_2 < (l0.length : Int)) = false := decide_eq_false c15
                clear c15
                replace H := Option.bind_eq_some_iff.mp H
                obtain ⟨⟨t124, t125, t126, t127⟩, A260, H⟩ := H
                replace H : ((interregnumlaw17_answers.f).bind fun t128 => (if t128 = true then (some (!t126)) else (some false))) = some r := H
                have A26 := Aside0.mk A260
                clear A260
                replace H := Option.bind_eq_some_iff.mp H
                obtain ⟨t128, A270, H⟩ := H
                replace H : (if t128 = true then (some (!t126)) else (some false)) = some r := H
                have A27 := Aside0.mk A270
                clear A270
                by_cases c28 : t128 = true
                · subst c28
                  have H1 : (some (!t126)) = some r := by rw [if_pos rfl] at H; exact H
                  clear H
                  have H := H1
                  clear H1
                  obtain rfl := Option.some.inj H
                  go_wp2_with (first | ((with_reducible refine gate_callee (f := 16) rfl ?_); refine goesL_ (some 75) rfl rfl Try.func16 (by kernel_rfl) rfl #[.pointer (some ⟨g114, 0, none⟩), .int .i64 70000] rfl (by (try simp only [List.map_toArray, List.map_cons, List.map_nil]); first | done | rfl | (simp only [List.length_drop, List.length_take]; rfl)) ?_; (with_reducible refine (timer_Timers_Due.calls g114 x115000_2 70000 t124 t125 t126 t127 w _ ?side1 ?side2 A26.out).mono ?_); (case side1 => repeat (first | (with_reducible first | exact HI114.out | apply IsS77.alloc | apply IsS77.drewN | apply IsS77.drew) | exact HI114.out)); (case side2 => repeat (first | (with_reducible first | exact HB.out | apply below_alloc | apply pw_below_drewN | apply below_drew1 | refine below_set ?_ (IsS77.ge HI114.out)) | exact HB.out)); rintro e w29 ⟨rfl, hi, hb, hk⟩; refine ⟨_, rfl, ?_⟩; have n0_ := Aside0.mk (hb); have n1_ := Aside0.mk (hi); clear HB; clear HI114; have HB := n0_; have HI114 := n1_; clear n0_ n1_; (try clear hb); (try clear hb2); (try clear hk); (try clear hi)) | ((with_reducible refine gate_callee (f := 13) rfl ?_); refine goesL_ (some 79) rfl rfl Try.func13 (by kernel_rfl) rfl #[] rfl (by (try simp only [List.map_toArray, List.map_cons, List.map_nil]); first | done | rfl | (simp only [List.length_drop, List.length_take]; rfl)) ?_; (with_reducible refine (interregnumlaw17_answers.calls  true _ A27.out).mono ?_); rintro e w30 ⟨rfl, hb⟩; refine ⟨_, rfl, ?_⟩; have n0_ := Aside0.mk (IsS77.below (by repeat (first | (with_reducible first | exact HI114.out | apply IsS77.alloc | apply IsS77.drewN | apply IsS77.drew) | exact HI114.out)) hb); have n1_ := Aside0.mk (below_step (by repeat (first | (with_reducible first | exact HB.out | apply below_alloc | apply pw_below_drewN | apply below_drew1 | refine below_set ?_ (IsS77.ge HI114.out)) | exact HB.out)) hb); clear HI114; clear HB; have HI114 := n0_; have HB := n1_; clear n0_ n1_; (try clear hb); (try clear hb2); (try clear hk); (try clear hi)))
                  go_ret
                  exact ⟨by first | rfl | (simp [errW_none, errW_some] <;> rfl) | (simp [*, errW_none, errW_some] <;> rfl), by repeat (first | (with_reducible first | exact HB.out | apply below_alloc | apply pw_below_drewN | apply below_drew1 | refine below_set ?_ (IsS77.ge HI114.out)) | exact HB.out)⟩
                · replace c28 := Bool.eq_false_iff.mpr c28
                  subst c28
                  have H1 : (some false) = some r := by rw [if_neg (show ¬ (false = true) by decide)] at H; exact H
                  clear H
                  have H := H1
                  clear H1
                  obtain rfl := Option.some.inj H
                  go_wp2_with (first | ((with_reducible refine gate_callee (f := 16) rfl ?_); refine goesL_ (some 75) rfl rfl Try.func16 (by kernel_rfl) rfl #[.pointer (some ⟨g114, 0, none⟩), .int .i64 70000] rfl (by (try simp only [List.map_toArray, List.map_cons, List.map_nil]); first | done | rfl | (simp only [List.length_drop, List.length_take]; rfl)) ?_; (with_reducible refine (timer_Timers_Due.calls g114 x115000_2 70000 t124 t125 t126 t127 w _ ?side1 ?side2 A26.out).mono ?_); (case side1 => repeat (first | (with_reducible first | exact HI114.out | apply IsS77.alloc | apply IsS77.drewN | apply IsS77.drew) | exact HI114.out)); (case side2 => repeat (first | (with_reducible first | exact HB.out | apply below_alloc | apply pw_below_drewN | apply below_drew1 | refine below_set ?_ (IsS77.ge HI114.out)) | exact HB.out)); rintro e w31 ⟨rfl, hi, hb, hk⟩; refine ⟨_, rfl, ?_⟩; have n0_ := Aside0.mk (hb); have n1_ := Aside0.mk (hi); clear HB; clear HI114; have HB := n0_; have HI114 := n1_; clear n0_ n1_; (try clear hb); (try clear hb2); (try clear hk); (try clear hi)) | ((with_reducible refine gate_callee (f := 13) rfl ?_); refine goesL_ (some 79) rfl rfl Try.func13 (by kernel_rfl) rfl #[] rfl (by (try simp only [List.map_toArray, List.map_cons, List.map_nil]); first | done | rfl | (simp only [List.length_drop, List.length_take]; rfl)) ?_; (with_reducible refine (interregnumlaw17_answers.calls  false _ A27.out).mono ?_); rintro e w32 ⟨rfl, hb⟩; refine ⟨_, rfl, ?_⟩; have n0_ := Aside0.mk (IsS77.below (by repeat (first | (with_reducible first | exact HI114.out | apply IsS77.alloc | apply IsS77.drewN | apply IsS77.drew) | exact HI114.out)) hb); have n1_ := Aside0.mk (below_step (by repeat (first | (with_reducible first | exact HB.out | apply below_alloc | apply pw_below_drewN | apply below_drew1 | refine below_set ?_ (IsS77.ge HI114.out)) | exact HB.out)) hb); clear HI114; clear HB; have HI114 := n0_; have HB := n1_; clear n0_ n1_; (try clear hb); (try clear hb2); (try clear hk); (try clear hi)))
                  go_ret
                  exact ⟨by first | rfl | (simp [errW_none, errW_some] <;> rfl) | (simp [*, errW_none, errW_some] <;> rfl), by repeat (first | (with_reducible first | exact HB.out | apply below_alloc | apply pw_below_drewN | apply below_drew1 | refine below_set ?_ (IsS77.ge HI114.out)) | exact HB.out)⟩

/-- THE ONE PURE STATEMENT of interregnumlaw17_TimerOrder: yours. -/
def interregnumlaw17_TimerOrder.Pure : Prop := ∀ (l0 : List Int), l0.length ≤ maxLen → l0.length * 2 ≤ 140737488351232 → (∀ x ∈ l0, (Lit.int .u16 x).wf = true) → ∃ k, interregnumlaw17_TimerOrder.f k l0 = some true
theorem interregnumlaw17_TimerOrder.walk (P : interregnumlaw17_TimerOrder.Pure) (a0 : Option Addr) (len0 cap0 : Nat) (z0 : List Int) (w : World) (w0 : (a0 = none ∧ len0 = 0 ∧ cap0 = 0 ∧ z0 = []) ∨ ∃ x, a0 = some x ∧ len0 ≤ cap0 ∧ cap0 ≤ maxLen ∧ z0.length = cap0 ∧ (∀ i, i < z0.length → w.cell? (x.add i) = some (.int .u16 (z0.getD i 0))) ∧ ∀ n ∈ z0, (Lit.int .u16 n).wf = true) (y0 : len0 * 2 ≤ 140737488351232) :
    Calls Try.prog 3 #[.slice a0 len0 cap0] w fun e w' => e = .returned (.bool true) ∧ Below w.heap.size w w' := by
  obtain ⟨l0, rfl, hr0, hm0, hw0, hc0⟩ := ReadsInt.ofRowC w0
  obtain ⟨k, h⟩ := P l0 hm0 y0 hw0
  refine (interregnumlaw17_TimerOrder.calls k _ _ l0 true w (Kd.C_of_reads (d := (0 : Int)) (h1 := fun _ => rfl) hr0) hc0 h).mono ?_
  rintro e w' ⟨rfl, hd⟩
  exact ⟨rfl, hd⟩

end Go.Proofs.Ytbnchdfmkmkhnaa.PTimerOrder
