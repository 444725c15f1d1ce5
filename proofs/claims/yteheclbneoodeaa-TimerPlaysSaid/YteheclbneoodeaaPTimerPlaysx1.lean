-- Lean text by a program of this repo (wip/tools/printx.py), out of Lean's own print of the translation
import Derived.Test.YteheclbneoodeaaTimer
import Derived.Test.YteheclbneoodeaaOpq
import Derived.Test.YteheclbneoodeaaPTimerPlaysx0
namespace Go.Proofs.Yteheclbneoodeaa.PTimerPlays
open Go.RowKit Go.Proofs.YteheclbneoodeaaW.PrintWords Go.Proofs.YteheclbneoodeaaW.PrintLast Go.Proofs.YteheclbneoodeaaW.PrintMore
attribute [local go_sem] max2_int min2_int max_two min_two max_three min_three max_four min_four   -- for this text's walks alone
set_option linter.unusedVariables false
set_option linter.unusedSimpArgs false

-- IMPORT Derived.Test.YteheclbneoodeaaOpq
abbrev ts69 : List Nat := [69]
-- IMPORT Derived.Test.YteheclbneoodeaaTimer
attribute [local go_sem] Go.Proofs.Yteheclbneoodeaa.Timer.binOp_leq
def IsS69 (w0 W : World) (g : Nat) (s : Timer.TimerM) : Prop :=
  ∃ (b : Nat) (D : DataW Unit), W.heap[g]? = some (.cells #[.map (some b)] 69 (0, 0)) ∧ w0.heap.size ≤ g ∧ w0.heap.size ≤ b ∧
    W.ownsMap Try.prog 9 (plainElem Try.prog 3) b s.length D ∧ Go.Proofs.Yteheclbneoodeaa.Timer.TimesD s D
theorem IsS69.blk {w0 W : World} {g : Nat} {s : Timer.TimerM} (h : IsS69 w0 W g s) : ∃ cells, W.heap[g]? = some (.cells cells 69 (0, 0)) := by
  obtain ⟨b, D, hg, _⟩ := h
  exact ⟨_, hg⟩
theorem IsS69.ge {w0 W : World} {g : Nat} {s : Timer.TimerM} (h : IsS69 w0 W g s) : w0.heap.size ≤ g := by
  obtain ⟨b, D, _, h1, _⟩ := h
  exact h1
theorem IsS69.frame {w0 W W1 : World} {g : Nat} {s : Timer.TimerM} (h : IsS69 w0 W g s)
    (hk : ∀ k, w0.heap.size ≤ k → k < W.heap.size → Go.Proofs.Yteheclbneoodeaa.Opq.Priv ts69 W.heap[k]? → W1.heap[k]? = W.heap[k]?) : IsS69 w0 W1 g s := by
  obtain ⟨b, D, hg, h1, h2, ⟨es, clock, hb, F, hs, hD⟩, hT⟩ := h
  refine ⟨b, D, (hk g h1 (blk_lt hg) (by rw [hg]; show _ ∈ ts69; decide)).trans hg, h1, h2, ⟨es, clock, (hk b h2 (blk_lt hb) (by rw [hb]; trivial)).trans hb, F, hs, hD⟩, hT⟩
theorem IsS69.lt {w0 W : World} {g : Nat} {s : Timer.TimerM} (h : IsS69 w0 W g s) : g < W.heap.size := by
  obtain ⟨_, hb⟩ := h.blk
  exact blk_lt hb
theorem IsS69.fresh {w0 W : World} {g : Nat} {s : Timer.TimerM} (h : IsS69 w0 W g s) : ∀ k, W.heap.size ≤ k → k ≠ g := by
  obtain ⟨_, hb⟩ := h.blk
  exact Kd.freshB hb
theorem IsS69.grown {w0 W : World} {g : Nat} {s : Timer.TimerM} {W1 : World} {row : Option Nat} (h : IsS69 w0 W g s) (hw : W.grownBy W1 row) (hne : Go.Proofs.Yteheclbneoodeaa.Opq.NPr ts69 W row) : IsS69 w0 W1 g s := h.frame (Go.Proofs.Yteheclbneoodeaa.Opq.frame_grown hw hne)
theorem IsS69.below {w0 W : World} {g : Nat} {s : Timer.TimerM} {W1 : World} (h : IsS69 w0 W g s) (hw : Below W.heap.size W W1) : IsS69 w0 W1 g s := h.frame (fun k _ hk _ => hw.block k hk)
theorem IsS69.alloc {w0 W : World} {g : Nat} {s : Timer.TimerM} (h : IsS69 w0 W g s) (o : Obj) : IsS69 w0 (W.alloc o) g s := h.below (below_alloc (Below.refl _ _) o)
theorem IsS69.drewN {w0 W : World} {g : Nat} {s : Timer.TimerM} (h : IsS69 w0 W g s) (m : Nat) : IsS69 w0 (W.drewN m) g s := h.frame (fun _ _ _ _ => rfl)
theorem IsS69.drew {w0 W : World} {g : Nat} {s : Timer.TimerM} (h : IsS69 w0 W g s) : IsS69 w0 W.drew g s := h.frame (fun _ _ _ _ => rfl)
theorem IsS69.at_ {w0 W : World} {g : Nat} {s : Timer.TimerM} {w' : World} {m : Nat} (hq : W.drewN m = w') (h : IsS69 w0 W g s) : IsS69 w0 w' g s := by subst hq; exact IsS69.drewN h m
theorem IsS69.far {w0 W : World} {g : Nat} {s : Timer.TimerM} {p : Addr} (h : IsS69 w0 W g s) (hne : Go.Proofs.Yteheclbneoodeaa.Opq.NP ts69 W p.block) (u : Value) : IsS69 w0 (W.setCell p u) g s := h.frame (Go.Proofs.Yteheclbneoodeaa.Opq.frame_far hne u)
theorem IsS69.apart {w0 W : World} {g : Nat} {s : Timer.TimerM} {α : Type} {d : Kd α} {e : Nat} {base : Nat} {ok : Nat → Prop} {v : Value} {xs : List α} (h : IsS69 w0 W g s) (ho : d.R e W base ok v xs) (ht : ∀ q, q ∈ e :: d.E → q ≠ 69) : d.R e W base (fun k => ok k ∧ k ≠ g) v xs := by
  obtain ⟨_, hb⟩ := h.blk
  exact Kd.R_types ho hb ht
theorem IsS69.own_ne {w0 W : World} {g : Nat} {s : Timer.TimerM} {α : Type} {d : Kd α} {e : Nat} {base : Nat} {ok : Nat → Prop} {v : Value} {xs : List α} (h : IsS69 w0 W g s) (ho : d.R e W base ok v xs) (ht : e ≠ 69) : some g ≠ v.ownBlock := by
  obtain ⟨_, hb⟩ := h.blk
  exact Kd.R_ne ho hb ht
theorem IsS69.apartQ {w0 W : World} {g : Nat} {s : Timer.TimerM} {α : Type} {d : Kd α} {e : Nat} {base : Nat} {ok : Nat → Prop} {v : Value} {xs : List α} (h : IsS69 w0 W g s) (ho : d.Q e W base ok v xs) (ht : ∀ q, q ∈ e :: d.E → q ≠ 69) : d.Q e W base (fun k => ok k ∧ k ≠ g) v xs := by
  obtain ⟨_, hb⟩ := h.blk
  exact Kd.Q_types ho hb ht
theorem IsS69.own_neQ {w0 W : World} {g : Nat} {s : Timer.TimerM} {α : Type} {d : Kd α} {e : Nat} {base : Nat} {ok : Nat → Prop} {v : Value} {xs : List α} (h : IsS69 w0 W g s) (ho : d.Q e W base ok v xs) (ht : e ≠ 69) : some g ≠ v.ownBlock := by
  obtain ⟨_, hb⟩ := h.blk
  exact Kd.Q_ne ho hb ht
theorem IsS69.apartS {w0 W : World} {g : Nat} {s : Timer.TimerM} {α : Type} {d : Kd α} {e : Nat} {base : Nat} {ok : Nat → Prop} {v : Value} {xs : List α} (h : IsS69 w0 W g s) (ho : d.S e W base ok v xs) (ht : ∀ q, q ∈ e :: d.E → q ≠ 69) : d.S e W base (fun k => ok k ∧ k ≠ g) v xs := by
  obtain ⟨_, hb⟩ := h.blk
  exact Kd.S_types ho hb ht
theorem IsS69.own_neS {w0 W : World} {g : Nat} {s : Timer.TimerM} {α : Type} {d : Kd α} {e : Nat} {base : Nat} {ok : Nat → Prop} {v : Value} {xs : List α} (h : IsS69 w0 W g s) (ho : d.S e W base ok v xs) (ht : e ≠ 69) : some g ≠ v.ownBlock := by
  obtain ⟨_, hb⟩ := h.blk
  exact Kd.S_ne ho hb ht
theorem IsS69.own_neN {w0 W : World} {g : Nat} {s : Timer.TimerM} {α : Type} {d : Kd α} {e : Nat} {base : Nat} {ok : Nat → Prop} {v : Value} {xs : List α} (h : IsS69 w0 W g s) (ho : Kd.N d e W base ok v xs) (ht : e ≠ 69) : some g ≠ v.ownBlock := by
  obtain ⟨_, hb⟩ := h.blk
  exact Kd.N_ne ho hb ht
theorem IsS69.ne_blk {w0 W : World} {g : Nat} {s : Timer.TimerM} {a : Nat} {cs : Array Value} {t : TypeId} {fr : Nat × Nat} (h : IsS69 w0 W g s) (hb2 : W.heap[a]? = some (.cells cs t fr)) (ht : t ≠ 69) : g ≠ a := by
  obtain ⟨_, hb⟩ := h.blk
  rintro rfl
  rw [hb] at hb2
  injection hb2 with hb2
  injection hb2 with _ ht2
  exact ht ht2.symm

/-! ### timer_New: function 11 -/
-- FN rounds=0 making=1
open Go.Proofs.Yteheclbneoodeaa.Timer Go.Proofs.Yteheclbneoodeaa.Opq in
def timer_New.f : Option Timer.TimerM := some []
set_option maxHeartbeats 2000000 in
open Go.Proofs.Yteheclbneoodeaa.Timer Go.Proofs.Yteheclbneoodeaa.Opq in
theorem timer_New.calls (r : Timer.TimerM) (w0 w : World) (hB : Below w0.heap.size w0 w) (h : timer_New.f = some r) :
    Calls Try.prog 11 #[] w fun e w' => ∃ g_ : Nat, e = .returned (.pointer (some ⟨g_, 0, none⟩)) ∧ IsS69 w0 w' g_ r ∧ Below w0.heap.size w0 w' ∧ Below w.heap.size w w' := by
  obtain rfl := Option.some.inj h
  have HB := Aside0.mk hB
  have HS := Aside0.mk hB.size
  have hmm := @run_makeMap Try.prog
  have hu69 := Try.underlying69
  have hum := Try.underlying67
  clear h hB
  go_enter Try.func11, Try.ntmps11
  go_wp2
  go_ret
  have hm := World.ownsMap_made (H := Unit) w Try.prog 9 (plainElem Try.prog 3)
  refine ⟨_, rfl, ⟨w.heap.size, _, ?_, ?_, HS.out, hm.alloc _, empty_timesD⟩, ?_, ?_⟩
  · simpa using heap_alloc_new (w.alloc (.map #[] 0)) (.cells #[.map (some w.heap.size)] 69)
  · have := HS.out; simp; omega
  · exact below_weaken HB.out HS.out (below_alloc (below_alloc (Below.refl _ _) _) _)
  · exact below_alloc (below_alloc (Below.refl _ _) _) _


/-! ### timer_Timers_Set: function 12 -/
-- FN rounds=0 making=1
def timer_Timers_Set.f (s : Timer.TimerM) (a1 : ByteArray) (a2 : Int) : Option (Timer.TimerM) := if a1.size ≤ maxLen ∧ (Lit.int .i64 a2).wf = true ∧ s.length < maxLen then some (Go.Proofs.Yteheclbneoodeaa.Timer.setM s a1 a2) else none
set_option maxHeartbeats 2000000 in
open Go.Proofs.Yteheclbneoodeaa.Timer Go.Proofs.Yteheclbneoodeaa.Opq in
theorem timer_Timers_Set.calls (g : Nat) (s0_0 : Timer.TimerM) (a1 : ByteArray) (a2 : Int) (r : Timer.TimerM) (w0 w : World) (hI : IsS69 w0 w g s0_0) (hB : Below w0.heap.size w0 w) (h : timer_Timers_Set.f s0_0 a1 a2 = some r) :
    Calls Try.prog 12 #[.pointer (some ⟨g, 0, none⟩), .string a1, .int .i64 a2] w fun e w' => e = .returned (.tuple #[]) ∧ IsS69 w0 w' g r ∧ Below w0.heap.size w0 w' ∧ Go.Proofs.Yteheclbneoodeaa.Opq.KeepO ts69 w0.heap.size w w' := by
  unfold timer_Timers_Set.f at h
  split at h
  case isFalse => cases h
  case isTrue hc =>
  obtain ⟨hz, hw, hl⟩ := hc
  obtain rfl := Option.some.inj h
  obtain ⟨b, D, hg, hge, hgb, hown, hT⟩ := hI
  have hne : some g ≠ some b := by
    intro e
    injection e with e
    subst e
    obtain ⟨_, _, hb, _⟩ := hown
    rw [hb] at hg
    cases hg
  have hpb : Priv ts69 w.heap[b]? := by
    obtain ⟨_, _, hb, _⟩ := hown
    rw [hb]; trivial
  have hkey : keyOf Try.prog 9 (.string a1) = some (keyL a1) := WideMaps.keyOf_string_mk Try.underlying9 hz
  have hval : plainElem (H := Unit) Try.prog 3 (.int .i64 a2) = some (.lit (.int .i64 a2), []) := plainElem_int Try.underlying3 hw
  have hcell : w.cell? ⟨g, 0, none⟩ = some (.map (some b)) := (blk_cell hg 0).trans rfl
  have HG := Aside0.mk hg
  have HB := Aside0.mk hB
  have HX := Aside0.mk (And.intro hge (And.intro hgb (And.intro hT (And.intro hne hpb))))
  have HL := Aside0.mk hl
  have HK := Aside0.mk hkey
  have HV := Aside0.mk hval
  have HO := Aside0.mk hown
  clear hg hge hgb hT hne hB h hz hw hl hkey hval hown hpb
  go_enter Try.func12, Try.ntmps12
  go_wp2_with (at_mapUpdate; refine wpList_mapUpdate_own _ rfl _ _ _ 67 rfl 9 3 (Maps.string_keyed Try.underlying9) Try.underlying67 _ b s0_0.length D rfl HO.out HL.out _ _ _ rfl rfl HK.out _ [] HV.out ?_; intro w1 ho1 hg1; have HO1 := Aside0.mk ho1; have HG1 := Aside0.mk hg1; clear ho1 hg1)
  obtain ⟨hge, hgb, hT, hne, hpb⟩ := HX.out
  have hbl : b < w.heap.size := HO.out.lt
  first | go_end0 | skip
  refine ⟨rfl, ⟨b, _, (HG1.out.block g (blk_lt HG.out) hne).trans HG.out, hge, hgb, ?_, hT.set a1 a2⟩, ?_, HG1.out.size, fun k hk hp => HG1.out.block k hk (fun e => ?_)⟩
  · have h1 := ownsMap_tight HO1.out
    rwa [(hT.set a1 a2).size] at h1
  · exact HB.out.grown HG1.out HB.out.size (fun k e => by injection e with e; omega)
  · injection e with e
    subst e
    rcases hp with hp | hp
    · omega
    · exact hp hpb


/-! ### timer_Timers_Due: function 13 -/
-- FN rounds=0 making=1
def timer_Timers_Due.f (s : Timer.TimerM) (a1 : Int) : Option (ByteArray × Int × Bool × Timer.TimerM) :=
  match Go.Proofs.Yteheclbneoodeaa.Timer.dueM s a1 with
  | none => some (⟨#[]⟩, 0, false, s)
  | some p => if p.1.size ≤ maxLen then some (p.1, p.2, true, Go.Proofs.Yteheclbneoodeaa.Timer.delM s p.1) else none
set_option maxHeartbeats 4000000 in
set_option maxRecDepth 100000 in
open Go.Proofs.Yteheclbneoodeaa.Timer Go.Proofs.Yteheclbneoodeaa.Opq in
theorem timer_Timers_Due.calls (g : Nat) (s0_0 : Timer.TimerM) (a1 : Int) (r1 : ByteArray) (r2 : Int) (r3 : Bool) (r4 : Timer.TimerM) (w0 w : World) (hI : IsS69 w0 w g s0_0) (hB : Below w0.heap.size w0 w) (h : timer_Timers_Due.f s0_0 a1 = some (r1, r2, r3, r4)) :
    Calls Try.prog 13 #[.pointer (some ⟨g, 0, none⟩), .int .i64 a1] w fun e w' => e = .returned (.tuple #[.string r1, .int .i64 r2, .bool r3]) ∧ IsS69 w0 w' g r4 ∧ Below w0.heap.size w0 w' ∧ Go.Proofs.Yteheclbneoodeaa.Opq.KeepO ts69 w0.heap.size w w' := by
  have HF := Aside0.mk h
  have HI := Aside0.mk hI
  obtain ⟨b, D, hg, hge, hgb, hown, hT⟩ := hI
  have hne : some g ≠ some b := by
    intro e
    injection e with e
    subst e
    obtain ⟨_, _, hb, _⟩ := hown
    rw [hb] at hg
    cases hg
  have hpb : Priv ts69 w.heap[b]? := by
    obtain ⟨_, _, hb, _⟩ := hown
    rw [hb]; trivial
  have hcell : w.cell? ⟨g, 0, none⟩ = some (.map (some b)) := (blk_cell hg 0).trans rfl
  have HG := Aside0.mk hg
  have HB := Aside0.mk hB
  have HX := Aside0.mk (And.intro hge (And.intro hgb (And.intro hne hpb)))
  have HT := Aside0.mk hT
  have HO := Aside0.mk hown
  clear hg hge hgb hT hne hB h hown hpb
  go_enter Try.func13, Try.ntmps13
  go_wp2_with (at_range; refine wpList_range_own _ rfl _ 67 rfl 9 3 (Maps.string_keyed Try.underlying9) Try.underlying67 _ b s0_0.length D rfl HO.out ?_; intro w1 hrg0 hg0 hs0; have HR0 := Aside0.mk hrg0; have HG0 := Aside0.mk hg0; clear hrg0 hg0 hs0)
  go_frame
  go_loopw [4, 5, 6] (fun v4 v5 v6 wr => ∃ (n : ByteArray) (v : Int) (ok : Bool) (left : Lit → Bool) (cnt : Nat), v4 = .string n ∧ v5 = .int .i64 v ∧ v6 = .bool ok ∧
      Aside0 (wr.ranges Try.prog 9 (plainElem Try.prog 3) b w.heap.size s0_0.length D left cnt) ∧ Aside0 (Best (fun q => q ∈ s0_0 ∧ left (keyL q.1) = false) a1 n v ok) ∧ Aside0 (w.grownBy wr none))
    (fun _ _ _ wr => wr.rangeLeft b w.heap.size)
  case atStart =>
    refine ⟨_, _, _, _, _, rfl, rfl, rfl, HR0, ⟨.inl ⟨rfl, rfl, rfl, fun q hq => ?_⟩⟩, HG0⟩
    have h1 := (HT.out.has (keyL q.1)).2 ⟨q, hq.1, rfl⟩
    exact absurd (h1.symm.trans hq.2) (by simp)
  case round =>
    obtain ⟨n, v, ok, left, cnt, rfl, rfl, rfl, HR, HBest, HGw⟩ := hrel
    clear HR0 HG0
    go_wp2_with (at_next; refine wpList_next_ranges _ rfl _ rfl 9 (Maps.string_keyed Try.underlying9) (plainElem Try.prog 3) Value.string (Value.int .i64) (invK Try.underlying9) (invV Try.underlying3) b w.heap.size s0_0.length D left cnt rfl HR.out ?_ ?_)
    · intro _ hl0
      have HE := Aside0.mk ((HBest.out.congr (met' := (· ∈ s0_0)) (fun q => ⟨fun h => ⟨h, hl0 _⟩, fun h => h.1⟩)).end_)
      have HO1 := Aside0.mk HR.out.owns
      have HC1 := Aside0.mk ((HGw.out.block g (blk_lt HG.out) (by simp)).trans HG.out)
      clear HR HBest hl0
      have hcell1 : wr.cell? ⟨g, 0, none⟩ = some (.map (some b)) := (blk_cell HC1.out 0).trans rfl
      cases ok with
      | false =>
        go_wp2
        go_ret3
        have h := HF.out
        unfold timer_Timers_Due.f at h
        obtain ⟨e1, e2⟩ := HE.out
        cases hd : dueM s0_0 a1 with
        | some p => rw [hd] at e1; cases e1
        | none =>
          rw [hd] at e2 h
          injection e2 with e2 e3
          injection h with h
          injection h with h1 h
          injection h with h2 h
          injection h with h3 h4
          subst h1 h2 h3 h4 e2 e3
          exact ⟨rfl, HI.out.grown HGw.out (fun k e => by cases e), HB.out.grown HGw.out HB.out.size (fun k e => by cases e), (KeepO.refl _ _ _).trans3 HGw.out (.inl rfl)⟩
      | true =>
        have h := HF.out
        unfold timer_Timers_Due.f at h
        obtain ⟨e1, e2⟩ := HE.out
        cases hd : dueM s0_0 a1 with
        | none => rw [hd] at e1; cases e1
        | some p =>
        rw [hd] at e2 h
        have e2 : (n, v) = p := e2
        subst e2
        dsimp only at h
        split at h
        case isFalse => cases h
        case isTrue hz =>
        injection h with h
        injection h with h1 h
        injection h with h2 h
        injection h with h3 h4
        subst h1 h2 h3 h4
        have HK := Aside0.mk (show keyOf Try.prog 9 (.string n) = some (keyL n) from WideMaps.keyOf_string_mk Try.underlying9 hz)
        clear hz hd HE HF e1
        go_wp2_with (at_delete; refine wpList_delete_own _ rfl _ _ 67 9 rfl 3 (Maps.string_keyed Try.underlying9) Try.underlying67 _ b s0_0.length D rfl HO1.out _ _ rfl HK.out ?_; intro w2 ho2 hg2; have HO2 := Aside0.mk ho2; have HG2 := Aside0.mk hg2.grown; clear ho2 hg2)
        go_ret3
        obtain ⟨hge, hgb, hne, hpb⟩ := HX.out
        have hbl : b < w.heap.size := HO.out.lt
        have hT := HT.out
        have HGG := (HGw.out.but (some b)).andThen HG2.out (fun j e => .inr e)
        refine ⟨rfl, ⟨b, _, (HGG.block g (blk_lt HG.out) hne).trans HG.out, hge, hgb, ?_, hT.del n⟩, ?_, HGG.size, fun k hk hp => HGG.block k hk (fun e => ?_)⟩
        · have h1 := ownsMap_tight HO2.out
          rwa [(hT.del n).size] at h1
        · exact HB.out.grown HGG HB.out.size (fun k e => by injection e with e; omega)
        · injection e with e
          subst e
          rcases hp with hp | hp
          · omega
          · exact hp hpb
    · intro x c kl y yp w1 cnt1 hkx hlx hy hat hrg1 hlt hg1 hs1 hen
      obtain ⟨x', hx', hkl, _⟩ := WideMaps.string_of_keyOf Try.underlying9 hkx
      injection hx' with hx'
      subst hx'
      have hkl : kl = keyL x := hkl
      subst hkl
      obtain ⟨c', hc', hy', _⟩ := plainElem_int_inv Try.underlying3 hy
      injection hc' with _ hc'
      subst hc'
      injection hy' with hy' _
      subst hy'
      have HM := Aside0.mk (met_step HT.out (left := left) hat)
      have HG1 := Aside0.mk (HGw.out.andThen hg1 (fun j e => .inl (by injection e with e; omega)))
      have HR1 := Aside0.mk hrg1
      have HLT := Aside0.mk hlt
      clear hkx hlx hy hat hrg1 hlt hg1 hs1
      have HD := Aside0.mk (show before (x, c) (n, v) = (decide (c < v) || (c == v && Op.bytesLess x.toList n.toList)) from rfl)
      by_cases k1 : c ≤ a1
      · have K1 := Aside0.mk k1
        have d1 : decide (c ≤ a1) = true := decide_eq_true k1
        clear k1
        cases ok with
        | false =>
          go_wp2
          go_roundw
          case rel => exact ⟨x, c, true, _, cnt1, rfl, rfl, rfl, HR1, ⟨HBest.out.take HM.out K1.out (.inl rfl)⟩, HG1⟩
          case measure => rw [HR1.out.left_eq, HR.out.left_eq]; exact HLT.out
        | true =>
          by_cases k2 : c < v
          · have K2 := Aside0.mk k2
            have d2 : decide (c < v) = true := decide_eq_true k2
            clear k2
            go_wp2
            go_roundw
            case rel => exact ⟨x, c, true, _, cnt1, rfl, rfl, rfl, HR1, ⟨HBest.out.take HM.out K1.out (.inr (by rw [HD.out, decide_eq_true K2.out]; rfl))⟩, HG1⟩
            case measure => rw [HR1.out.left_eq, HR.out.left_eq]; exact HLT.out
          · have K2 := Aside0.mk k2
            have d2 : decide (c < v) = false := decide_eq_false k2
            clear k2
            by_cases k3 : c = v
            · have K3 := Aside0.mk k3
              have d3 : (c == v) = true := beq_iff_eq.2 k3
              clear k3
              cases k4 : Op.bytesLess x.toList n.toList with
              | true =>
                have K4 := Aside0.mk k4
                go_wp2
                go_roundw
                case rel => exact ⟨x, c, true, _, cnt1, rfl, rfl, rfl, HR1, ⟨HBest.out.take HM.out K1.out (.inr (by rw [HD.out, K4.out, beq_iff_eq.2 K3.out]; simp))⟩, HG1⟩
                case measure => rw [HR1.out.left_eq, HR.out.left_eq]; exact HLT.out
              | false =>
                have K4 := Aside0.mk k4
                go_wp2
                go_roundw
                case rel => exact ⟨n, v, true, _, cnt1, rfl, rfl, rfl, HR1, ⟨HBest.out.skip HM.out (.inr ⟨rfl, (by rw [HD.out, K4.out, decide_eq_false K2.out]; simp)⟩)⟩, HG1⟩
                case measure => rw [HR1.out.left_eq, HR.out.left_eq]; exact HLT.out
            · have K3 := Aside0.mk k3
              have d3 : (c == v) = false := beq_eq_false_iff_ne.2 k3
              clear k3
              go_wp2
              go_roundw
              case rel => exact ⟨n, v, true, _, cnt1, rfl, rfl, rfl, HR1, ⟨HBest.out.skip HM.out (.inr ⟨rfl, (by rw [HD.out, beq_eq_false_iff_ne.2 K3.out, decide_eq_false K2.out]; rfl)⟩)⟩, HG1⟩
              case measure => rw [HR1.out.left_eq, HR.out.left_eq]; exact HLT.out
      · have K1 := Aside0.mk k1
        have d1 : decide (c ≤ a1) = false := decide_eq_false k1
        clear k1
        go_wp2
        go_roundw
        case rel => exact ⟨n, v, ok, _, cnt1, rfl, rfl, rfl, HR1, ⟨HBest.out.skip HM.out (.inl K1.out)⟩, HG1⟩
        case measure => rw [HR1.out.left_eq, HR.out.left_eq]; exact HLT.out


/-! ### interregnumlaw17_answers: function 10 -/
def interregnumlaw17_answers.f  : Option (Bool) := (timer_New.f).bind fun t101 => ((timer_Timers_Set.f t101 (⟨#[97]⟩ : ByteArray) 5).bind fun t103 => ((timer_Timers_Due.f t103 4).bind fun bt104 => ((timer_Timers_Due.f bt104.2.2.2 5).bind fun bt108 => (if bt104.2.2.1 = true then (some false) else (if bt108.2.2.1 = true then (if bt108.1.toList = ([97] : List UInt8) then (some (bt108.2.1 == 5)) else (some false)) else (some false))))))
set_option maxHeartbeats 8000000 in
set_option maxRecDepth 100000 in
theorem interregnumlaw17_answers.calls  (r : Bool) (w : World) (h : interregnumlaw17_answers.f  = some r) :
    Calls Try.prog 10 #[] w fun e w' => e = .returned (.bool r) ∧ Below w.heap.size w w' := by
  have HB := Aside0.mk (Below.refl w.heap.size w)
  have H : ((timer_New.f).bind fun t101 => ((timer_Timers_Set.f t101 (⟨#[97]⟩ : ByteArray) 5).bind fun t103 => ((timer_Timers_Due.f t103 4).bind fun bt104 => ((timer_Timers_Due.f bt104.2.2.2 5).bind fun bt108 => (if bt104.2.2.1 = true then (some false) else (if bt108.2.2.1 = true then (if bt108.1.toList = ([97] : List UInt8) then (some (bt108.2.1 == 5)) else (some false)) else (some false))))))) = some r := h
  clear h
  replace H := Option.bind_eq_some_iff.mp H
  obtain ⟨t101, A10, H⟩ := H
  replace H : ((timer_Timers_Set.f t101 (⟨#[97]⟩ : ByteArray) 5).bind fun t103 => ((timer_Timers_Due.f t103 4).bind fun bt104 => ((timer_Timers_Due.f bt104.2.2.2 5).bind fun bt108 => (if bt104.2.2.1 = true then (some false) else (if bt108.2.2.1 = true then (if bt108.1.toList = ([97] : List UInt8) then (some (bt108.2.1 == 5)) else (some false)) else (some false)))))) = some r := H
  have A1 := Aside0.mk A10
  clear A10
  replace H := Option.bind_eq_some_iff.mp H
  obtain ⟨t103, A20, H⟩ := H
  replace H : ((timer_Timers_Due.f t103 4).bind fun bt104 => ((timer_Timers_Due.f bt104.2.2.2 5).bind fun bt108 => (if bt104.2.2.1 = true then (some false) else (if bt108.2.2.1 = true then (if bt108.1.toList = ([97] : List UInt8) then (some (bt108.2.1 == 5)) else (some false)) else (some false))))) = some r := H
  have A2 := Aside0.mk A20
  clear A20
  replace H := Option.bind_eq_some_iff.mp H
  obtain ⟨⟨t104, t105, t106, t107⟩, A30, H⟩ := H
  replace H : ((timer_Timers_Due.f t107 5).bind fun bt108 => (if t106 = true then (some false) else (if bt108.2.2.1 = true then (if bt108.1.toList = ([97] : List UInt8) then (some (bt108.2.1 == 5)) else (some false)) else (some false)))) = some r := H
  have A3 := Aside0.mk A30
  clear A30
  replace H := Option.bind_eq_some_iff.mp H
  obtain ⟨⟨t108, t109, t110, t111⟩, A40, H⟩ := H
  replace H : (if t106 = true then (some false) else (if t110 = true then (if t108.toList = ([97] : List UInt8) then (some (t109 == 5)) else (some false)) else (some false))) = some r := H
  have A4 := Aside0.mk A40
  clear A40
  by_cases c5 : t106 = true
  · subst c5
    have H1 : (some false) = some r := by rw [if_pos rfl] at H; exact H
    clear H
    have H := H1
    clear H1
    obtain rfl := Option.some.inj H
    go_enter Try.func10, Try.ntmps10
    go_wp2_with (first | ((with_reducible refine gate_callee (f := 11) rfl ?_); refine goesL_ (some 8) rfl rfl Try.func11 (by kernel_rfl) rfl #[] rfl (by (try simp only [List.map_toArray, List.map_cons, List.map_nil]); first | done | rfl | (simp only [List.length_drop, List.length_take]; rfl)) ?_; (with_reducible refine (timer_New.calls  t101 w _ ?side1 A1.out).mono ?_); (case side1 => repeat (first | (with_reducible first | exact HB.out | apply below_alloc | apply pw_below_drewN | apply below_drew1) | exact HB.out)); rintro e w6 ⟨g102, rfl, hi, hb, hb2⟩; refine ⟨_, rfl, ?_⟩; have n0_ := Aside0.mk (hb); have n1_ := Aside0.mk (hi); clear HB; have HB := n0_; have HI102 := n1_; clear n0_ n1_; (try clear hb); (try clear hb2); (try clear hk); (try clear hi)) | ((with_reducible refine gate_callee (f := 12) rfl ?_); refine goesL_ (some 10) rfl rfl Try.func12 (by kernel_rfl) rfl #[.pointer (some ⟨g102, 0, none⟩), .string (⟨#[97]⟩ : ByteArray), .int .i64 5] rfl (by (try simp only [List.map_toArray, List.map_cons, List.map_nil]); first | done | rfl | (simp only [List.length_drop, List.length_take]; rfl)) ?_; (with_reducible refine (timer_Timers_Set.calls g102 t101 (⟨#[97]⟩ : ByteArray) 5 t103 w _ ?side1 ?side2 A2.out).mono ?_); (case side1 => repeat (first | (with_reducible first | exact HI102.out | apply IsS69.alloc | apply IsS69.drewN | apply IsS69.drew) | exact HI102.out)); (case side2 => repeat (first | (with_reducible first | exact HB.out | apply below_alloc | apply pw_below_drewN | apply below_drew1 | refine below_set ?_ (IsS69.ge HI102.out)) | exact HB.out)); rintro e w7 ⟨rfl, hi, hb, hk⟩; refine ⟨_, rfl, ?_⟩; have n0_ := Aside0.mk (hb); have n1_ := Aside0.mk (hi); clear HB; clear HI102; have HB := n0_; have HI102 := n1_; clear n0_ n1_; (try clear hb); (try clear hb2); (try clear hk); (try clear hi)) | ((with_reducible refine gate_callee (f := 13) rfl ?_); refine goesL_ (some 13) rfl rfl Try.func13 (by kernel_rfl) rfl #[.pointer (some ⟨g102, 0, none⟩), .int .i64 4] rfl (by (try simp only [List.map_toArray, List.map_cons, List.map_nil]); first | done | rfl | (simp only [List.length_drop, List.length_take]; rfl)) ?_; (with_reducible refine (timer_Timers_Due.calls g102 t103 4 t104 t105 true t107 w _ ?side1 ?side2 A3.out).mono ?_); (case side1 => repeat (first | (with_reducible first | exact HI102.out | apply IsS69.alloc | apply IsS69.drewN | apply IsS69.drew) | exact HI102.out)); (case side2 => repeat (first | (with_reducible first | exact HB.out | apply below_alloc | apply pw_below_drewN | apply below_drew1 | refine below_set ?_ (IsS69.ge HI102.out)) | exact HB.out)); rintro e w8 ⟨rfl, hi, hb, hk⟩; refine ⟨_, rfl, ?_⟩; have n0_ := Aside0.mk (hb); have n1_ := Aside0.mk (hi); clear HB; clear HI102; have HB := n0_; have HI102 := n1_; clear n0_ n1_; (try clear hb); (try clear hb2); (try clear hk); (try clear hi)) | ((with_reducible refine gate_callee (f := 13) rfl ?_); refine goesL_ (some 19) rfl rfl Try.func13 (by kernel_rfl) rfl #[.pointer (some ⟨g102, 0, none⟩), .int .i64 5] rfl (by (try simp only [List.map_toArray, List.map_cons, List.map_nil]); first | done | rfl | (simp only [List.length_drop, List.length_take]; rfl)) ?_; (with_reducible refine (timer_Timers_Due.calls g102 t107 5 t108 t109 t110 t111 w _ ?side1 ?side2 A4.out).mono ?_); (case side1 => repeat (first | (with_reducible first | exact HI102.out | apply IsS69.alloc | apply IsS69.drewN | apply IsS69.drew) | exact HI102.out)); (case side2 => repeat (first | (with_reducible first | exact HB.out | apply below_alloc | apply pw_below_drewN | apply below_drew1 | refine below_set ?_ (IsS69.ge HI102.out)) | exact HB.out)); rintro e w9 ⟨rfl, hi, hb, hk⟩; refine ⟨_, rfl, ?_⟩; have n0_ := Aside0.mk (hb); have n1_ := Aside0.mk (hi); clear HB; clear HI102; have HB := n0_; have HI102 := n1_; clear n0_ n1_; (try clear hb); (try clear hb2); (try clear hk); (try clear hi)))
    go_ret
    exact ⟨by first | rfl | (simp [errW_none, errW_some] <;> rfl) | (simp [*, errW_none, errW_some] <;> rfl), by repeat (first | (with_reducible first | exact HB.out | apply below_alloc | apply pw_below_drewN | apply below_drew1 | refine below_set ?_ (IsS69.ge HI102.out)) | exact HB.out)⟩
  · replace c5 := Bool.eq_false_iff.mpr c5
    subst c5
    have H1 : (if t110 = true then (if t108.toList = ([97] : List UInt8) then (some (t109 == 5)) else (some false)) else (some false)) = some r := by rw [if_neg (show ¬ (false = true) by decide)] at H; exact H
    clear H
    have H := H1
    clear H1
    by_cases c10 : t110 = true
    · subst c10
      have H1 : (if t108.toList = ([97] : List UInt8) then (some (t109 == 5)) else (some false)) = some r := by rw [if_pos rfl] at H; exact H
      clear H
      have H := H1
      clear H1
      by_cases c11 : t108.toList = ([97] : List UInt8)
      · rw [if_pos c11] at H
        have c11b0 : (t108.toList == ([97] : List UInt8)) = true := beq_iff_eq.mpr c11
        have c11b1 : (t108.toList != ([97] : List UInt8)) = false := bne_eq_false_iff_eq.mpr c11
        clear c11
        obtain rfl := Option.some.inj H
        go_enter Try.func10, Try.ntmps10
        go_wp2_with (first | ((with_reducible refine gate_callee (f := 11) rfl ?_); refine goesL_ (some 8) rfl rfl Try.func11 (by kernel_rfl) rfl #[] rfl (by (try simp only [List.map_toArray, List.map_cons, List.map_nil]); first | done | rfl | (simp only [List.length_drop, List.length_take]; rfl)) ?_; (with_reducible refine (timer_New.calls  t101 w _ ?side1 A1.out).mono ?_); (case side1 => repeat (first | (with_reducible first | exact HB.out | apply below_alloc | apply pw_below_drewN | apply below_drew1) | exact HB.out)); rintro e w12 ⟨g102, rfl, hi, hb, hb2⟩; refine ⟨_, rfl, ?_⟩; have n0_ := Aside0.mk (hb); have n1_ := Aside0.mk (hi); clear HB; have HB := n0_; have HI102 := n1_; clear n0_ n1_; (try clear hb); (try clear hb2); (try clear hk); (try clear hi)) | ((with_reducible refine gate_callee (f := 12) rfl ?_); refine goesL_ (some 10) rfl rfl Try.func12 (by kernel_rfl) rfl #[.pointer (some ⟨g102, 0, none⟩), .string (⟨#[97]⟩ : ByteArray), .int .i64 5] rfl (by (try simp only [List.map_toArray, List.map_cons, List.map_nil]); first | done | rfl | (simp only [List.length_drop, List.length_take]; rfl)) ?_; (with_reducible refine (timer_Timers_Set.calls g102 t101 (⟨#[97]⟩ : ByteArray) 5 t103 w _ ?side1 ?side2 A2.out).mono ?_); (case side1 => repeat (first | (with_reducible first | exact HI102.out | apply IsS69.alloc | apply IsS69.drewN | apply IsS69.drew) | exact HI102.out)); (case side2 => repeat (first | (with_reducible first | exact HB.out | apply below_alloc | apply pw_below_drewN | apply below_drew1 | refine below_set ?_ (IsS69.ge HI102.out)) | exact HB.out)); rintro e w13 ⟨rfl, hi, hb, hk⟩; refine ⟨_, rfl, ?_⟩; have n0_ := Aside0.mk (hb); have n1_ := Aside0.mk (hi); clear HB; clear HI102; have HB := n0_; have HI102 := n1_; clear n0_ n1_; (try clear hb); (try clear hb2); (try clear hk); (try clear hi)) | ((with_reducible refine gate_callee (f := 13) rfl ?_); refine goesL_ (some 13) rfl rfl Try.func13 (by kernel_rfl) rfl #[.pointer (some ⟨g102, 0, none⟩), .int .i64 4] rfl (by (try simp only [List.map_toArray, List.map_cons, List.map_nil]); first | done | rfl | (simp only [List.length_drop, List.length_take]; rfl)) ?_; (with_reducible refine (timer_Timers_Due.calls g102 t103 4 t104 t105 false t107 w _ ?side1 ?side2 A3.out).mono ?_); (case side1 => repeat (first | (with_reducible first | exact HI102.out | apply IsS69.alloc | apply IsS69.drewN | apply IsS69.drew) | exact HI102.out)); (case side2 => repeat (first | (with_reducible first | exact HB.out | apply below_alloc | apply pw_below_drewN | apply below_drew1 | refine below_set ?_ (IsS69.ge HI102.out)) | exact HB.out)); rintro e w14 ⟨rfl, hi, hb, hk⟩; refine ⟨_, rfl, ?_⟩; have n0_ := Aside0.mk (hb); have n1_ := Aside0.mk (hi); clear HB; clear HI102; have HB := n0_; have HI102 := n1_; clear n0_ n1_; (try clear hb); (try clear hb2); (try clear hk); (try clear hi)) | ((with_reducible refine gate_callee (f := 13) rfl ?_); refine goesL_ (some 19) rfl rfl Try.func13 (by kernel_rfl) rfl #[.pointer (some ⟨g102, 0, none⟩), .int .i64 5] rfl (by (try simp only [List.map_toArray, List.map_cons, List.map_nil]); first | done | rfl | (simp only [List.length_drop, List.length_take]; rfl)) ?_; (with_reducible refine (timer_Timers_Due.calls g102 t107 5 t108 t109 true t111 w _ ?side1 ?side2 A4.out).mono ?_); (case side1 => repeat (first | (with_reducible first | exact HI102.out | apply IsS69.alloc | apply IsS69.drewN | apply IsS69.drew) | exact HI102.out)); (case side2 => repeat (first | (with_reducible first | exact HB.out | apply below_alloc | apply pw_below_drewN | apply below_drew1 | refine below_set ?_ (IsS69.ge HI102.out)) | exact HB.out)); rintro e w15 ⟨rfl, hi, hb, hk⟩; refine ⟨_, rfl, ?_⟩; have n0_ := Aside0.mk (hb); have n1_ := Aside0.mk (hi); clear HB; clear HI102; have HB := n0_; have HI102 := n1_; clear n0_ n1_; (try clear hb); (try clear hb2); (try clear hk); (try clear hi)))
        go_ret
        exact ⟨by first | rfl | (simp [errW_none, errW_some] <;> rfl) | (simp [*, errW_none, errW_some] <;> rfl), by repeat (first | (with_reducible first | exact HB.out | apply below_alloc | apply pw_below_drewN | apply below_drew1 | refine below_set ?_ (IsS69.ge HI102.out)) | exact HB.out)⟩
      · rw [if_neg c11] at H
        have c11b0 : (t108.toList == ([97] : List UInt8)) = false := beq_eq_false_iff_ne.mpr c11
        have c11b1 : (t108.toList != ([97] : List UInt8)) = true := bne_iff_ne.mpr c11
        obtain rfl := Option.some.inj H
        go_enter Try.func10, Try.ntmps10
        go_wp2_with (first | ((with_reducible refine gate_callee (f := 11) rfl ?_); refine goesL_ (some 8) rfl rfl Try.func11 (by kernel_rfl) rfl #[] rfl (by (try simp only [List.map_toArray, List.map_cons, List.map_nil]); first | done | rfl | (simp only [List.length_drop, List.length_take]; rfl)) ?_; (with_reducible refine (timer_New.calls  t101 w _ ?side1 A1.out).mono ?_); (case side1 => repeat (first | (with_reducible first | exact HB.out | apply below_alloc | apply pw_below_drewN | apply below_drew1) | exact HB.out)); rintro e w16 ⟨g102, rfl, hi, hb, hb2⟩; refine ⟨_, rfl, ?_⟩; have n0_ := Aside0.mk (hb); have n1_ := Aside0.mk (hi); clear HB; have HB := n0_; have HI102 := n1_; clear n0_ n1_; (try clear hb); (try clear hb2); (try clear hk); (try clear hi)) | ((with_reducible refine gate_callee (f := 12) rfl ?_); refine goesL_ (some 10) rfl rfl Try.func12 (by kernel_rfl) rfl #[.pointer (some ⟨g102, 0, none⟩), .string (⟨#[97]⟩ : ByteArray), .int .i64 5] rfl (by (try simp only [List.map_toArray, List.map_cons, List.map_nil]); first | done | rfl | (simp only [List.length_drop, List.length_take]; rfl)) ?_; (with_reducible refine (timer_Timers_Set.calls g102 t101 (⟨#[97]⟩ : ByteArray) 5 t103 w _ ?side1 ?side2 A2.out).mono ?_); (case side1 => repeat (first | (with_reducible first | exact HI102.out | apply IsS69.alloc | apply IsS69.drewN | apply IsS69.drew) | exact HI102.out)); (case side2 => repeat (first | (with_reducible first | exact HB.out | apply below_alloc | apply pw_below_drewN | apply below_drew1 | refine below_set ?_ (IsS69.ge HI102.out)) | exact HB.out)); rintro e w17 ⟨rfl, hi, hb, hk⟩; refine ⟨_, rfl, ?_⟩; have n0_ := Aside0.mk (hb); have n1_ := Aside0.mk (hi); clear HB; clear HI102; have HB := n0_; have HI102 := n1_; clear n0_ n1_; (try clear hb); (try clear hb2); (try clear hk); (try clear hi)) | ((with_reducible refine gate_callee (f := 13) rfl ?_); refine goesL_ (some 13) rfl rfl Try.func13 (by kernel_rfl) rfl #[.pointer (some ⟨g102, 0, none⟩), .int .i64 4] rfl (by (try simp only [List.map_toArray, List.map_cons, List.map_nil]); first | done | rfl | (simp only [List.length_drop, List.length_take]; rfl)) ?_; (with_reducible refine (timer_Timers_Due.calls g102 t103 4 t104 t105 false t107 w _ ?side1 ?side2 A3.out).mono ?_); (case side1 => repeat (first | (with_reducible first | exact HI102.out | apply IsS69.alloc | apply IsS69.drewN | apply IsS69.drew) | exact HI102.out)); (case side2 => repeat (first | (with_reducible first | exact HB.out | apply below_alloc | apply pw_below_drewN | apply below_drew1 | refine below_set ?_ (IsS69.ge HI102.out)) | exact HB.out)); rintro e w18 ⟨rfl, hi, hb, hk⟩; refine ⟨_, rfl, ?_⟩; have n0_ := Aside0.mk (hb); have n1_ := Aside0.mk (hi); clear HB; clear HI102; have HB := n0_; have HI102 := n1_; clear n0_ n1_; (try clear hb); (try clear hb2); (try clear hk); (try clear hi)) | ((with_reducible refine gate_callee (f := 13) rfl ?_); refine goesL_ (some 19) rfl rfl Try.func13 (by kernel_rfl) rfl #[.pointer (some ⟨g102, 0, none⟩), .int .i64 5] rfl (by (try simp only [List.map_toArray, List.map_cons, List.map_nil]); first | done | rfl | (simp only [List.length_drop, List.length_take]; rfl)) ?_; (with_reducible refine (timer_Timers_Due.calls g102 t107 5 t108 t109 true t111 w _ ?side1 ?side2 A4.out).mono ?_); (case side1 => repeat (first | (with_reducible first | exact HI102.out | apply IsS69.alloc | apply IsS69.drewN | apply IsS69.drew) | exact HI102.out)); (case side2 => repeat (first | (with_reducible first | exact HB.out | apply below_alloc | apply pw_below_drewN | apply below_drew1 | refine below_set ?_ (IsS69.ge HI102.out)) | exact HB.out)); rintro e w19 ⟨rfl, hi, hb, hk⟩; refine ⟨_, rfl, ?_⟩; have n0_ := Aside0.mk (hb); have n1_ := Aside0.mk (hi); clear HB; clear HI102; have HB := n0_; have HI102 := n1_; clear n0_ n1_; (try clear hb); (try clear hb2); (try clear hk); (try clear hi)))
        go_ret
        exact ⟨by first | rfl | (simp [errW_none, errW_some] <;> rfl) | (simp [*, errW_none, errW_some] <;> rfl), by repeat (first | (with_reducible first | exact HB.out | apply below_alloc | apply pw_below_drewN | apply below_drew1 | refine below_set ?_ (IsS69.ge HI102.out)) | exact HB.out)⟩
    · replace c10 := Bool.eq_false_iff.mpr c10
      subst c10
      have H1 : (some false) = some r := by rw [if_neg (show ¬ (false = true) by decide)] at H; exact H
      clear H
      have H := H1
      clear H1
      obtain rfl := Option.some.inj H
      go_enter Try.func10, Try.ntmps10
      go_wp2_with (first | ((with_reducible refine gate_callee (f := 11) rfl ?_); refine goesL_ (some 8) rfl rfl Try.func11 (by kernel_rfl) rfl #[] rfl (by (try simp only [List.map_toArray, List.map_cons, List.map_nil]); first | done | rfl | (simp only [List.length_drop, List.length_take]; rfl)) ?_; (with_reducible refine (timer_New.calls  t101 w _ ?side1 A1.out).mono ?_); (case side1 => repeat (first | (with_reducible first | exact HB.out | apply below_alloc | apply pw_below_drewN | apply below_drew1) | exact HB.out)); rintro e w20 ⟨g102, rfl, hi, hb, hb2⟩; refine ⟨_, rfl, ?_⟩; have n0_ := Aside0.mk (hb); have n1_ := Aside0.mk (hi); clear HB; have HB := n0_; have HI102 := n1_; clear n0_ n1_; (try clear hb); (try clear hb2); (try clear hk); (try clear hi)) | ((with_reducible refine gate_callee (f := 12) rfl ?_); refine goesL_ (some 10) rfl rfl Try.func12 (by kernel_rfl) rfl #[.pointer (some ⟨g102, 0, none⟩), .string (⟨#[97]⟩ : ByteArray), .int .i64 5] rfl (by (try simp only [List.map_toArray, List.map_cons, List.map_nil]); first | done | rfl | (simp only [List.length_drop, List.length_take]; rfl)) ?_; (with_reducible refine (timer_Timers_Set.calls g102 t101 (⟨#[97]⟩ : ByteArray) 5 t103 w _ ?side1 ?side2 A2.out).mono ?_); (case side1 => repeat (first | (with_reducible first | exact HI102.out | apply IsS69.alloc | apply IsS69.drewN | apply IsS69.drew) | exact HI102.out)); (case side2 => repeat (first | (with_reducible first | exact HB.out | apply below_alloc | apply pw_below_drewN | apply below_drew1 | refine below_set ?_ (IsS69.ge HI102.out)) | exact HB.out)); rintro e w21 ⟨rfl, hi, hb, hk⟩; refine ⟨_, rfl, ?_⟩; have n0_ := Aside0.mk (hb); have n1_ := Aside0.mk (hi); clear HB; clear HI102; have HB := n0_; have HI102 := n1_; clear n0_ n1_; (try clear hb); (try clear hb2); (try clear hk); (try clear hi)) | ((with_reducible refine gate_callee (f := 13) rfl ?_); refine goesL_ (some 13) rfl rfl Try.func13 (by kernel_rfl) rfl #[.pointer (some ⟨g102, 0, none⟩), .int .i64 4] rfl (by (try simp only [List.map_toArray, List.map_cons, List.map_nil]); first | done | rfl | (simp only [List.length_drop, List.length_take]; rfl)) ?_; (with_reducible refine (timer_Timers_Due.calls g102 t103 4 t104 t105 false t107 w _ ?side1 ?side2 A3.out).mono ?_); (case side1 => repeat (first | (with_reducible first | exact HI102.out | apply IsS69.alloc | apply IsS69.drewN | apply IsS69.drew) | exact HI102.out)); (case side2 => repeat (first | (with_reducible first | exact HB.out | apply below_alloc | apply pw_below_drewN | apply below_drew1 | refine below_set ?_ (IsS69.ge HI102.out)) | exact HB.out)); rintro e w22 ⟨rfl, hi, hb, hk⟩; refine ⟨_, rfl, ?_⟩; have n0_ := Aside0.mk (hb); have n1_ := Aside0.mk (hi); clear HB; clear HI102; have HB := n0_; have HI102 := n1_; clear n0_ n1_; (try clear hb); (try clear hb2); (try clear hk); (try clear hi)) | ((with_reducible refine gate_callee (f := 13) rfl ?_); refine goesL_ (some 19) rfl rfl Try.func13 (by kernel_rfl) rfl #[.pointer (some ⟨g102, 0, none⟩), .int .i64 5] rfl (by (try simp only [List.map_toArray, List.map_cons, List.map_nil]); first | done | rfl | (simp only [List.length_drop, List.length_take]; rfl)) ?_; (with_reducible refine (timer_Timers_Due.calls g102 t107 5 t108 t109 false t111 w _ ?side1 ?side2 A4.out).mono ?_); (case side1 => repeat (first | (with_reducible first | exact HI102.out | apply IsS69.alloc | apply IsS69.drewN | apply IsS69.drew) | exact HI102.out)); (case side2 => repeat (first | (with_reducible first | exact HB.out | apply below_alloc | apply pw_below_drewN | apply below_drew1 | refine below_set ?_ (IsS69.ge HI102.out)) | exact HB.out)); rintro e w23 ⟨rfl, hi, hb, hk⟩; refine ⟨_, rfl, ?_⟩; have n0_ := Aside0.mk (hb); have n1_ := Aside0.mk (hi); clear HB; clear HI102; have HB := n0_; have HI102 := n1_; clear n0_ n1_; (try clear hb); (try clear hb2); (try clear hk); (try clear hi)))
      go_ret
      exact ⟨by first | rfl | (simp [errW_none, errW_some] <;> rfl) | (simp [*, errW_none, errW_some] <;> rfl), by repeat (first | (with_reducible first | exact HB.out | apply below_alloc | apply pw_below_drewN | apply below_drew1 | refine below_set ?_ (IsS69.ge HI102.out)) | exact HB.out)⟩

/-! ### timer_Timers_At: function 14 -/
-- FN rounds=0 making=1
def timer_Timers_At.f (s : Timer.TimerM) (a1 : ByteArray) : Option (Int × Bool × Timer.TimerM) := if a1.size ≤ maxLen then some ((Go.Proofs.Yteheclbneoodeaa.Timer.getM s a1).getD 0, (Go.Proofs.Yteheclbneoodeaa.Timer.getM s a1).isSome, s) else none
set_option maxHeartbeats 2000000 in
open Go.Proofs.Yteheclbneoodeaa.Timer Go.Proofs.Yteheclbneoodeaa.Opq in
theorem timer_Timers_At.calls (g : Nat) (s0_0 : Timer.TimerM) (a1 : ByteArray) (r1 : Int) (r2 : Bool) (r3 : Timer.TimerM) (w0 w : World) (hI : IsS69 w0 w g s0_0) (hB : Below w0.heap.size w0 w) (h : timer_Timers_At.f s0_0 a1 = some (r1, r2, r3)) :
    Calls Try.prog 14 #[.pointer (some ⟨g, 0, none⟩), .string a1] w fun e w' => e = .returned (.tuple #[.int .i64 r1, .bool r2]) ∧ IsS69 w0 w' g r3 ∧ Below w0.heap.size w0 w' ∧ Go.Proofs.Yteheclbneoodeaa.Opq.KeepO ts69 w0.heap.size w w' := by
  unfold timer_Timers_At.f at h
  split at h
  case isFalse => cases h
  case isTrue hz =>
  have h := Option.some.inj h
  injection h with h1 h
  injection h with h2 h3
  subst h1 h2 h3
  have HI := Aside0.mk hI
  obtain ⟨b, D, hg, hge, hgb, hown, hT⟩ := hI
  have hzero : ∀ w : World, (zeroValue 3).run Try.prog w = .ok (.int .i64 0) w := fun w => by kernel_rfl
  have hkey : keyOf Try.prog 9 (.string a1) = some (keyL a1) := WideMaps.keyOf_string_mk Try.underlying9 hz
  have hcell : w.cell? ⟨g, 0, none⟩ = some (.map (some b)) := (blk_cell hg 0).trans rfl
  have HB := Aside0.mk hB
  have HT := Aside0.mk hT
  have HK := Aside0.mk hkey
  have HO := Aside0.mk hown
  have HZ := Aside0.mk hzero
  clear hge hgb hT hB hz hkey hown hg hzero
  go_enter Try.func14, Try.ntmps14
  go_wp2_with (at_lookup; refine wpList_lookup_own_ok_int _ rfl _ _ 67 rfl 9 3 .i64 (Maps.string_keyed Try.underlying9) Try.underlying67 Try.underlying3 (HZ.out _) b s0_0.length D rfl HO.out _ _ rfl HK.out ?_; intro c hat hwc; have HA := Aside0.mk hat; clear hat hwc)
  go_ret2
  refine ⟨?_, HI.out, HB.out, KeepO.refl _ _ _⟩
  have h1 := (HT.out.at_get a1).symm.trans HA.out
  rw [HT.out.has_get]
  injection h1 with h1
  injection h1 with _ h1
  rw [h1]
  rfl


/-! ### timer_Timers_Stop: function 15 -/
-- FN rounds=0 making=1
def timer_Timers_Stop.f (s : Timer.TimerM) (a1 : ByteArray) : Option (Timer.TimerM) := if a1.size ≤ maxLen then some (Go.Proofs.Yteheclbneoodeaa.Timer.delM s a1) else none
set_option maxHeartbeats 2000000 in
open Go.Proofs.Yteheclbneoodeaa.Timer Go.Proofs.Yteheclbneoodeaa.Opq in
theorem timer_Timers_Stop.calls (g : Nat) (s0_0 : Timer.TimerM) (a1 : ByteArray) (r : Timer.TimerM) (w0 w : World) (hI : IsS69 w0 w g s0_0) (hB : Below w0.heap.size w0 w) (h : timer_Timers_Stop.f s0_0 a1 = some r) :
    Calls Try.prog 15 #[.pointer (some ⟨g, 0, none⟩), .string a1] w fun e w' => e = .returned (.tuple #[]) ∧ IsS69 w0 w' g r ∧ Below w0.heap.size w0 w' ∧ Go.Proofs.Yteheclbneoodeaa.Opq.KeepO ts69 w0.heap.size w w' := by
  unfold timer_Timers_Stop.f at h
  split at h
  case isFalse => cases h
  case isTrue hz =>
  obtain rfl := Option.some.inj h
  obtain ⟨b, D, hg, hge, hgb, hown, hT⟩ := hI
  have hne : some g ≠ some b := by
    intro e
    injection e with e
    subst e
    obtain ⟨_, _, hb, _⟩ := hown
    rw [hb] at hg
    cases hg
  have hpb : Priv ts69 w.heap[b]? := by
    obtain ⟨_, _, hb, _⟩ := hown
    rw [hb]; trivial
  have hkey : keyOf Try.prog 9 (.string a1) = some (keyL a1) := WideMaps.keyOf_string_mk Try.underlying9 hz
  have hcell : w.cell? ⟨g, 0, none⟩ = some (.map (some b)) := (blk_cell hg 0).trans rfl
  have HG := Aside0.mk hg
  have HB := Aside0.mk hB
  have HX := Aside0.mk (And.intro hge (And.intro hgb (And.intro hT (And.intro hne hpb))))
  have HK := Aside0.mk hkey
  have HO := Aside0.mk hown
  clear hg hge hgb hT hne hB h hz hkey hown hpb
  go_enter Try.func15, Try.ntmps15
  go_wp2_with (at_delete; refine wpList_delete_own _ rfl _ _ 67 9 rfl 3 (Maps.string_keyed Try.underlying9) Try.underlying67 _ b s0_0.length D rfl HO.out _ _ rfl HK.out ?_; intro w1 ho1 hg1; have HO1 := Aside0.mk ho1; have HG1 := Aside0.mk hg1.grown; clear ho1 hg1)
  obtain ⟨hge, hgb, hT, hne, hpb⟩ := HX.out
  have hbl : b < w.heap.size := HO.out.lt
  first | go_end0 | skip
  refine ⟨rfl, ⟨b, _, (HG1.out.block g (blk_lt HG.out) hne).trans HG.out, hge, hgb, ?_, hT.del a1⟩, ?_, HG1.out.size, fun k hk hp => HG1.out.block k hk (fun e => ?_)⟩
  · have h1 := ownsMap_tight HO1.out
    rwa [(hT.del a1).size] at h1
  · exact HB.out.grown HG1.out HB.out.size (fun k e => by injection e with e; omega)
  · injection e with e
    subst e
    rcases hp with hp | hp
    · omega
    · exact hp hpb


end Go.Proofs.Yteheclbneoodeaa.PTimerPlays
