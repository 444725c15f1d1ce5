/- Of two routes that differ in one thing alone that thing decides. -/
import Derived.Test.YtediicgkcgfghaaBndDecideSteps
import Derived.Test.YtediicgkcgfghaaDecDDecideSteps
namespace Go.Proofs.Ytediicgkcgfghaa.Pure
open Go.RowKit Go.Proofs.Ytediicgkcgfghaa.PDecideSteps Go.Proofs.YtediicgkcgfghaaW.PrintWords Go.Proofs.YtediicgkcgfghaaW.PrintLast Go.Proofs.Ytediicgkcgfghaa.DecDecideSteps
set_option linter.unusedVariables false
/-- Which of two is chosen, by the counts of the steps. -/
def pick : List (Int × Int) → Int
  | [] => 0
  | (p, q) :: t => if p < q then 0 else if q < p then 1 else pick t
theorem min01 (v : Int → Int) : minF v [0, 1] = if v 0 < v 1 then [0] else if v 1 < v 0 then [1] else [0, 1] := by
  by_cases h : v 0 < v 1
  · rw [if_pos h, min_filter v [0, 1] (fun n => decide (n = 0)) (fun n hn => ?_)]
    · rfl
    · simp only [List.mem_cons, List.not_mem_nil, or_false] at hn
      rcases hn with rfl | rfl <;> simp <;> omega
  · rw [if_neg h]
    by_cases h2 : v 1 < v 0
    · rw [if_pos h2, min_filter v [0, 1] (fun n => decide (n = 1)) (fun n hn => ?_)]
      · rfl
      · simp only [List.mem_cons, List.not_mem_nil, or_false] at hn
        rcases hn with rfl | rfl <;> simp <;> omega
    · rw [if_neg h2, min_filter v [0, 1] (fun n => true) (fun n hn => ?_)]
      · rfl
      · simp only [List.mem_cons, List.not_mem_nil, or_false] at hn
        rcases hn with rfl | rfl <;> simp <;> omega
theorem min1 (v : Int → Int) (n : Int) : minF v [n] = [n] := by
  rw [min_filter v [n] (fun _ => true) (fun m hm => by
    simp only [List.mem_cons, List.not_mem_nil, or_false] at hm
    subst hm
    simp)]
  rfl
/-- One step more. -/
theorem two_step (v : Int → Int) (G : List Int → Int) (hG : ∀ n, G [n] = n) (t : List (Int × Int)) (h : G [0, 1] = pick t) : G (minF v [0, 1]) = pick ((v 0, v 1) :: t) := by
  rw [min01]
  unfold pick
  by_cases h1 : v 0 < v 1
  · rw [if_pos h1, if_pos h1, hG]
  · rw [if_neg h1, if_neg h1]
    by_cases h2 : v 1 < v 0
    · rw [if_pos h2, if_pos h2, hG]
    · rw [if_neg h2, if_neg h2, h]
theorem two_best (a : Int) (I : List Inf) (l : List Rt) (h : leftL a l = [0, 1]) : bestV a I l = (pick [(v0 l 0, v0 l 1), (v1 l 0, v1 l 1), (v2 l 0, v2 l 1), (v3 l 0, v3 l 1), (v4 l 0, v4 l 1), (v5 l [0, 1] 0, v5 l [0, 1] 1), (v6 a I l 0, v6 a I l 1), (v7 I l 0, v7 I l 1), (v8 l 0, v8 l 1)], true) := by
  have s8 : rd (minF (v8 l) [0, 1]) 0 = pick [(v8 l 0, v8 l 1)] := two_step (v8 l) (fun L => rd L 0) (fun n => rfl) [] rfl
  have s7 := two_step (v7 I l) (fun L => rd (minF (v8 l) L) 0) (fun n => by show rd (minF (v8 l) [n]) 0 = n; rw [min1]; rfl) _ s8
  have s6 := two_step (v6 a I l) (fun L => rd (minF (v8 l) (minF (v7 I l) L)) 0) (fun n => by show rd (minF (v8 l) (minF (v7 I l) [n])) 0 = n; rw [min1, min1]; rfl) _ s7
  have s5 := two_step (v5 l [0, 1]) (fun L => rd (minF (v8 l) (minF (v7 I l) (minF (v6 a I l) L))) 0) (fun n => by show rd (minF (v8 l) (minF (v7 I l) (minF (v6 a I l) [n]))) 0 = n; rw [min1, min1, min1]; rfl) _ s6
  have one : ∀ n, rd (bestB a I l [n]) 0 = n := fun n => by rw [bestB_min, min1, min1, min1, min1]; rfl
  have s5 : rd (bestB a I l [0, 1]) 0 = _ := (congrArg (fun L => rd L 0) (bestB_min a I l [0, 1])).trans s5
  have s4 := two_step (v4 l) (fun L => rd (bestB a I l L) 0) one _ s5
  have s3 := two_step (v3 l) (fun L => rd (bestB a I l (minF (v4 l) L)) 0) (fun n => by show rd (bestB a I l (minF (v4 l) [n])) 0 = n; rw [min1, one]) _ s4
  have s2 := two_step (v2 l) (fun L => rd (bestB a I l (minF (v4 l) (minF (v3 l) L))) 0) (fun n => by show rd (bestB a I l (minF (v4 l) (minF (v3 l) [n]))) 0 = n; rw [min1, min1, one]) _ s3
  have s1 := two_step (v1 l) (fun L => rd (bestB a I l (minF (v4 l) (minF (v3 l) (minF (v2 l) L)))) 0) (fun n => by show rd (bestB a I l (minF (v4 l) (minF (v3 l) (minF (v2 l) [n])))) 0 = n; rw [min1, min1, min1, one]) _ s2
  have s0 := two_step (v0 l) (fun L => rd (bestB a I l (minF (v4 l) (minF (v3 l) (minF (v2 l) (minF (v1 l) L))))) 0) (fun n => by show rd (bestB a I l (minF (v4 l) (minF (v3 l) (minF (v2 l) (minF (v1 l) [n]))))) 0 = n; rw [min1, min1, min1, min1, one]) _ s1
  unfold bestV
  rw [h, if_neg (by decide), bestA_min]
  exact congrArg (fun n => (n, true)) s0
theorem thing (p q : Int) (t : List (Int × Int)) (r : Int) (h : pick t = r) : pick ((p, q) :: t) = if p < q then 0 else if q < p then 1 else r := by
  conv => lhs; unfold pick
  rw [h]
theorem pick_eq (p : Int) (t : List (Int × Int)) : pick ((p, p) :: t) = pick t := by
  unfold pick
  rw [if_neg (by omega), if_neg (by omega)]
  cases t <;> rfl
theorem pick_lt (p q : Int) (t : List (Int × Int)) (h : p < q) : pick ((p, q) :: t) = 0 := by
  unfold pick
  rw [if_pos h]
theorem pick_gt (p q : Int) (t : List (Int × Int)) (h : q < p) : pick ((p, q) :: t) = 1 := by
  unfold pick
  rw [if_neg (by omega), if_pos h]
/-- THE ROUTES -/
def mk (p o : Int) (P : List Seg) (m f s : Int) : Rt := ⟨⟨0, 0⟩, p, ⟨o, P, 0, m, f, [], []⟩, s⟩
def goodP (P : List Seg) : Prop := P.any (segHas 1) = false ∧ firstV P = (7, true) ∧ P.length + tot P < 3000
def nums (p o m f : Int) : Prop := (0 ≤ p ∧ p < 3) ∧ (0 ≤ o ∧ o < 65536) ∧ (-1 ≤ m ∧ m < 65536) ∧ (0 ≤ f ∧ f < 65536)
theorem bad_ok {a : Int} (h0 : -9 ≤ a) (h1 : a < 65536) : badB a = false := by
  unfold badB
  exact decide_eq_false (by omega)
theorem mk_ok {p o m f s : Int} {P : List Seg} (hn : nums p o m f) (hP : goodP P) : okS (mk p o P m f s) :=
  ⟨bad_ok (by have := hn.1; show -9 ≤ p; omega) (by have := hn.1; show p < 65536; omega), bad_ok (by have := hn.2.2.2; show -9 ≤ f; omega) hn.2.2.2.2, bad_ok (by have := hn.2.2.1; show -9 ≤ m; omega) hn.2.2.1.2, bad_ok (by have := hn.2.1; show -9 ≤ o; omega) hn.2.1.2, hP.2.2⟩
theorem beat_self (l : List Rt) (f : Int) (n : Int) : beatsB f (rdR l n) (rdR l n) = false := by
  unfold beatsB
  rw [show decide (max (rdR l n).f2.f3 0 < max (rdR l n).f2.f3 0) = false from decide_eq_false (by omega), Bool.and_false, Bool.and_false]
theorem duo (p1 p2 o1 o2 m1 m2 f1 f2 s1 s2 : Int) (P1 P2 : List Seg) (I : List Inf) (hI : ∀ y ∈ I, InfOk y) (hn1 : nums p1 o1 m1 f1) (hn2 : nums p2 o2 m2 f2) (hP1 : goodP P1) (hP2 : goodP P2) :
    decide_Best.f 1 I [mk p1 o1 P1 m1 f1 s1, mk p2 o2 P2 m2 f2 s2] = some (pick [(if s1 = 2 then 1 else 0, if s2 = 2 then 1 else 0), (-f1, -f2), (((plen P1 : Nat) : Int), ((plen P2 : Nat) : Int)), (o1, o2), (if max m2 0 < max m1 0 then 1 else 0, if max m1 0 < max m2 0 then 1 else 0), (if (infoV I p1).f1 = 1 then 1 else 0, if (infoV I p2).f1 = 1 then 1 else 0), ((infoV I p1).f2, (infoV I p2).f2), (p1, p2)], true) := by
  obtain ⟨l, hl⟩ : ∃ l : List Rt, l = [mk p1 o1 P1 m1 f1 s1, mk p2 o2 P2 m2 f2 s2] := ⟨_, rfl⟩
  have r0 : rdR l 0 = mk p1 o1 P1 m1 f1 s1 := by rw [hl]; rfl
  have r1 : rdR l 1 = mk p2 o2 P2 m2 f2 s2 := by rw [hl]; rfl
  have ok : ∀ r ∈ l, okS r := fun r hr => by
    rw [hl] at hr
    simp only [List.mem_cons, List.not_mem_nil, or_false] at hr
    rcases hr with rfl | rfl
    · exact mk_ok hn1 hP1
    · exact mk_ok hn2 hP2
  have hlen : l.length = 2 := by rw [hl]; rfl
  rw [← hl, best_some 1 I hI l (by omega) ok]
  have u0 : useB 1 (rdR l 0) = true := by
    rw [r0]
    unfold useB
    show (!(P1.any (segHas 1))) = true
    rw [hP1.1]
    rfl
  have u1 : useB 1 (rdR l 1) = true := by
    rw [r1]
    unfold useB
    show (!(P2.any (segHas 1))) = true
    rw [hP2.1]
    rfl
  have hleft : leftL 1 l = [0, 1] := by
    unfold leftL
    rw [hlen, show idx 2 = [0, 1] from rfl]
    refine List.filter_eq_self.2 (fun n hn => ?_)
    simp only [List.mem_cons, List.not_mem_nil, or_false] at hn
    rcases hn with rfl | rfl
    · exact u0
    · exact u1
  rw [two_best 1 I l hleft]
  have e0 : v0 l 0 = 1 ∧ v0 l 1 = 1 := by
    unfold v0
    rw [r0, r1]
    exact ⟨if_neg (by have := hn1.1; show ¬ p1 < 0; omega), if_neg (by have := hn2.1; show ¬ p2 < 0; omega)⟩
  have e1 : v1 l 0 = (if s1 = 2 then 1 else 0) ∧ v1 l 1 = (if s2 = 2 then 1 else 0) := by
    unfold v1
    rw [r0, r1]
    exact ⟨rfl, rfl⟩
  have e2 : v2 l 0 = -f1 ∧ v2 l 1 = -f2 := by
    unfold v2 prefV
    rw [r0, r1]
    exact ⟨if_pos hn1.2.2.2.1, if_pos hn2.2.2.2.1⟩
  have e3 : v3 l 0 = ((plen P1 : Nat) : Int) ∧ v3 l 1 = ((plen P2 : Nat) : Int) := by
    unfold v3
    rw [r0, r1]
    exact ⟨(ok_of I hI _ (mk_ok hn1 hP1)).2, (ok_of I hI _ (mk_ok hn2 hP2)).2⟩
  have e4 : v4 l 0 = o1 ∧ v4 l 1 = o2 := by
    unfold v4
    rw [r0, r1]
    exact ⟨rfl, rfl⟩
  have b0 : beatenB l [0, 1] 0 = decide (max m2 0 < max m1 0) := by
    show ((firstV (rdR l 0).f2.f1).2 && (beatsB (firstV (rdR l 0).f2.f1).1 (rdR l 0) (rdR l 0) || (beatsB (firstV (rdR l 0).f2.f1).1 (rdR l 1) (rdR l 0) || false))) = _
    rw [beat_self, r0, r1]
    unfold beatsB
    show ((firstV P1).2 && (false || (((firstV P2).2 && (decide ((firstV P2).1 = (firstV P1).1) && decide (max m2 0 < max m1 0))) || false))) = _
    rw [hP1.2.1, hP2.2.1]
    simp
  have b1 : beatenB l [0, 1] 1 = decide (max m1 0 < max m2 0) := by
    show ((firstV (rdR l 1).f2.f1).2 && (beatsB (firstV (rdR l 1).f2.f1).1 (rdR l 0) (rdR l 1) || (beatsB (firstV (rdR l 1).f2.f1).1 (rdR l 1) (rdR l 1) || false))) = _
    rw [beat_self, r0, r1]
    unfold beatsB
    show ((firstV P2).2 && (((firstV P1).2 && (decide ((firstV P1).1 = (firstV P2).1) && decide (max m1 0 < max m2 0))) || (false || false))) = _
    rw [hP1.2.1, hP2.2.1]
    simp
  have e5 : v5 l [0, 1] 0 = (if max m2 0 < max m1 0 then 1 else 0) ∧ v5 l [0, 1] 1 = (if max m1 0 < max m2 0 then 1 else 0) := by
    unfold v5
    rw [b0, b1]
    refine ⟨?_, ?_⟩ <;> simp
  have e6 : v6 1 I l 0 = (if (infoV I p1).f1 = 1 then 1 else 0) ∧ v6 1 I l 1 = (if (infoV I p2).f1 = 1 then 1 else 0) := by
    unfold v6
    rw [r0, r1]
    exact ⟨rfl, rfl⟩
  have e7 : v7 I l 0 = (infoV I p1).f2 ∧ v7 I l 1 = (infoV I p2).f2 := by
    unfold v7
    rw [r0, r1]
    exact ⟨rfl, rfl⟩
  have e8 : v8 l 0 = p1 ∧ v8 l 1 = p2 := by
    unfold v8
    rw [r0, r1]
    exact ⟨rfl, rfl⟩
  rw [e0.1, e0.2, e1.1, e1.2, e2.1, e2.2, e3.1, e3.2, e4.1, e4.2, e5.1, e5.2, e6.1, e6.2, e7.1, e7.2, e8.1, e8.2, pick_eq]
theorem info12 (c1 c2 d1 d2 : Int) : infoV [(⟨1, c1, d1⟩ : Inf), ⟨2, c2, d2⟩] 1 = ⟨1, c1, d1⟩ ∧ infoV [(⟨1, c1, d1⟩ : Inf), ⟨2, c2, d2⟩] 2 = ⟨2, c2, d2⟩ := by
  refine ⟨?_, ?_⟩
  · rw [infoV_cons, if_pos rfl]
  · rw [infoV_cons, if_neg (show ¬ ((1 : Int) = 2) by decide), infoV_cons, if_pos rfl]
theorem inf_ok (c1 c2 d1 d2 : Int) (h1 : 0 ≤ c1 ∧ c1 < 65536) (h2 : 0 ≤ c2 ∧ c2 < 65536) (h3 : 0 ≤ d1 ∧ d1 < 65536) (h4 : 0 ≤ d2 ∧ d2 < 65536) : ∀ y ∈ [(⟨1, c1, d1⟩ : Inf), ⟨2, c2, d2⟩], InfOk y := fun y hy => by
  simp only [List.mem_cons, List.not_mem_nil, or_false] at hy
  rcases hy with rfl | rfl <;> refine ⟨?_, ?_, ?_⟩ <;> simp [Lit.wf, IntKind.min, IntKind.max, IntKind.signed, IntKind.bits] <;> omega
def P78 : List Seg := [⟨false, [7, 8]⟩]
theorem p78 : goodP P78 ∧ plen P78 = 2 := ⟨⟨rfl, rfl, by decide⟩, rfl⟩
def P7n (a : Int) : List Seg := [⟨false, [7] ++ List.replicate (a % 9).toNat 0⟩]
theorem p7n (a : Int) : goodP (P7n a) ∧ ((plen (P7n a) : Nat) : Int) = a % 9 + 1 := by
  have h0 := Int.emod_nonneg a (show (9 : Int) ≠ 0 by decide)
  have h1 := Int.emod_lt_of_pos a (show (0 : Int) < 9 by decide)
  have hl : ([7] ++ List.replicate (a % 9).toNat (0 : Int)).length = (a % 9).toNat + 1 := by simp
  refine ⟨⟨?_, rfl, ?_⟩, ?_⟩
  · unfold P7n
    rw [List.any_cons, List.any_nil, Bool.or_false]
    show ([7] ++ List.replicate (a % 9).toNat (0 : Int)).any ((1 : Int) == ·) = false
    rw [List.any_append, List.any_replicate]
    simp
  · show 1 + (([7] ++ List.replicate (a % 9).toNat (0 : Int)).length + 0) < 3000
    rw [hl]
    omega
  · show (((if (false : Bool) = true then 1 else ([7] ++ List.replicate (a % 9).toNat (0 : Int)).length) + 0 : Nat) : Int) = a % 9 + 1
    rw [if_neg (by decide), hl]
    omega
theorem case0 (a1 a2 : Int) (h1 : 0 ≤ a1 ∧ a1 < 65536) (h2 : 0 ≤ a2 ∧ a2 < 65536) :
    decide_Best.f 1 [(⟨1, 2, 5⟩ : Inf), ⟨2, 2, 5⟩] [mk 1 0 P78 (-1) (a1) 0, mk 2 0 P78 (-1) (a2) 0] = some (if decide (a2 ≤ a1) = true then 0 else 1, true) ∧ decide_Best.f 1 [(⟨1, 2, 5⟩ : Inf), ⟨2, 2, 5⟩] [mk 2 0 P78 (-1) (a2) 0, mk 1 0 P78 (-1) (a1) 0] = some (if decide (a2 ≤ a1) = true then 1 else 0, true) := by
  have i1 := (info12 2 2 5 5).1
  have i2 := (info12 2 2 5 5).2
  constructor
  · rw [duo 1 2 0 0 (-1) (-1) (a1) (a2) 0 0 P78 P78 [(⟨1, 2, 5⟩ : Inf), ⟨2, 2, 5⟩] (inf_ok 2 2 5 5 (by omega) (by omega) (by omega) (by omega)) (show nums 1 0 (-1) (a1) by unfold nums; omega) (show nums 2 0 (-1) (a2) by unfold nums; omega) p78.1 p78.1, i1, i2]
    congr 2
    rw [pick_eq]
    rw [thing _ _ _ 0 (by rw [pick_eq, pick_eq, pick_eq, pick_eq, pick_eq, pick_lt _ _ _ (by decide)])]
    by_cases hc : a2 ≤ a1
    · rw [decide_eq_true hc]
      repeat' split
      all_goals first | rfl | contradiction | omega
    · rw [decide_eq_false hc]
      repeat' split
      all_goals first | rfl | contradiction | omega
  · rw [duo 2 1 0 0 (-1) (-1) (a2) (a1) 0 0 P78 P78 [(⟨1, 2, 5⟩ : Inf), ⟨2, 2, 5⟩] (inf_ok 2 2 5 5 (by omega) (by omega) (by omega) (by omega)) (show nums 2 0 (-1) (a2) by unfold nums; omega) (show nums 1 0 (-1) (a1) by unfold nums; omega) p78.1 p78.1, i1, i2]
    congr 2
    rw [pick_eq]
    rw [thing _ _ _ 1 (by rw [pick_eq, pick_eq, pick_eq, pick_eq, pick_eq, pick_gt _ _ _ (by decide)])]
    by_cases hc : a2 ≤ a1
    · rw [decide_eq_true hc]
      repeat' split
      all_goals first | rfl | contradiction | omega
    · rw [decide_eq_false hc]
      repeat' split
      all_goals first | rfl | contradiction | omega
theorem case1 (a1 a2 : Int) (h1 : 0 ≤ a1 ∧ a1 < 65536) (h2 : 0 ≤ a2 ∧ a2 < 65536) :
    decide_Best.f 1 [(⟨1, 2, 5⟩ : Inf), ⟨2, 2, 5⟩] [mk 1 0 (P7n a1) (-1) 100 0, mk 2 0 (P7n a2) (-1) 100 0] = some (if decide (a1 % 9 ≤ a2 % 9) = true then 0 else 1, true) ∧ decide_Best.f 1 [(⟨1, 2, 5⟩ : Inf), ⟨2, 2, 5⟩] [mk 2 0 (P7n a2) (-1) 100 0, mk 1 0 (P7n a1) (-1) 100 0] = some (if decide (a1 % 9 ≤ a2 % 9) = true then 1 else 0, true) := by
  have i1 := (info12 2 2 5 5).1
  have i2 := (info12 2 2 5 5).2
  constructor
  · rw [duo 1 2 0 0 (-1) (-1) 100 100 0 0 (P7n a1) (P7n a2) [(⟨1, 2, 5⟩ : Inf), ⟨2, 2, 5⟩] (inf_ok 2 2 5 5 (by omega) (by omega) (by omega) (by omega)) (show nums 1 0 (-1) 100 by unfold nums; omega) (show nums 2 0 (-1) 100 by unfold nums; omega) (p7n a1).1 (p7n a2).1, i1, i2, (p7n a1).2, (p7n a2).2]
    congr 2
    rw [pick_eq, pick_eq]
    rw [thing _ _ _ 0 (by rw [pick_eq, pick_eq, pick_eq, pick_eq, pick_lt _ _ _ (by decide)])]
    by_cases hc : a1 % 9 ≤ a2 % 9
    · rw [decide_eq_true hc]
      repeat' split
      all_goals first | rfl | contradiction | omega
    · rw [decide_eq_false hc]
      repeat' split
      all_goals first | rfl | contradiction | omega
  · rw [duo 2 1 0 0 (-1) (-1) 100 100 0 0 (P7n a2) (P7n a1) [(⟨1, 2, 5⟩ : Inf), ⟨2, 2, 5⟩] (inf_ok 2 2 5 5 (by omega) (by omega) (by omega) (by omega)) (show nums 2 0 (-1) 100 by unfold nums; omega) (show nums 1 0 (-1) 100 by unfold nums; omega) (p7n a2).1 (p7n a1).1, i1, i2, (p7n a2).2, (p7n a1).2]
    congr 2
    rw [pick_eq, pick_eq]
    rw [thing _ _ _ 1 (by rw [pick_eq, pick_eq, pick_eq, pick_eq, pick_gt _ _ _ (by decide)])]
    by_cases hc : a1 % 9 ≤ a2 % 9
    · rw [decide_eq_true hc]
      repeat' split
      all_goals first | rfl | contradiction | omega
    · rw [decide_eq_false hc]
      repeat' split
      all_goals first | rfl | contradiction | omega
theorem case2 (a1 a2 : Int) (h1 : 0 ≤ a1 ∧ a1 < 65536) (h2 : 0 ≤ a2 ∧ a2 < 65536) :
    decide_Best.f 1 [(⟨1, 2, 5⟩ : Inf), ⟨2, 2, 5⟩] [mk 1 (a1 % 3) P78 (-1) 100 0, mk 2 (a2 % 3) P78 (-1) 100 0] = some (if decide (a1 % 3 ≤ a2 % 3) = true then 0 else 1, true) ∧ decide_Best.f 1 [(⟨1, 2, 5⟩ : Inf), ⟨2, 2, 5⟩] [mk 2 (a2 % 3) P78 (-1) 100 0, mk 1 (a1 % 3) P78 (-1) 100 0] = some (if decide (a1 % 3 ≤ a2 % 3) = true then 1 else 0, true) := by
  have i1 := (info12 2 2 5 5).1
  have i2 := (info12 2 2 5 5).2
  constructor
  · rw [duo 1 2 (a1 % 3) (a2 % 3) (-1) (-1) 100 100 0 0 P78 P78 [(⟨1, 2, 5⟩ : Inf), ⟨2, 2, 5⟩] (inf_ok 2 2 5 5 (by omega) (by omega) (by omega) (by omega)) (show nums 1 (a1 % 3) (-1) 100 by unfold nums; omega) (show nums 2 (a2 % 3) (-1) 100 by unfold nums; omega) p78.1 p78.1, i1, i2]
    congr 2
    rw [pick_eq, pick_eq, pick_eq]
    rw [thing _ _ _ 0 (by rw [pick_eq, pick_eq, pick_eq, pick_lt _ _ _ (by decide)])]
    by_cases hc : a1 % 3 ≤ a2 % 3
    · rw [decide_eq_true hc]
      repeat' split
      all_goals first | rfl | contradiction | omega
    · rw [decide_eq_false hc]
      repeat' split
      all_goals first | rfl | contradiction | omega
  · rw [duo 2 1 (a2 % 3) (a1 % 3) (-1) (-1) 100 100 0 0 P78 P78 [(⟨1, 2, 5⟩ : Inf), ⟨2, 2, 5⟩] (inf_ok 2 2 5 5 (by omega) (by omega) (by omega) (by omega)) (show nums 2 (a2 % 3) (-1) 100 by unfold nums; omega) (show nums 1 (a1 % 3) (-1) 100 by unfold nums; omega) p78.1 p78.1, i1, i2]
    congr 2
    rw [pick_eq, pick_eq, pick_eq]
    rw [thing _ _ _ 1 (by rw [pick_eq, pick_eq, pick_eq, pick_gt _ _ _ (by decide)])]
    by_cases hc : a1 % 3 ≤ a2 % 3
    · rw [decide_eq_true hc]
      repeat' split
      all_goals first | rfl | contradiction | omega
    · rw [decide_eq_false hc]
      repeat' split
      all_goals first | rfl | contradiction | omega
theorem case3 (a1 a2 : Int) (h1 : 0 ≤ a1 ∧ a1 < 65536) (h2 : 0 ≤ a2 ∧ a2 < 65536) :
    decide_Best.f 1 [(⟨1, 2, 5⟩ : Inf), ⟨2, 2, 5⟩] [mk 1 0 P78 (a1) 100 0, mk 2 0 P78 (a2) 100 0] = some (if decide (a1 ≤ a2) = true then 0 else 1, true) ∧ decide_Best.f 1 [(⟨1, 2, 5⟩ : Inf), ⟨2, 2, 5⟩] [mk 2 0 P78 (a2) 100 0, mk 1 0 P78 (a1) 100 0] = some (if decide (a1 ≤ a2) = true then 1 else 0, true) := by
  have i1 := (info12 2 2 5 5).1
  have i2 := (info12 2 2 5 5).2
  constructor
  · rw [duo 1 2 0 0 (a1) (a2) 100 100 0 0 P78 P78 [(⟨1, 2, 5⟩ : Inf), ⟨2, 2, 5⟩] (inf_ok 2 2 5 5 (by omega) (by omega) (by omega) (by omega)) (show nums 1 0 (a1) 100 by unfold nums; omega) (show nums 2 0 (a2) 100 by unfold nums; omega) p78.1 p78.1, i1, i2]
    congr 2
    rw [pick_eq, pick_eq, pick_eq, pick_eq]
    rw [thing _ _ _ 0 (by rw [pick_eq, pick_eq, pick_lt _ _ _ (by decide)])]
    by_cases hc : a1 ≤ a2
    · rw [decide_eq_true hc]
      repeat' split
      all_goals first | rfl | contradiction | omega
    · rw [decide_eq_false hc]
      repeat' split
      all_goals first | rfl | contradiction | omega
  · rw [duo 2 1 0 0 (a2) (a1) 100 100 0 0 P78 P78 [(⟨1, 2, 5⟩ : Inf), ⟨2, 2, 5⟩] (inf_ok 2 2 5 5 (by omega) (by omega) (by omega) (by omega)) (show nums 2 0 (a2) 100 by unfold nums; omega) (show nums 1 0 (a1) 100 by unfold nums; omega) p78.1 p78.1, i1, i2]
    congr 2
    rw [pick_eq, pick_eq, pick_eq, pick_eq]
    rw [thing _ _ _ 1 (by rw [pick_eq, pick_eq, pick_gt _ _ _ (by decide)])]
    by_cases hc : a1 ≤ a2
    · rw [decide_eq_true hc]
      repeat' split
      all_goals first | rfl | contradiction | omega
    · rw [decide_eq_false hc]
      repeat' split
      all_goals first | rfl | contradiction | omega
theorem case4 (a1 a2 : Int) (h1 : 0 ≤ a1 ∧ a1 < 65536) (h2 : 0 ≤ a2 ∧ a2 < 65536) :
    decide_Best.f 1 [(⟨1, (1 + a1 % 2), 5⟩ : Inf), ⟨2, (1 + a2 % 2), 5⟩] [mk 1 0 P78 (-1) 100 0, mk 2 0 P78 (-1) 100 0] = some (if decide (a2 % 2 ≤ a1 % 2) = true then 0 else 1, true) ∧ decide_Best.f 1 [(⟨1, (1 + a1 % 2), 5⟩ : Inf), ⟨2, (1 + a2 % 2), 5⟩] [mk 2 0 P78 (-1) 100 0, mk 1 0 P78 (-1) 100 0] = some (if decide (a2 % 2 ≤ a1 % 2) = true then 1 else 0, true) := by
  have i1 := (info12 (1 + a1 % 2) (1 + a2 % 2) 5 5).1
  have i2 := (info12 (1 + a1 % 2) (1 + a2 % 2) 5 5).2
  constructor
  · rw [duo 1 2 0 0 (-1) (-1) 100 100 0 0 P78 P78 [(⟨1, (1 + a1 % 2), 5⟩ : Inf), ⟨2, (1 + a2 % 2), 5⟩] (inf_ok (1 + a1 % 2) (1 + a2 % 2) 5 5 (by omega) (by omega) (by omega) (by omega)) (show nums 1 0 (-1) 100 by unfold nums; omega) (show nums 2 0 (-1) 100 by unfold nums; omega) p78.1 p78.1, i1, i2]
    dsimp only
    congr 2
    rw [pick_eq, pick_eq, pick_eq, pick_eq, pick_eq]
    rw [thing _ _ _ 0 (by rw [pick_eq, pick_lt _ _ _ (by decide)])]
    by_cases hc : a2 % 2 ≤ a1 % 2
    · rw [decide_eq_true hc]
      repeat' split
      all_goals first | rfl | contradiction | omega
    · rw [decide_eq_false hc]
      repeat' split
      all_goals first | rfl | contradiction | omega
  · rw [duo 2 1 0 0 (-1) (-1) 100 100 0 0 P78 P78 [(⟨1, (1 + a1 % 2), 5⟩ : Inf), ⟨2, (1 + a2 % 2), 5⟩] (inf_ok (1 + a1 % 2) (1 + a2 % 2) 5 5 (by omega) (by omega) (by omega) (by omega)) (show nums 2 0 (-1) 100 by unfold nums; omega) (show nums 1 0 (-1) 100 by unfold nums; omega) p78.1 p78.1, i1, i2]
    dsimp only
    congr 2
    rw [pick_eq, pick_eq, pick_eq, pick_eq, pick_eq]
    rw [thing _ _ _ 1 (by rw [pick_eq, pick_gt _ _ _ (by decide)])]
    by_cases hc : a2 % 2 ≤ a1 % 2
    · rw [decide_eq_true hc]
      repeat' split
      all_goals first | rfl | contradiction | omega
    · rw [decide_eq_false hc]
      repeat' split
      all_goals first | rfl | contradiction | omega
theorem case5 (a1 a2 : Int) (h1 : 0 ≤ a1 ∧ a1 < 65536) (h2 : 0 ≤ a2 ∧ a2 < 65536) :
    decide_Best.f 1 [(⟨1, 2, a1⟩ : Inf), ⟨2, 2, a2⟩] [mk 1 0 P78 (-1) 100 0, mk 2 0 P78 (-1) 100 0] = some (if decide (a1 ≤ a2) = true then 0 else 1, true) ∧ decide_Best.f 1 [(⟨1, 2, a1⟩ : Inf), ⟨2, 2, a2⟩] [mk 2 0 P78 (-1) 100 0, mk 1 0 P78 (-1) 100 0] = some (if decide (a1 ≤ a2) = true then 1 else 0, true) := by
  have i1 := (info12 2 2 a1 a2).1
  have i2 := (info12 2 2 a1 a2).2
  constructor
  · rw [duo 1 2 0 0 (-1) (-1) 100 100 0 0 P78 P78 [(⟨1, 2, a1⟩ : Inf), ⟨2, 2, a2⟩] (inf_ok 2 2 a1 a2 (by omega) (by omega) (by omega) (by omega)) (show nums 1 0 (-1) 100 by unfold nums; omega) (show nums 2 0 (-1) 100 by unfold nums; omega) p78.1 p78.1, i1, i2]
    dsimp only
    congr 2
    rw [pick_eq, pick_eq, pick_eq, pick_eq, pick_eq, pick_eq]
    rw [thing _ _ _ 0 (by rw [pick_lt _ _ _ (by decide)])]
    by_cases hc : a1 ≤ a2
    · rw [decide_eq_true hc]
      repeat' split
      all_goals first | rfl | contradiction | omega
    · rw [decide_eq_false hc]
      repeat' split
      all_goals first | rfl | contradiction | omega
  · rw [duo 2 1 0 0 (-1) (-1) 100 100 0 0 P78 P78 [(⟨1, 2, a1⟩ : Inf), ⟨2, 2, a2⟩] (inf_ok 2 2 a1 a2 (by omega) (by omega) (by omega) (by omega)) (show nums 2 0 (-1) 100 by unfold nums; omega) (show nums 1 0 (-1) 100 by unfold nums; omega) p78.1 p78.1, i1, i2]
    dsimp only
    congr 2
    rw [pick_eq, pick_eq, pick_eq, pick_eq, pick_eq, pick_eq]
    rw [thing _ _ _ 1 (by rw [pick_gt _ _ _ (by decide)])]
    by_cases hc : a1 ≤ a2
    · rw [decide_eq_true hc]
      repeat' split
      all_goals first | rfl | contradiction | omega
    · rw [decide_eq_false hc]
      repeat' split
      all_goals first | rfl | contradiction | omega
theorem case6 (a1 a2 : Int) (h1 : 0 ≤ a1 ∧ a1 < 65536) (h2 : 0 ≤ a2 ∧ a2 < 65536) :
    decide_Best.f 1 [(⟨1, 2, 5⟩ : Inf), ⟨2, 2, 5⟩] [mk 1 0 P78 (-1) 100 (a1 % 3), mk 2 0 P78 (-1) 100 (a2 % 3)] = some (if (!(decide (a1 % 3 = 2)) || decide (a2 % 3 = 2)) = true then 0 else 1, true) ∧ decide_Best.f 1 [(⟨1, 2, 5⟩ : Inf), ⟨2, 2, 5⟩] [mk 2 0 P78 (-1) 100 (a2 % 3), mk 1 0 P78 (-1) 100 (a1 % 3)] = some (if (!(decide (a1 % 3 = 2)) || decide (a2 % 3 = 2)) = true then 1 else 0, true) := by
  have i1 := (info12 2 2 5 5).1
  have i2 := (info12 2 2 5 5).2
  constructor
  · rw [duo 1 2 0 0 (-1) (-1) 100 100 (a1 % 3) (a2 % 3) P78 P78 [(⟨1, 2, 5⟩ : Inf), ⟨2, 2, 5⟩] (inf_ok 2 2 5 5 (by omega) (by omega) (by omega) (by omega)) (show nums 1 0 (-1) 100 by unfold nums; omega) (show nums 2 0 (-1) 100 by unfold nums; omega) p78.1 p78.1, i1, i2]
    congr 2
    rw [thing _ _ _ 0 (by rw [pick_eq, pick_eq, pick_eq, pick_eq, pick_eq, pick_eq, pick_lt _ _ _ (by decide)])]
    by_cases hc : a1 % 3 = 2 <;> by_cases hd : a2 % 3 = 2 <;> simp [hc, hd]
  · rw [duo 2 1 0 0 (-1) (-1) 100 100 (a2 % 3) (a1 % 3) P78 P78 [(⟨1, 2, 5⟩ : Inf), ⟨2, 2, 5⟩] (inf_ok 2 2 5 5 (by omega) (by omega) (by omega) (by omega)) (show nums 2 0 (-1) 100 by unfold nums; omega) (show nums 1 0 (-1) 100 by unfold nums; omega) p78.1 p78.1, i1, i2]
    congr 2
    rw [thing _ _ _ 1 (by rw [pick_eq, pick_eq, pick_eq, pick_eq, pick_eq, pick_eq, pick_gt _ _ _ (by decide)])]
    by_cases hc : a1 % 3 = 2 <;> by_cases hd : a2 % 3 = 2 <;> simp [hc, hd]
theorem DecideSteps : BndDecideSteps.Pure := by
  intro x0 x1 x2 h0 h1 h2
  have h0 : 0 ≤ x0 ∧ x0 < 256 := by
    simp [Lit.wf, IntKind.min, IntKind.max, IntKind.signed, IntKind.bits] at h0
    omega
  have h1 : 0 ≤ x1 ∧ x1 < 65536 := by
    simp [Lit.wf, IntKind.min, IntKind.max, IntKind.signed, IntKind.bits] at h1
    omega
  have h2 : 0 ≤ x2 ∧ x2 < 65536 := by
    simp [Lit.wf, IntKind.min, IntKind.max, IntKind.signed, IntKind.bits] at h2
    omega
  have hok : stepsOk x0 x1 x2 := by
    refine ⟨h0, h1, h2, answers, ?_⟩
    have hq : x0.tmod 7 = 0 ∨ x0.tmod 7 = 1 ∨ x0.tmod 7 = 2 ∨ x0.tmod 7 = 3 ∨ x0.tmod 7 = 4 ∨ x0.tmod 7 = 5 ∨ x0.tmod 7 = 6 := by
      rw [Int.tmod_eq_emod_of_nonneg h0.1]
      omega
    rcases hq with hq | hq | hq | hq | hq | hq | hq <;> rw [hq]
    · exact case0 x1 x2 h1 h2
    · exact case1 x1 x2 h1 h2
    · exact case2 x1 x2 h1 h2
    · exact case3 x1 x2 h1 h2
    · exact case4 x1 x2 h1 h2
    · exact case5 x1 x2 h1 h2
    · exact case6 x1 x2 h1 h2
  unfold interregnumlaw15_DecideSteps.f
  rw [if_pos hok]
end Go.Proofs.Ytediicgkcgfghaa.Pure
