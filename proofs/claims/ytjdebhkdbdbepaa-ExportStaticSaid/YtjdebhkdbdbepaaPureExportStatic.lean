/- A static route is told to all, but where a policy denies it; the plain part of the proof. Conditions: none. -/
import Derived.Test.YtjdebhkdbdbepaaBndExportStatic
import Derived.Test.YtjdebhkdbdbepaaPreVExportStatic
namespace Go.Proofs.Ytjdebhkdbdbepaa.Pure
open Go.RowKit Go.Proofs.Ytjdebhkdbdbepaa.PExportStatic Go.Proofs.YtjdebhkdbdbepaaW.PrintWords Go.Proofs.YtjdebhkdbdbepaaW.PrintLast Go.Proofs.YtjdebhkdbdbepaaW.PrintMore Go.Proofs.Ytjdebhkdbdbepaa.Pre Go.Proofs.Ytjdebhkdbdbepaa Go.Proofs.Ytjdebhkdbdbepaa.PreExportStatic
abbrev Rule := S87
theorem wf_i64 {x : Int} (h : (Lit.int .i64 x).wf = true) : -9223372036854775808 ≤ x ∧ x ≤ 9223372036854775807 := by
  simpa [Lit.wf, IntKind.min, IntKind.max, IntKind.signed, IntKind.bits] using h
/-- Is a rule for a prefix? -/
def Meets (a n : Int) (x : Rule) : Prop := (Ok x.f0.f0 x.f0.f1 ∧ Ok a n ∧ x.f0.f1 ≤ n ∧ top a x.f0.f1 = x.f0.f0) ∧ x.f1 ≤ n ∧ n ≤ x.f2
instance (a n : Int) (x : Rule) : Decidable (Meets a n x) := inferInstanceAs (Decidable (_ ∧ _))
theorem meetsB_eq (a n : Int) (x : Rule) (ha : U32 a) (hx : U32 x.f0.f0) : meetsB a n x = decide (Meets a n x) := by
  have : meetsB a n x = true ↔ Meets a n x := by
    unfold meetsB Meets
    rw [Covers _ _ _ _ hx ha, Option.getD_some]
    simp only [Bool.and_eq_true, decide_eq_true_eq, ge_iff_le]
    exact ⟨fun h => ⟨h.1.1, h.1.2, h.2⟩, fun h => ⟨⟨h.1, h.2.1⟩, h.2.2⟩⟩
  rw [Bool.eq_iff_iff, decide_eq_true_eq]
  exact this
theorem Apply_cons (x : Rule) (l : List Rule) (a n : Int) (ha : U32 a) (hx : U32 x.f0.f0) :
    policy_Apply.f (x :: l) a n = if Meets a n x then (if x.f3 = true then some (0, false) else some (x.f4, true)) else policy_Apply.f l a n := by
  show policy_Apply.g (x :: l) a n = _
  unfold policy_Apply.g
  rw [meetsB_eq a n x ha hx]
  simp only [decide_eq_true_eq]
  rfl
theorem Apply_total (l : List Rule) (a n : Int) : ∃ p q, policy_Apply.f l a n = some (p, q) := by
  show ∃ p q, policy_Apply.g l a n = some (p, q)
  induction l with
  | nil => exact ⟨_, _, rfl⟩
  | cons x l ih =>
    unfold policy_Apply.g
    split
    · split <;> exact ⟨_, _, rfl⟩
    · exact ih
def U (l : List Rule) : Prop := ∀ x ∈ l, U32 x.f0.f0
theorem rd_at (l : List Rule) (i : Nat) (hi : i < l.length) : rd_T87 l (i : Int) = l[i] := by
  unfold rd_T87
  rw [List.getD_eq_getElem?_getD, Int.toNat_natCast, List.getElem?_eq_getElem hi]
  rfl
theorem Apply_l0 (l : List Rule) (hu : U l) (hl : l.length ≤ 100) (a n : Int) (ha : U32 a) (d : Nat) : ∀ (k i : Nat), i + d = l.length → interregnumref11_Apply.l0 (k + 50 + 2 * d) l (i : Int) a n = policy_Apply.f (l.drop i) a n := by
  induction d with
  | zero =>
    intro k i hi
    rw [show k + 50 + 2 * 0 = (k + 49) + 1 by omega]
    conv => lhs; unfold interregnumref11_Apply.l0
    rw [if_neg (by omega), List.drop_of_length_le (by omega)]
    rfl
  | succ d ih =>
    intro k i hi
    have hlt : i < l.length := by omega
    have hx := hu l[i] (List.getElem_mem hlt)
    rw [show k + 50 + 2 * (d + 1) = (k + 50 + 2 * d + 1) + 1 by omega]
    conv => lhs; unfold interregnumref11_Apply.l0
    have e1 : wrap64 ((i : Int) + 1) = ((i + 1 : Nat) : Int) := by rw [w64 _ (by omega) (by omega)]; omega
    rw [if_pos (by omega), if_pos (by omega), rd_at l i hlt, refCovers _ _ _ _ hx ha _ (by omega), Option.bind_some, List.drop_eq_getElem_cons hlt, Apply_cons _ _ a n ha hx]
    have e : Meets a n l[i] ↔ (Ok l[i].f0.f0 l[i].f0.f1 ∧ Ok a n ∧ l[i].f0.f1 ≤ n ∧ top a l[i].f0.f1 = l[i].f0.f0) ∧ l[i].f1 ≤ n ∧ n ≤ l[i].f2 := Iff.rfl
    have skip : interregnumref11_Apply.j1 (k + 50 + 2 * d + 1) l (i : Int) false a n = policy_Apply.f (l.drop (i + 1)) a n := by
      simp only [interregnumref11_Apply.j1]
      rw [if_neg (by simp), e1]
      exact ih k (i + 1) (by omega)
    by_cases hc : Ok l[i].f0.f0 l[i].f0.f1 ∧ Ok a n ∧ l[i].f0.f1 ≤ n ∧ top a l[i].f0.f1 = l[i].f0.f0
    · rw [decide_eq_true hc, if_pos rfl]
      by_cases hm : l[i].f1 ≤ n
      · rw [if_pos hm]
        by_cases hM : n ≤ l[i].f2
        · rw [decide_eq_true hM, if_pos (e.2 ⟨hc, hm, hM⟩)]
          simp only [interregnumref11_Apply.j1]
          rw [if_pos trivial, if_pos (by omega), if_pos (by omega), rd_at l i hlt]
        · rw [decide_eq_false hM, if_neg (fun h => hM (e.1 h).2.2)]
          exact skip
      · rw [if_neg hm, if_neg (fun h => hm (e.1 h).2.1)]
        exact skip
    · rw [decide_eq_false hc, if_neg (by simp), if_neg (fun h => hc (e.1 h).1)]
      exact skip
/-- The reference's Hop answers for any address, as the program's. -/
theorem hop_total (a : Int) : ∃ h, interregnumref05_Hop.f a = some h := by
  unfold interregnumref05_Hop.f
  split
  · exact ⟨_, rfl⟩
  · split <;> exact ⟨_, rfl⟩
theorem hop_eq (a : Int) : attr_Hop.f a = interregnumref05_Hop.f a := rfl
theorem path_nil : path_Good.f [] = some true := by decide
theorem path_one (a : Int) (h1 : 1 ≤ a) (h2 : a ≤ 4294967295) : path_Good.f [⟨false, [a]⟩] = some true := by
  have h : oddB a = false := by
    simp [oddB, h1, h2]
  unfold path_Good.f path_Good.g
  rw [if_neg (by simp [h])]
  show some (path_Good.g [] (wrap64 (0 + 1))) = some true
  decide +kernel
theorem good_one (P : List S69) (nx md pr : Int) (k : Nat) (hk : 2 ≤ k) (hp : path_Good.f P = some true) (hn : interregnumref05_Hop.f nx = some true) (h1 : md = -1) (h2 : -1 ≤ pr) (h3 : pr ≤ 4294967295) : attr_Good.f k 0 P nx md pr [] [] = some true := by
  subst h1
  obtain ⟨k, rfl⟩ : ∃ j, k = j + 2 := ⟨k - 2, by omega⟩
  have e : ∀ i : Int, i < (([] : List S73).length : Int) ↔ i < 0 := fun i => Iff.rfl
  unfold attr_Good.f
  rw [if_neg (by omega), if_neg (by omega), hp, hop_eq, hn]
  simp [attr_Good.j0, attr_Good.l0, h2, h3]
theorem same_one (a : Int) (k : Nat) (hk : 10 ≤ k) : interregnumref05_SamePath.f k [⟨false, [a]⟩] [⟨false, [a]⟩] = some true := by
  obtain ⟨k, rfl⟩ : ∃ j, k = j + 10 := ⟨k - 10, by omega⟩
  have w1 : wrap64 1 = 1 := by decide +kernel
  simp [interregnumref05_SamePath.f, interregnumref05_SamePath.l0, interregnumref05_SamePath.j1, interregnumref05_SamePath.l1, rd_T69, w1]
theorem ExportStatic : BndExportStatic.Pure := by
  intro c tt p nx hc ht hp hn
  have ha := wf_u32 hp.1
  have hu : U tt.f3 := fun x hx => wf_u32 (ht.2.2.2.2 x hx).1.1
  obtain ⟨h1, e1⟩ := hop_total nx
  obtain ⟨h2, e2⟩ := hop_total c.f2
  refine ⟨50 + 2 * tt.f3.length, ?_⟩
  unfold interregnumlaw16_ExportStatic.f
  rw [e1, Option.bind_some, e2, Option.bind_some]
  split
  · rfl
  · rename_i hout
    simp only [Bool.or_eq_true, Bool.not_eq_true', decide_eq_true_eq, not_or, Int.not_lt, Bool.not_eq_false] at hout
    obtain ⟨q1, q2, q3, q4, q5, q6⟩ := hout
    obtain ⟨v, b, hv⟩ := Apply_total tt.f3 p.f0 p.f1
    have hA := Apply_l0 tt.f3 hu (by omega) p.f0 p.f1 ha tt.f3.length 0 0 (by omega)
    rw [List.drop_zero, show 0 + 50 + 2 * tt.f3.length = 50 + 2 * tt.f3.length by omega] at hA
    have hA2 : interregnumref11_Apply.f (50 + 2 * tt.f3.length) tt.f3 p.f0 p.f1 = some (v, b) := hA.trans hv
    rw [hv, Option.bind_some, if_pos]
    refine ⟨by rw [hA2]; rfl, fun _ => ⟨fun _ => ?_, fun _ => ⟨?_, ?_⟩⟩⟩
    · exact good_one _ _ _ _ _ (by omega) path_nil (by rw [e1, q2]) rfl (by decide) (by decide)
    · exact good_one _ _ _ _ _ (by omega) (path_one c.f0 (by omega) (by omega)) (by rw [e2, q3]) rfl (by decide) (by decide)
    · exact same_one c.f0 _ (by omega)
end Go.Proofs.Ytjdebhkdbdbepaa.Pure
