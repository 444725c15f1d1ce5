/- Of an address and two lengths, the prefix of the lesser one covers that of the greater one; none covers another one of its length; the plain part of the proof. Conditions: none. -/
import Derived.Test.YtndmlmfkbkefcaaPreAPrefixHost
namespace Go.Proofs.Ytndmlmfkbkefcaa.Pure
open Go.RowKit Go.Proofs.Ytndmlmfkbkefcaa.PPrefixHost Go.Proofs.YtndmlmfkbkefcaaW.PrintWords Go.Proofs.YtndmlmfkbkefcaaW.PrintLast Go.Proofs.YtndmlmfkbkefcaaW.PrintMore Go.Proofs.Ytndmlmfkbkefcaa.Pre Go.Proofs.Ytndmlmfkbkefcaa

theorem PrefixHost_answers : interregnumlaw05_answers.f 40 = some true := by decide +kernel
theorem PrefixHost_j0 (a b k l : Int) (ha : U32 a) (hb : U32 b) (h0 : 0 ≤ k) (hkl : k ≤ l) (hl : l ≤ 32) : interregnumlaw05_PrefixHost.j0 41 a b k l = some true := by
  simp only [interregnumlaw05_PrefixHost.j0]
  rw [PrePrefixHost.Make a k ha, PrePrefixHost.Make a l ha, PrePrefixHost.Make b k hb, PrefixHost_answers, if_pos (by omega), if_pos (by omega), if_pos (by omega)]
  simp only [Option.bind_some, if_true]
  have hp := top_U32 a k ha
  have hq := top_U32 a l ha
  have hr := top_U32 b k hb
  have op := Ok_top a k h0 (by omega)
  have oq := Ok_top a l (by omega) hl
  have or' := Ok_top b k h0 (by omega)
  have t1 := top_top a l k h0 hkl hl
  have t2 := top_top b k k h0 (Int.le_refl _) (by omega)
  rw [PrePrefixHost.Covers _ _ _ _ hp hq, PrePrefixHost.Covers _ _ _ _ hq hp, PrePrefixHost.Covers _ _ _ _ hp hr, t1, t2]
  rw [decide_eq_true (⟨op, oq, hkl, rfl⟩ : Ok (top a k) k ∧ Ok (top a l) l ∧ k ≤ l ∧ top a k = top a k)]
  simp only [Option.bind_some, if_true]
  have e2 : decide (Ok (top a l) l ∧ Ok (top a k) k ∧ l ≤ k ∧ top (top a k) l = top a l) = (k == l) := by
    rw [Bool.eq_iff_iff, decide_eq_true_eq, beq_iff_eq]
    constructor
    · rintro ⟨_, _, h, _⟩; omega
    · rintro rfl; exact ⟨op, op, Int.le_refl _, Ok_eq op⟩
  rw [e2]
  simp only [beq_self_eq_true, if_true, Bool.and_true]
  congr 1
  rw [beq_iff_eq, Bool.eq_iff_iff, decide_eq_true_eq, beq_iff_eq]
  constructor
  · rintro ⟨_, _, _, h⟩; exact h.symm
  · intro h; exact ⟨op, or', Int.le_refl _, h.symm⟩
theorem PrefixHost : interregnumlaw05_PrefixHost.Pure := by
  intro a b n m h0 h1 h2 h3
  have ha := wf_u32 h0
  have hb := wf_u32 h1
  have hn := wf_u8 h2
  have hm := wf_u8 h3
  refine ⟨41, ?_⟩
  unfold interregnumlaw05_PrefixHost.f
  rw [Int.tmod_eq_emod_of_nonneg hn.1, Int.tmod_eq_emod_of_nonneg hm.1, w64 _ (by omega) (by omega), w64 _ (by omega) (by omega)]
  split
  · exact PrefixHost_j0 a b _ _ ha hb (by omega) (by omega) (by omega)
  · exact PrefixHost_j0 a b _ _ ha hb (by omega) (by omega) (by omega)
end Go.Proofs.Ytndmlmfkbkefcaa.Pure
