/- What a peer of another AS is told begins with our number; what one of ours is told has a Pref; the plain part of the proof. Conditions: none. -/
import Derived.Test.YtjdebhkdbdbepaaBndExportLoops
import Derived.Test.YtjdebhkdbdbepaaExpLExportLoops
namespace Go.Proofs.Ytjdebhkdbdbepaa.Pure
open Go.RowKit Go.Proofs.Ytjdebhkdbdbepaa.PExportLoops Go.Proofs.YtjdebhkdbdbepaaW.PrintWords Go.Proofs.YtjdebhkdbdbepaaW.PrintLast Go.Proofs.YtjdebhkdbdbepaaW.PrintMore Go.Proofs.Ytjdebhkdbdbepaa.Pre Go.Proofs.Ytjdebhkdbdbepaa Go.Proofs.Ytjdebhkdbdbepaa.PathExportLoops Go.Proofs.Ytjdebhkdbdbepaa.BndExportLoops
theorem Apply_total (l : List S87) (a n : Int) : ∃ p q, policy_Apply.f l a n = some (p, q) := by
  show ∃ p q, policy_Apply.g l a n = some (p, q)
  induction l with
  | nil => exact ⟨_, _, rfl⟩
  | cons x l ih =>
    unfold policy_Apply.g
    split
    · split <;> exact ⟨_, _, rfl⟩
    · exact ih
theorem ExportLoops : BndExportLoops.Pure := by
  intro c q x fr hc hq hx hf
  obtain ⟨hx1, hx2, ⟨ho, ⟨h4, hy4⟩, hnx, hmd, hpr, ⟨h8, hy8⟩, ⟨h9, hy9⟩⟩, hst⟩ := hx
  obtain ⟨K, hK⟩ : ∃ K, K = 100000 + x.f2.f1.length + x.f2.f6.length := ⟨_, rfl⟩
  refine ⟨K + 1, ?_⟩
  unfold interregnumlaw16_ExportLoops.f
  rw [Small16 x.f2.f0 x.f2.f1 x.f2.f2 x.f2.f3 x.f2.f4 x.f2.f5 x.f2.f6 h4 (fun y h => (hy4 y h).2.1) h8 h9 (fun y h => (hy9 y h).2.2.1) (K + 1) (by omega), Option.bind_some]
  split
  · rfl
  · rename_i hc2
    simp only [Bool.or_eq_true, Bool.not_eq_true', decide_eq_true_eq, decide_eq_false_iff_not, not_or, Decidable.not_not] at hc2
    obtain ⟨sa, _⟩ := hc2
    obtain ⟨v, b, hv⟩ := Apply_total q.f3 x.f0.f0 x.f0.f1
    rw [hv, Option.bind_some]
    have hy2 : ∀ y ∈ x.f2.f1, y.f1.length < 4000 := fun y h => by have := tot_mem x.f2.f1 y h; omega
    have hgo : canGo x.f2.f1 x.f2.f5 x.f2.f6 := ⟨by omega, fun y h => clone_int _ (by have := hy2 y h; omega), hy2, clone_u32 _ (by omega), by omega, fun r h => clone_bytes _ (by have := totR_mem x.f2.f6 r h; omega)⟩
    have hlen : (outA c.f0 c.f2 q.f1 x.f2.f0 x.f2.f1 x.f2.f2 x.f2.f3 x.f2.f4 x.f2.f5 x.f2.f6).2.2.2.2.2.2 = x.f2.f6 := by unfold outA; split <;> rfl
    obtain ⟨gd, hg, hgp⟩ := good_total (outA c.f0 c.f2 q.f1 x.f2.f0 x.f2.f1 x.f2.f2 x.f2.f3 x.f2.f4 x.f2.f5 x.f2.f6).1 (outA c.f0 c.f2 q.f1 x.f2.f0 x.f2.f1 x.f2.f2 x.f2.f3 x.f2.f4 x.f2.f5 x.f2.f6).2.1 (outA c.f0 c.f2 q.f1 x.f2.f0 x.f2.f1 x.f2.f2 x.f2.f3 x.f2.f4 x.f2.f5 x.f2.f6).2.2.1 (outA c.f0 c.f2 q.f1 x.f2.f0 x.f2.f1 x.f2.f2 x.f2.f3 x.f2.f4 x.f2.f5 x.f2.f6).2.2.2.1 (outA c.f0 c.f2 q.f1 x.f2.f0 x.f2.f1 x.f2.f2 x.f2.f3 x.f2.f4 x.f2.f5 x.f2.f6).2.2.2.2.1 (outA c.f0 c.f2 q.f1 x.f2.f0 x.f2.f1 x.f2.f2 x.f2.f3 x.f2.f4 x.f2.f5 x.f2.f6).2.2.2.2.2.1 (outA c.f0 c.f2 q.f1 x.f2.f0 x.f2.f1 x.f2.f2 x.f2.f3 x.f2.f4 x.f2.f5 x.f2.f6).2.2.2.2.2.2 (by rw [hlen]; omega) (K + 1) (by rw [hlen]; omega)
    rw [hg, Option.bind_some, if_pos]
    refine ⟨hgo, fun hs hgd => ⟨?_, fun hne => ⟨first_pre _ _ _ (by omega), ?_, ?_⟩, fun he => ⟨first_some _ _ (by omega), SameP _ (by omega) (by omega) _ (by omega), ?_⟩⟩⟩
    · intro e
      unfold stopB at hs
      rw [e, beq_self_eq_true, Bool.true_or] at hs
      cases hs
    · have hle := lenV_le x.f2.f1
      have hp := prependV_len x.f2.f1 c.f0
      have ht := tot_pre x.f2.f1 c.f0
      rw [LenV _ (by omega) _ (by omega), LenV _ (by omega) _ (by omega), lenV_pre, Option.map_some, wn _ (by omega)]
    · rw [LenV _ (by omega) _ (by omega)]; rfl
    · have := hgp hgd
      unfold outA at this
      rw [if_pos he] at this
      dsimp only at this
      split at this <;> rename_i hp1
      · rw [if_pos hp1]; decide
      · rw [if_neg hp1]; omega
end Go.Proofs.Ytjdebhkdbdbepaa.Pure
