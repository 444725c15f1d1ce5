/- What any bytes are the path of, or of none; the plain part of the proof. Conditions: none. -/
import Derived.Test.YtpkckkmgnlhhcaaPathRPathReads
namespace Go.Proofs.Ytpkckkmgnlhhcaa.Pure
open Go.RowKit Go.Proofs.Ytpkckkmgnlhhcaa.PPathReads Go.Proofs.YtpkckkmgnlhhcaaW.PrintWords Go.Proofs.YtpkckkmgnlhhcaaW.PrintLast Go.Proofs.YtpkckkmgnlhhcaaW.PrintMore Go.Proofs.Ytpkckkmgnlhhcaa.Pre Go.Proofs.Ytpkckkmgnlhhcaa Go.Proofs.Ytpkckkmgnlhhcaa.PathPathReads
theorem PathReads : interregnumlaw06_PathReads.Pure := by
  intro b hm hl hw
  have hb := Bytes.wf hw
  refine ⟨50000, ?_⟩
  unfold interregnumlaw06_PathReads.f
  rw [answers _ (by omega)]
  split
  · rfl
  · rename_i hlen
    rw [Decode b hb (by omega) _ (by omega), ReadP b hb (by omega) _ (by omega)]
    simp only [Option.bind_some, if_true, beq_self_eq_true]
    cases h : dec b.length b with
    | none =>
      simp only [fin]
      rw [SameP [] (by rw [List.length_nil]; omega) (by unfold tot; omega) _ (by rw [List.length_nil]; unfold tot; omega)]
      rfl
    | some l =>
      obtain ⟨e1, e2, e3⟩ := enc_dec _ b l hb (Nat.le_refl _) h
      by_cases hg : path_Good.g l 0 = true
      · simp only [fin, List.nil_append]
        rw [if_pos hg]
        simp only []
        rw [SameP l (by omega) (by omega) _ (by omega), Encode l (by omega) (by omega) _ (by omega), if_pos hg, e1]
        simp only [Option.bind_some, if_true]
        rw [SameB b (by omega) _ (by omega)]
        rfl
      · simp only [fin, List.nil_append]
        rw [if_neg hg]
        simp only []
        rw [SameP [] (by rw [List.length_nil]; omega) (by unfold tot; omega) _ (by rw [List.length_nil]; unfold tot; omega)]
        rfl
end Go.Proofs.Ytpkckkmgnlhhcaa.Pure
