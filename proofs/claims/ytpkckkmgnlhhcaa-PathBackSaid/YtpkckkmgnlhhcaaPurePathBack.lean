/- A good path comes back of its bytes; the plain part of the proof. Conditions: none. -/
import Derived.Test.YtpkckkmgnlhhcaaBndPathBack
import Derived.Test.YtpkckkmgnlhhcaaPathDPathBack
namespace Go.Proofs.Ytpkckkmgnlhhcaa.Pure
open Go.RowKit Go.Proofs.Ytpkckkmgnlhhcaa.PPathBack Go.Proofs.YtpkckkmgnlhhcaaW.PrintWords Go.Proofs.YtpkckkmgnlhhcaaW.PrintLast Go.Proofs.YtpkckkmgnlhhcaaW.PrintMore Go.Proofs.Ytpkckkmgnlhhcaa.Pre Go.Proofs.Ytpkckkmgnlhhcaa Go.Proofs.Ytpkckkmgnlhhcaa.PathPathBack
theorem PathBack : BndPathBack.Pure := by
  intro l hl
  obtain ⟨hl, hy⟩ := hl
  refine ⟨30001 + l.length, ?_⟩
  unfold interregnumlaw06_PathBack.f
  rw [Small l hl (fun y h => (hy y h).2.1) _ (by omega), Option.bind_some]
  by_cases hs : l.length + tot l < 3000
  · rw [decide_eq_true hs, if_pos rfl, Encode l (by omega) (by omega) _ (by omega), show path_Good.f l = some (path_Good.g l 0) from rfl, GoodPath l (by omega) _ (by omega) (by omega), RefPath l (by omega) (by omega) _ (by omega)]
    simp only [Option.bind_some]
    have he := enc_len l
    rw [if_neg (by simp), SameB _ (by split <;> first | omega | (rw [List.length_nil]; omega)) _ (by split <;> first | omega | (rw [List.length_nil]; omega)), Option.bind_some, show 30001 + l.length = (30000 + l.length) + 1 by omega]
    obtain ⟨k, hk⟩ : ∃ k, k = 30000 + l.length := ⟨_, rfl⟩
    rw [← hk]
    rw [interregnumlaw06_PathBack.j0]
    rw [if_neg (by simp), GoodPath l (by omega) _ (by omega) (by omega), Option.bind_some, answers _ (by omega)]
    by_cases h : path_Good.g l 0 = true
    · rw [if_pos h, if_pos h, Back l (by omega) (by omega) h _ (by omega)]
      simp only [Option.bind_some, if_true]
      rw [SameP l (by omega) (by omega) _ (by omega)]
      rfl
    · rw [if_neg h, if_neg h]
      rfl
  · rw [decide_eq_false hs, if_neg (by simp), answers _ (by omega)]
    rfl
end Go.Proofs.Ytpkckkmgnlhhcaa.Pure
