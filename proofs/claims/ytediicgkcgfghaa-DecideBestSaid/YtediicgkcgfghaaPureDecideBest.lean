/- What the choice answers is what the reference answers, for all routes that are not too large. -/
import Derived.Test.YtediicgkcgfghaaBndDecideBest
import Derived.Test.YtediicgkcgfghaaDecBDecideBest
namespace Go.Proofs.Ytediicgkcgfghaa.Pure
open Go.RowKit Go.Proofs.Ytediicgkcgfghaa.PDecideBest Go.Proofs.YtediicgkcgfghaaW.PrintWords Go.Proofs.YtediicgkcgfghaaW.PrintLast Go.Proofs.Ytediicgkcgfghaa.DecDecideBest
theorem DecideBest : BndDecideBest.Pure := by
  intro x0 x1 x2 _ h1 h2
  obtain ⟨b, hb, hok⟩ := small_ev x2 h2
  have un : ∀ k c, interregnumlaw15_DecideBest.j0 (k + 1) x0 x1 x2 c = if c = true then ((interregnumlaw15_answers.f).bind fun t184 => (some t184)) else ((decide_Best.f x0 x1 x2).bind fun bt185 => ((interregnumlaw15_infos.f k x1).bind fun t187 => ((interregnumref11_Best.f k x0 t187 x2).bind fun bt190 => ((interregnumlaw15_answers.f).bind fun t192 => (if t192 = true then (if bt185.1 = bt190.1 then (some (bt185.2 == bt190.2)) else (some false)) else (some false)))))) := fun _ _ => rfl
  have jT : Evt (fun k => interregnumlaw15_DecideBest.j0 k x0 x1 x2 true) true := by
    refine Evt.succ (Evt.now (fun k => ?_))
    show interregnumlaw15_DecideBest.j0 (k + 1) x0 x1 x2 true = _
    rw [un, if_pos rfl, answers]
    rfl
  have jF : b = true → Evt (fun k => interregnumlaw15_DecideBest.j0 k x0 x1 x2 false) true := fun hbt => by
    obtain ⟨hl, hr⟩ := hok hbt
    have hB := best_some x0 x1 h1.2 x2 (by omega) hr
    have hI := infos_ev x1 (by have := h1.1; omega)
    have hR := best_ev x0 x1 x2 (by have := h1.1; omega) h1.2 (by omega) hr
    refine Evt.succ ((Evt.bind (h := fun k t187 => (interregnumref11_Best.f k x0 t187 x2).bind fun bt190 => ((interregnumlaw15_answers.f).bind fun t192 => (if t192 = true then (if (bestV x0 x1 x2).1 = bt190.1 then (some ((bestV x0 x1 x2).2 == bt190.2)) else (some false)) else (some false)))) hI (Evt.bind (h := fun k (bt190 : Int × Bool) => ((interregnumlaw15_answers.f).bind fun t192 => (if t192 = true then (if (bestV x0 x1 x2).1 = bt190.1 then (some ((bestV x0 x1 x2).2 == bt190.2)) else (some false)) else (some false)))) hR (Evt.now (fun k => ?_)))).of (fun k => ?_))
    · show ((interregnumlaw15_answers.f).bind fun t192 => (if t192 = true then (if (bestV x0 x1 x2).1 = (bestV x0 x1 x2).1 then (some ((bestV x0 x1 x2).2 == (bestV x0 x1 x2).2)) else (some false)) else (some false))) = some true
      rw [answers]
      show (if true = true then (if (bestV x0 x1 x2).1 = (bestV x0 x1 x2).1 then (some ((bestV x0 x1 x2).2 == (bestV x0 x1 x2).2)) else (some false)) else (some false)) = some true
      rw [if_pos rfl, if_pos rfl]
      simp
    · show interregnumlaw15_DecideBest.j0 (k + 1) x0 x1 x2 false = _
      rw [un, if_neg (by decide), hB]
      rfl
  refine Evt.some ((Evt.bind (h := fun k t183 => if t183 = true then (interregnumlaw15_DecideBest.j0 k x0 x1 x2 (decide ((x1.length : Int) > 20))) else (interregnumlaw15_DecideBest.j0 k x0 x1 x2 true)) hb ?_).of (fun k => rfl))
  cases b with
  | false => exact jT.of (fun k => by rw [if_neg (by decide)])
  | true =>
    by_cases h20 : (x1.length : Int) > 20
    · exact jT.of (fun k => by rw [if_pos rfl, decide_eq_true h20])
    · exact (jF rfl).of (fun k => by rw [if_pos rfl, decide_eq_false h20])
end Go.Proofs.Ytediicgkcgfghaa.Pure
