/- How many samples a pixel of a colour has, by the program and by the document's answer. No conditions. -/
import Derived.Test.YtlonbchidopcpaaPL10x9
import Derived.Test.YtlonbchidopcpaaPL10x13
import Derived.Test.YtlonbchidopcpaaPureIdx
namespace Go.Proofs.Ytlonbchidopcpaa.Pure
open Go.RowKit Go.Proofs.YtlonbchidopcpaaW.PrintWords Go.Proofs.YtlonbchidopcpaaW.PrintLast Go.Proofs.YtlonbchidopcpaaW.PrintMore Go.Proofs.Ytlonbchidopcpaa.PL10
set_option linter.unusedVariables false
set_option linter.unusedSimpArgs false
def smp (c : Int) : Int := if c = 0 ∨ c = 3 then 1 else if c = 2 then 3 else if c = 4 then 2 else if c = 6 then 4 else 0
theorem Samples_ev (c : Int) : Ev (fun k => head_Samples.f k c) (smp c) := by
  unfold head_Samples.f
  refine Ev.bind (index_ev [0, 4, 2, 6] c (by simp)) ?_
  unfold smp
  simp only [idx]
  by_cases h3 : c = 3
  · subst h3; exact ev_same (Ev.now _) (by decide +kernel)
  · rw [if_neg h3]
    by_cases h0 : c = 0
    · subst h0; exact ev_same (Ev.now _) (by decide +kernel)
    · by_cases h4 : c = 4
      · subst h4; exact ev_same (Ev.now _) (by decide +kernel)
      · by_cases h2 : c = 2
        · subst h2; exact ev_same (Ev.now _) (by decide +kernel)
        · by_cases h6 : c = 6
          · subst h6; exact ev_same (Ev.now _) (by decide +kernel)
          · rw [if_neg h0, if_neg h4, if_neg h2, if_neg h6, if_neg (by omega), if_neg h2, if_neg h4, if_neg h6]; exact ev_same (Ev.now _) (by decide +kernel)
theorem rSamples_ev (c : Int) : Ev (fun k => vitrineref08_Samples.f k c) (smp c) := by
  have hj : ∀ b : Bool, b = decide (c = 0 ∨ c = 3) → Ev (fun k => vitrineref08_Samples.j0 k c b) (smp c) := by
    intro b hb
    refine Ev.step (f := fun _ => some (smp c)) (fun k => ?_) (Ev.now _)
    simp only [vitrineref08_Samples.j0]
    unfold smp
    by_cases h : c = 0 ∨ c = 3
    · rw [if_pos h, hb, decide_eq_true h, if_pos rfl]
    · rw [if_neg h, hb, decide_eq_false h, if_neg (by decide)]
      by_cases h4 : c = 4
      · subst h4; rfl
      · by_cases h2 : c = 2
        · subst h2; rfl
        · rw [if_neg h4, if_neg h2, if_neg h2, if_neg h4]
          by_cases h6 : c = 6
          · rw [if_pos h6, if_pos h6]
          · rw [if_neg h6, if_neg h6]
  unfold vitrineref08_Samples.f
  by_cases h0 : c = 0
  · simp only [h0, if_true]
    have := hj true (by rw [decide_eq_true (.inl h0)])
    rw [h0] at this
    exact this
  · simp only [h0, if_false]
    refine hj (c == 3) ?_
    by_cases h3 : c = 3
    · subst h3; rfl
    · rw [decide_eq_false (by omega)]
      exact beq_eq_false_iff_ne.mpr h3

end Go.Proofs.Ytlonbchidopcpaa.Pure
