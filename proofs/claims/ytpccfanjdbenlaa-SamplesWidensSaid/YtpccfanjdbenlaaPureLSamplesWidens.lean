/- The plain law SamplesWidens of layer 11 (samples). Conditions: whole numbers of 64 bits, strings and lists as long as the model allows. -/
import Derived.Test.YtpccfanjdbenlaaPM11x16
import Derived.Test.YtpccfanjdbenlaaPureM11A
namespace Go.Proofs.Ytpccfanjdbenlaa.Pure
open Go.RowKit Go.Proofs.YtpccfanjdbenlaaW.PrintWords Go.Proofs.YtpccfanjdbenlaaW.PrintLast Go.Proofs.YtpccfanjdbenlaaW.PrintMore Go.Proofs.Ytpccfanjdbenlaa.PM11
set_option linter.unusedVariables false
set_option linter.unusedSimpArgs false
theorem SamplesWidens : ∀ (a0 : Int) (a1 : Int), ((Lit.int .i64 a0).wf = true) → ((Lit.int .i64 a1).wf = true) → ∃ k, vitrinelaw11_SamplesWidens.f k a0 a1 = some true := by
  intro v d _ _
  refine Ev.rounds ?_
  unfold vitrinelaw11_SamplesWidens.f
  refine Ev.bind (Wide_ev v d) ?_
  simp only [rWide_f, Option.bind_some, if_true]
  exact awake_id

end Go.Proofs.Ytpccfanjdbenlaa.Pure
