/- The plain law SamplesPacks of layer 11 (samples). Conditions: whole numbers of 64 bits, strings and lists as long as the model allows. -/
import Derived.Test.YtpccfanjdbenlaaPM11x14
import Derived.Test.YtpccfanjdbenlaaPureM11A
import Derived.Test.YtpccfanjdbenlaaPureM11R
namespace Go.Proofs.Ytpccfanjdbenlaa.Pure
open Go.RowKit Go.Proofs.YtpccfanjdbenlaaW.PrintWords Go.Proofs.YtpccfanjdbenlaaW.PrintLast Go.Proofs.YtpccfanjdbenlaaW.PrintMore Go.Proofs.Ytpccfanjdbenlaa.PM11
set_option linter.unusedVariables false
set_option linter.unusedSimpArgs false
theorem SamplesPacks : ∀ (a0 : Int) (l1 : List Int), ((Lit.int .i64 a0).wf = true) → (l1.length ≤ maxLen ∧ l1.length * 8 ≤ 140737488351232 ∧ ∀ y_ ∈ l1, (fun x_ : Int => (Lit.int .i64 x_).wf = true) y_) → ∃ k, vitrinelaw11_SamplesPacks.f k a0 l1 = some true := by
  intro d l _ hl
  have hl1 : l.length < 17592186044416 := by omega
  have hl2 : l.length ≤ 17592186044416 := by omega
  refine Ev.rounds ?_
  unfold vitrinelaw11_SamplesPacks.f
  by_cases h : (l.length : Int) > 5000
  · simp only [h, if_true]
    exact awake_id
  · simp only [h, if_false, Option.bind_some, List.nil_append, List.length_nil, Nat.zero_add, hl1, if_true]
    refine Ev.bind (Pack_ev d hl2) (Ev.bind (rPack_ev d hl2) ?_)
    simp only [if_true]
    refine Ev.bind (ints_ev l hl2) ?_
    simp only [if_true]
    exact awake_id

end Go.Proofs.Ytpccfanjdbenlaa.Pure
