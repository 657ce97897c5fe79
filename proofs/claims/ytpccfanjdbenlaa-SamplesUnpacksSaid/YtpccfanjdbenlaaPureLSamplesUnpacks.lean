/- The plain law SamplesUnpacks of layer 11 (samples). Conditions: whole numbers of 64 bits, strings and lists as long as the model allows. -/
import Derived.Test.YtpccfanjdbenlaaPM11x12
import Derived.Test.YtpccfanjdbenlaaPureM11A
import Derived.Test.YtpccfanjdbenlaaPureM11P
namespace Go.Proofs.Ytpccfanjdbenlaa.Pure
open Go.RowKit Go.Proofs.YtpccfanjdbenlaaW.PrintWords Go.Proofs.YtpccfanjdbenlaaW.PrintLast Go.Proofs.YtpccfanjdbenlaaW.PrintMore Go.Proofs.Ytpccfanjdbenlaa.PM11
set_option linter.unusedVariables false
set_option linter.unusedSimpArgs false
theorem unpAll_len (row : ByteArray) (d n : Int) : (unpAll row d n).1.length ≤ 17592186044416 := by
  unfold unpAll
  split
  · split
    · simp
    · simp [unp]; omega
  · simp
theorem SamplesUnpacks : ∀ (a0 : ByteArray) (a1 : Int) (a2 : Int), (a0.size ≤ 140737488351232) → ((Lit.int .i64 a1).wf = true) → ((Lit.int .i64 a2).wf = true) → ∃ k, vitrinelaw11_SamplesUnpacks.f k a0 a1 a2 = some true := by
  intro row d n hz _ _
  refine Ev.rounds ?_
  unfold vitrinelaw11_SamplesUnpacks.f
  refine Ev.bind (Unpack_ev hz) (Ev.bind (rUnpack_ev hz) (Ev.bind (ints_ev _ (unpAll_len row d n)) ?_))
  simp only [if_true]
  exact awake_id

end Go.Proofs.Ytpccfanjdbenlaa.Pure
