/- The plain law SamplesPixels of layer 11 (samples). Conditions: whole numbers of 64 bits, strings and lists as long as the model allows. -/
import Derived.Test.YtpccfanjdbenlaaPM11x20
import Derived.Test.YtpccfanjdbenlaaPureM11Z
namespace Go.Proofs.Ytpccfanjdbenlaa.Pure
open Go.RowKit Go.Proofs.YtpccfanjdbenlaaW.PrintWords Go.Proofs.YtpccfanjdbenlaaW.PrintLast Go.Proofs.YtpccfanjdbenlaaW.PrintMore Go.Proofs.Ytpccfanjdbenlaa.PM11
set_option linter.unusedVariables false
set_option linter.unusedSimpArgs false
theorem SamplesPixels : ∀ (a0_0 : Int) (a0_1 : Int) (a0_2 : Int) (a0_3 : Int) (a0_4 : Int) (a0_5 : ByteArray) (a0_6 : ByteArray) (a0_7 : Bool) (l1 : List Int), ((Lit.int .i64 a0_0).wf = true) → ((Lit.int .i64 a0_1).wf = true) → ((Lit.int .i64 a0_2).wf = true) → ((Lit.int .i64 a0_3).wf = true) → ((Lit.int .i64 a0_4).wf = true) → (a0_5.size ≤ 140737488351232) → (a0_6.size ≤ 140737488351232) → (l1.length ≤ maxLen ∧ l1.length * 8 ≤ 140737488351232 ∧ ∀ y_ ∈ l1, (fun x_ : Int => (Lit.int .i64 x_).wf = true) y_) → ∃ k, vitrinelaw11_SamplesPixels.f k a0_0 a0_1 a0_2 a0_3 a0_4 a0_5 a0_6 a0_7 l1 = some true := by
  intro s0 s1 s2 s3 s4 pal tr has l _ _ _ _ _ hz _ _
  refine Ev.rounds ?_
  unfold vitrinelaw11_SamplesPixels.f
  by_cases h : (l.length : Int) > 100
  · simp only [h, if_true]
    exact awake_id
  · have h1 : l.length < 8796093022208 := by omega
    have h2 : l.length < 17592186044416 := by omega
    simp only [h, if_false]
    refine Ev.bind (Pixel_ev h2 hz) (Ev.bind (rPixel_ev h1 hz) ?_)
    simp only [if_true]
    exact awake_id

end Go.Proofs.Ytpccfanjdbenlaa.Pure
