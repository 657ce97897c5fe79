/- WireEncodes, plain: a message's bytes are the document's answer. Condition: as the law's own few. -/
import Derived.Test.YtnimhhhbefpifaaPL20x17
import Derived.Test.YtnimhhhbefpifaaPureW20R
namespace Go.Proofs.Ytnimhhhbefpifaa.Pure
open Go.RowKit Go.Proofs.YtnimhhhbefpifaaW.PrintWords Go.Proofs.YtnimhhhbefpifaaW.PrintLast Go.Proofs.YtnimhhhbefpifaaW.PrintMore Go.Proofs.Ytnimhhhbefpifaa.PL20
set_option linter.unusedVariables false
set_option linter.unusedSimpArgs false
theorem WireEncodes : ∀ (a0_0 : Int) (a0_1 : Int) (a0_2 : Int) (a0_3 : Int) (a0_4 : ByteArray) (a0_5 : Int) (a0_6 : Int) (a0_7 : ByteArray) (l0_8 : List ByteArray), ((Lit.int .i64 a0_0).wf = true) → ((Lit.int .i64 a0_1).wf = true) → ((Lit.int .i64 a0_2).wf = true) → ((Lit.int .i64 a0_3).wf = true) → (a0_4.size ≤ 140737488351232) → ((Lit.int .i64 a0_5).wf = true) → ((Lit.int .i64 a0_6).wf = true) → (a0_7.size ≤ 140737488351232) → (l0_8.length ≤ maxLen ∧ l0_8.length * 16 ≤ 140737488351232 ∧ ∀ y_ ∈ l0_8, (fun s_ : ByteArray => s_.size ≤ 140737488351232) y_) → ∃ k, vitrinelaw20_WireEncodes.f k a0_0 a0_1 a0_2 a0_3 a0_4 a0_5 a0_6 a0_7 l0_8 = some true := by
  intro a0 a1 a2 a3 a4 a5 a6 a7 l _ _ _ _ _ _ _ _ _
  refine Ev.rounds ?_
  obtain ⟨b, h1, h2⟩ := wfew_ev a0 a1 a2 a3 a4 a5 a6 a7 l
  unfold vitrinelaw20_WireEncodes.f
  refine Ev.bind h1 ?_
  cases b with
  | false => exact Ev.congr (fun k => by rw [if_neg (by decide)]) (ev_id awake20)
  | true =>
    have hf := h2 rfl
    simp only [if_true]
    refine Ev.bind (Enc_ev a0 a1 a2 a3 a4 a5 a6 a7 l hf) ?_
    refine Ev.bind (rEnc_ev a0 a1 a2 a3 a4 a5 a6 a7 l hf) ?_
    exact ev_if rfl (ev_if rfl (ev_id awake20))

end Go.Proofs.Ytnimhhhbefpifaa.Pure
