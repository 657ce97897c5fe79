/- few and awake of Wire's laws, plain. -/
import Derived.Test.YtnimhhhbefpifaaPL20Sx3
import Derived.Test.YtnimhhhbefpifaaPL20Sx10
import Derived.Test.YtnimhhhbefpifaaPureBase
namespace Go.Proofs.Ytnimhhhbefpifaa.Pure
open Go.RowKit Go.Proofs.YtnimhhhbefpifaaW.PrintWords Go.Proofs.YtnimhhhbefpifaaW.PrintLast Go.Proofs.YtnimhhhbefpifaaW.PrintMore Go.Proofs.Ytnimhhhbefpifaa.PL20S
set_option linter.unusedVariables false
set_option linter.unusedSimpArgs false
theorem wfew_loop (l : List ByteArray) (hl : l.length ≤ 20) (a0 a1 a2 a3 : Int) (a4 : ByteArray) (a5 a6 : Int) (a7 : ByteArray) : ∀ d i : Nat, i + d = l.length → ∃ b, Ev (fun k => vitrinelaw20_few.l0 k (i : Int) a0 a1 a2 a3 a4 a5 a6 a7 l) b ∧ (b = true → ∀ j, i ≤ j → j < l.length → (rdOf ByteArray.empty l (j : Int)).size ≤ 5000) := by
  intro d
  induction d with
  | zero =>
    intro i hi
    refine ⟨true, ?_, fun _ j h1 h2 => by omega⟩
    refine Ev.step (f := fun _ => some true) (fun k => ?_) (Ev.now _)
    simp only [vitrinelaw20_few.l0]
    rw [if_neg (by omega)]
  | succ d ih =>
    intro i hi
    have hw : wrap64 ((i : Int) + 1) = ((i + 1 : Nat) : Int) := by rw [w64 (by omega) (by omega)]; omega
    by_cases hb : ((rdOf ByteArray.empty l (i : Int)).size : Int) > 5000
    · refine ⟨false, ?_, fun h => by cases h⟩
      refine Ev.step (f := fun _ => some false) (fun k => ?_) (Ev.now _)
      simp only [vitrinelaw20_few.l0]
      rw [if_pos (by omega), if_pos (by omega), if_pos hb]
    · obtain ⟨b, h1, h2⟩ := ih (i + 1) (by omega)
      refine ⟨b, ?_, fun h j hj1 hj2 => ?_⟩
      · refine Ev.step (fun k => ?_) h1
        simp only [vitrinelaw20_few.l0]
        rw [if_pos (by omega), if_pos (by omega), if_neg hb, hw]
      · by_cases hji : j = i
        · subst hji; omega
        · exact h2 h j (by omega) hj2
/-- What few says. -/
def fewP (a4 a7 : ByteArray) (l : List ByteArray) : Prop := l.length ≤ 20 ∧ a4.size ≤ 5000 ∧ a7.size ≤ 5000 ∧ ∀ j, j < l.length → (rdOf ByteArray.empty l (j : Int)).size ≤ 5000
theorem wfew_ev (a0 a1 a2 a3 : Int) (a4 : ByteArray) (a5 a6 : Int) (a7 : ByteArray) (l : List ByteArray) : ∃ b, Ev (fun k => vitrinelaw20_few.f k a0 a1 a2 a3 a4 a5 a6 a7 l) b ∧ (b = true → fewP a4 a7 l) := by
  have jt : Ev (fun k => vitrinelaw20_few.j0 k true a0 a1 a2 a3 a4 a5 a6 a7 l) false := by
    refine Ev.step (f := fun _ => some false) (fun k => ?_) (Ev.now _)
    simp only [vitrinelaw20_few.j0, if_true]
  by_cases c1 : (l.length : Int) > 20
  · exact ⟨false, Ev.congr (fun k => by unfold vitrinelaw20_few.f; rw [if_pos c1]) jt, fun h => by cases h⟩
  · by_cases c2 : (a4.size : Int) > 5000
    · exact ⟨false, Ev.congr (fun k => by unfold vitrinelaw20_few.f; rw [if_neg c1, if_pos c2]) jt, fun h => by cases h⟩
    · by_cases c3 : (a7.size : Int) > 5000
      · exact ⟨false, Ev.congr (fun k => by unfold vitrinelaw20_few.f; rw [if_neg c1, if_neg c2, decide_eq_true c3]) jt, fun h => by cases h⟩
      · obtain ⟨b, h1, h2⟩ := wfew_loop l (by omega) a0 a1 a2 a3 a4 a5 a6 a7 l.length 0 (by omega)
        refine ⟨b, ?_, fun h => ⟨by omega, by omega, by omega, fun j hj => h2 h j (by omega) hj⟩⟩
        refine Ev.congr (f := fun k => vitrinelaw20_few.j0 k false a0 a1 a2 a3 a4 a5 a6 a7 l) (fun k => by unfold vitrinelaw20_few.f; rw [if_neg c1, if_neg c2, decide_eq_false c3]) ?_
        refine Ev.step (fun k => ?_) h1
        simp only [vitrinelaw20_few.j0]
        rw [if_neg (by decide)]
        rfl
theorem awake20 : Ev (fun k => vitrinelaw20_awake.f k) true := ev_true (fun k => vitrinelaw20_awake.mono k) 600 (by kernel_rfl)

end Go.Proofs.Ytnimhhhbefpifaa.Pure
