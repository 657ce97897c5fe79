/- Layer 11 (samples), plain laws: the chapter's examples hold; a list is the same as itself. Condition: a list as long as a slice can be. -/
import Derived.Test.YtpccfanjdbenlaaPM11x5
import Derived.Test.YtpccfanjdbenlaaPM11x11
import Derived.Test.YtpccfanjdbenlaaPureM11
namespace Go.Proofs.Ytpccfanjdbenlaa.Pure
open Go.RowKit Go.Proofs.YtpccfanjdbenlaaW.PrintWords Go.Proofs.YtpccfanjdbenlaaW.PrintLast Go.Proofs.YtpccfanjdbenlaaW.PrintMore Go.Proofs.Ytpccfanjdbenlaa.PM11
set_option linter.unusedVariables false
set_option linter.unusedSimpArgs false
theorem w_succ {i : Nat} (h : i ≤ 4611686018427387904) : wrap64 ((i : Int) + 1) = ((i + 1 : Nat) : Int) := by rw [w64 (by omega) (by omega)]; omega
theorem awake_ev : Ev (fun k => vitrinelaw11_awake.f k) true := Ev.of vitrinelaw11_awake.mono (k := 60) (by unfold vitrinelaw11_awake.f; simp only [toList_data]; decide +kernel)
theorem awake_id : Ev (fun k => (vitrinelaw11_awake.f k).bind fun t => some t) true := ev_id awake_ev
theorem ints_loop (l : List Int) (hl : l.length ≤ 17592186044416) : ∀ d i : Nat, i + d = l.length → Ev (fun k => vitrinelaw11_ints.l0 k l l (i : Int)) true := by
  intro d
  induction d with
  | zero =>
    intro i hi
    refine Ev.step (f := fun _ => some true) (fun k => ?_) (Ev.now _)
    simp only [vitrinelaw11_ints.l0]
    rw [if_neg (by omega)]
  | succ d ih =>
    intro i hi
    refine Ev.step (fun k => ?_) (ih (i + 1) (by omega))
    have hlt : (i : Int) < (l.length : Int) := by omega
    have h62 : i ≤ 4611686018427387904 := by omega
    simp only [vitrinelaw11_ints.l0]
    rw [if_pos hlt, if_pos (Int.natCast_nonneg _), if_pos hlt, if_pos trivial, w_succ h62]
theorem ints_ev (l : List Int) (hl : l.length ≤ 17592186044416) : Ev (fun k => vitrinelaw11_ints.f k l l) true := by
  unfold vitrinelaw11_ints.f
  simp only [if_true]
  exact ints_loop l hl l.length 0 (by omega)
theorem kn_or (d : Int) : kn d = true ∨ kn d = false := by cases kn d <;> simp

end Go.Proofs.Ytpccfanjdbenlaa.Pure
