/- The plain law SamplesApart of layer 11 (samples). Conditions: whole numbers of 64 bits, strings and lists as long as the model allows. -/
import Derived.Test.YtpccfanjdbenlaaPM11x7
import Derived.Test.YtpccfanjdbenlaaPM11x11
import Derived.Test.YtpccfanjdbenlaaPM11x22
import Derived.Test.YtpccfanjdbenlaaPureM11A
namespace Go.Proofs.Ytpccfanjdbenlaa.Pure
open Go.RowKit Go.Proofs.YtpccfanjdbenlaaW.PrintWords Go.Proofs.YtpccfanjdbenlaaW.PrintLast Go.Proofs.YtpccfanjdbenlaaW.PrintMore Go.Proofs.Ytpccfanjdbenlaa.PM11
set_option linter.unusedVariables false
set_option linter.unusedSimpArgs false
theorem wid_mod (v : Int) {d : Int} (hk : kn d = true) : wid (v % pw d) d = v % pw d * (65535 / (pw d - 1)) := by
  unfold wid
  rw [if_pos hk, Int.emod_emod]
theorem wid_top {d : Int} (hk : kn d = true) : wid (pw d - 1) d = 65535 := by
  obtain ⟨h1, h2, h3, h4⟩ := tab hk
  unfold wid
  rw [if_pos hk, Int.emod_eq_of_lt (by omega) (by omega), quo_tab hk]
theorem apart_go {d x y : Int} (hk : kn d = true) : Ev (fun k => vitrinelaw11_SamplesApart.j0 k d false x y) true := by
  obtain ⟨h1, h2, h3, h4⟩ := tab hk
  have w1 : wrap64 (pw d - 1) = pw d - 1 := w64 (by omega) (by omega)
  have hd0 : 0 ≤ d := by omega
  have hq : 0 < 65535 / (pw d - 1) := Int.ediv_pos_of_pos_of_dvd (by decide) (by omega) ⟨65535 / (pw d - 1), (quo_tab hk).symm⟩
  have e1 : ((decide (x % pw d < y % pw d)) == (decide (wid (x % pw d) d < wid (y % pw d) d))) = true := by
    rw [wid_mod _ hk, wid_mod _ hk, beq_iff_eq, decide_eq_decide]
    exact ⟨fun h => Int.mul_lt_mul_of_pos_right h hq, fun h => Int.lt_of_mul_lt_mul_right h (by omega)⟩
  have e2 : ((x % pw d == y % pw d) == (wid (x % pw d) d == wid (y % pw d) d)) = true := by
    rw [wid_mod _ hk, wid_mod _ hk, beq_iff_eq, Bool.eq_iff_iff, beq_iff_eq, beq_iff_eq]
    exact ⟨fun h => by rw [h], fun h => Int.eq_of_mul_eq_mul_right (by omega) h⟩
  have hr := wid_range (x % pw d) d
  refine Ev.step (f := fun k => (samples_Wide.f k (x % pw d) d).bind fun t293 => (samples_Wide.f k (y % pw d) d).bind fun t294 => (if ((decide (x % pw d < y % pw d)) == (decide (t293 < t294))) = true then (if ((x % pw d == y % pw d) == (t293 == t294)) = true then (if t293 ≥ 0 then (if t293 ≤ 65535 then ((samples_Wide.f k (pw d - 1) d).bind fun t295 => (if t295 = 65535 then ((vitrinelaw11_awake.f k).bind fun t296 => (some t296)) else (some false))) else (some false)) else (some false)) else (some false)) else (some false))) (fun k => ?_) ?_
  · simp only [vitrinelaw11_SamplesApart.j0, Bool.false_eq_true, if_false]
    rw [if_pos hd0, h3, w1, h4, h4]
  · refine Ev.bind (Wide_ev _ d) (Ev.bind (Wide_ev _ d) ?_)
    simp only [e1, e2, hr.1, hr.2, ge_iff_le, if_true]
    refine Ev.bind (Wide_ev _ d) ?_
    simp only [wid_top hk, if_true]
    exact awake_id
theorem SamplesApart : ∀ (a0 : Int) (a1_0 : Int) (a1_1 : Int), ((Lit.int .i64 a0).wf = true) → ((Lit.int .i64 a1_0).wf = true) → ((Lit.int .i64 a1_1).wf = true) → ∃ k, vitrinelaw11_SamplesApart.f k a0 a1_0 a1_1 = some true := by
  intro d x y _ _ _
  refine Ev.rounds ?_
  unfold vitrinelaw11_SamplesApart.f
  by_cases h1 : d = 1
  · simp only [h1, if_true]; exact apart_go rfl
  · by_cases h2 : d = 2
    · subst h2; exact apart_go rfl
    · by_cases h4 : d = 4
      · subst h4; exact apart_go rfl
      · by_cases h8 : d = 8
        · subst h8; exact apart_go rfl
        · simp only [h1, h2, h4, h8, if_false]
          by_cases h16 : d = 16
          · subst h16; exact apart_go rfl
          · have e : (d != 16) = true := bne_iff_ne.mpr h16
            have hk : kn d = false := by unfold kn; exact decide_eq_false (by omega)
            have hw : wid x d = 0 := by unfold wid; rw [hk, if_neg (by decide)]
            rw [e]
            refine Ev.step (f := fun k => (samples_Wide.f k x d).bind fun t291 => (if t291 = 0 then ((vitrinelaw11_awake.f k).bind fun t292 => (some t292)) else (some false))) (fun k => ?_) ?_
            · simp only [vitrinelaw11_SamplesApart.j0, if_true]
            · refine Ev.bind (Wide_ev x d) ?_
              simp only [hw, if_true]
              exact awake_id

end Go.Proofs.Ytpccfanjdbenlaa.Pure
