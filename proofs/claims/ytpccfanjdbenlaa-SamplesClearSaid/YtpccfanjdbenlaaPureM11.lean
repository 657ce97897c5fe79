/- Layer 11 (samples), plain laws, first part: which depths there are, a sample as one of 16 bits, the samples of a row; by the program and by the document's answer. Conditions: those that each lemma names. -/
import Derived.Test.YtpccfanjdbenlaaPM11x1
import Derived.Test.YtpccfanjdbenlaaPM11x3
import Derived.Test.YtpccfanjdbenlaaPM11x7
import Derived.Test.YtpccfanjdbenlaaPM11x15
import Derived.Test.YtpccfanjdbenlaaPureIdx
import Derived.Test.YtpccfanjdbenlaaPureBits
namespace Go.Proofs.Ytpccfanjdbenlaa.Pure
open Go.RowKit Go.Proofs.YtpccfanjdbenlaaW.PrintWords Go.Proofs.YtpccfanjdbenlaaW.PrintLast Go.Proofs.YtpccfanjdbenlaaW.PrintMore Go.Proofs.Ytpccfanjdbenlaa.PM11
set_option linter.unusedVariables false
set_option linter.unusedSimpArgs false
def kn (d : Int) : Bool := decide (d = 1 ∨ d = 2 ∨ d = 4 ∨ d = 8 ∨ d = 16)
theorem kn_cases {d : Int} (h : kn d = true) : d = 1 ∨ d = 2 ∨ d = 4 ∨ d = 8 ∨ d = 16 := of_decide_eq_true h
theorem known_ev (d : Int) : Ev (fun k => samples_known.f k d) (kn d) := by
  unfold samples_known.f
  refine ev_same (ev_id (contains_ev [1, 2, 4, 8, 16] d (by simp))) ?_
  unfold kn
  simp only [idx]
  by_cases h1 : d = 1
  · subst h1; rfl
  · by_cases h2 : d = 2
    · subst h2; rfl
    · by_cases h4 : d = 4
      · subst h4; rfl
      · by_cases h8 : d = 8
        · subst h8; rfl
        · by_cases h16 : d = 16
          · subst h16; rfl
          · simp [h1, h2, h4, h8, h16]
theorem Depth_f (d : Int) : vitrineref11_Depth.f d = some (kn d) := by
  unfold vitrineref11_Depth.f kn
  by_cases h1 : d = 1
  · subst h1; rfl
  · by_cases h2 : d = 2
    · subst h2; rfl
    · by_cases h4 : d = 4
      · subst h4; rfl
      · by_cases h8 : d = 8
        · subst h8; rfl
        · rw [if_neg h1, if_neg h2, if_neg h4, if_neg h8]
          by_cases h16 : d = 16
          · subst h16; rfl
          · rw [decide_eq_false (by omega), beq_eq_false_iff_ne.mpr h16]
/-- 2 to the depth. -/
def pw (d : Int) : Int := 2 ^ d.toNat
theorem tab {d : Int} (h : kn d = true) : (1 ≤ d ∧ d ≤ 16) ∧ (2 ≤ pw d ∧ pw d ≤ 65536) ∧ shl .i64 1 d = pw d ∧ (∀ v, Go.bits .and .i64 v (pw d - 1) = v % pw d) := by
  rcases kn_cases h with rfl | rfl | rfl | rfl | rfl
  · exact ⟨by omega, by decide, by decide, fun v => and_mask v 1 (by decide)⟩
  · exact ⟨by omega, by decide, by decide, fun v => and_mask v 2 (by decide)⟩
  · exact ⟨by omega, by decide, by decide, fun v => and_mask v 4 (by decide)⟩
  · exact ⟨by omega, by decide, by decide, fun v => and_mask v 8 (by decide)⟩
  · exact ⟨by omega, by decide, by decide, fun v => and_mask v 16 (by decide)⟩
/-- A sample as one of 16 bits. -/
def wid (v d : Int) : Int := if kn d = true then v % pw d * (65535 / (pw d - 1)) else 0
theorem quo_tab {d : Int} (h : kn d = true) : (pw d - 1) * (65535 / (pw d - 1)) = 65535 := by
  rcases kn_cases h with rfl | rfl | rfl | rfl | rfl <;> decide
theorem mod_pw (v : Int) {d : Int} (h : kn d = true) : 0 ≤ v % pw d ∧ v % pw d < pw d := by
  obtain ⟨_, h2, _⟩ := tab h
  exact ⟨Int.emod_nonneg _ (by omega), Int.emod_lt_of_pos _ (by omega)⟩
theorem wid_range (v d : Int) : 0 ≤ wid v d ∧ wid v d ≤ 65535 := by
  unfold wid
  split
  · rename_i h
    have h1 := mod_pw v h
    have h2 := quo_tab h
    have h4 : 0 ≤ 65535 / (pw d - 1) := by
      obtain ⟨_, h3, _⟩ := tab h
      exact Int.ediv_nonneg (by decide) (by omega)
    refine ⟨Int.mul_nonneg h1.1 h4, ?_⟩
    exact Int.le_trans (Int.mul_le_mul_of_nonneg_right (by omega) h4) (Int.le_of_eq h2)
  · omega
theorem Wide_ev (v d : Int) : Ev (fun k => samples_Wide.f k v d) (wid v d) := by
  unfold samples_Wide.f
  refine Ev.bind (known_ev d) ?_
  by_cases h : kn d = true
  · obtain ⟨h1, h2, h3, h4⟩ := tab h
    have hr := wid_range v d
    unfold wid at hr ⊢
    simp only [h, if_true] at hr ⊢
    have e1 : wrap64 (pw d - 1) = pw d - 1 := w64 (by omega) (by omega)
    have e2 : Int.tdiv 65535 (pw d - 1) = 65535 / (pw d - 1) := Int.tdiv_eq_ediv_of_nonneg (by decide)
    have e3 : wrap64 (65535 / (pw d - 1)) = 65535 / (pw d - 1) := by
      have a : 0 ≤ 65535 / (pw d - 1) := Int.ediv_nonneg (by decide) (by omega)
      have b : 65535 / (pw d - 1) ≤ 65535 := Int.ediv_le_self _ (by decide)
      exact w64 (by omega) (by omega)
    rw [if_pos (by omega), h3, e1, if_neg (by omega), h4, e2, e3, w64 (by omega) (by omega)]
    exact Ev.now _
  · have h' : kn d = false := by cases e : kn d <;> simp_all
    unfold wid
    simp only [h', if_false, Bool.false_eq_true]
    exact Ev.now _
theorem rWide_f (v d : Int) : vitrineref11_Wide.f v d = some (wid v d) := by
  unfold vitrineref11_Wide.f
  rw [Depth_f]
  simp only [Option.bind_some]
  by_cases h : kn d = true
  · obtain ⟨h1, h2, h3, h4⟩ := tab h
    have hm := mod_pw v h
    have hq := quo_tab h
    unfold wid
    simp only [h, if_true]
    have e1 : wrap64 (pw d - 1) = pw d - 1 := w64 (by omega) (by omega)
    have e2 : wrap64 (v % pw d * 65535) = v % pw d * 65535 := w64 (by omega) (by omega)
    have e3 : v % pw d * 65535 / (pw d - 1) = v % pw d * (65535 / (pw d - 1)) := by
      conv => lhs; rw [← hq]
      rw [← Int.mul_assoc, Int.mul_comm (v % pw d) (pw d - 1), Int.mul_assoc, Int.mul_ediv_cancel_left _ (by omega)]
    have hr := wid_range v d
    unfold wid at hr
    simp only [h, if_true] at hr
    rw [if_pos (by omega), h3, e1, if_neg (by omega), h4, e2, Int.tdiv_eq_ediv_of_nonneg (by omega), e3, w64 (by omega) (by omega)]
  · have h' : kn d = false := by cases e : kn d <;> simp_all
    unfold wid
    simp only [h', if_false, Bool.false_eq_true]

end Go.Proofs.Ytpccfanjdbenlaa.Pure
