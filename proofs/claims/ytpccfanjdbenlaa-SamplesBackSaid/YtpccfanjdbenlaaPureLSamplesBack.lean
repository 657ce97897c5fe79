/- The plain law SamplesBack of layer 11 (samples). Conditions: whole numbers of 64 bits, strings and lists as long as the model allows. -/
import Derived.Test.YtpccfanjdbenlaaPM11x21
import Derived.Test.YtpccfanjdbenlaaPureM11A
import Derived.Test.YtpccfanjdbenlaaPureM11R
namespace Go.Proofs.Ytpccfanjdbenlaa.Pure
open Go.RowKit Go.Proofs.YtpccfanjdbenlaaW.PrintWords Go.Proofs.YtpccfanjdbenlaaW.PrintLast Go.Proofs.YtpccfanjdbenlaaW.PrintMore Go.Proofs.Ytpccfanjdbenlaa.PM11
set_option linter.unusedVariables false
set_option linter.unusedSimpArgs false
theorem back_loop {d : Int} {l m : List Int} (hk : kn d = true) (hl : l.length ≤ 4096) (hm : m.length = l.length) (h : ∀ i : Nat, i < l.length → rd m (i : Int) = rd l (i : Int) % pw d) : ∀ r i : Nat, i + r = l.length → Ev (fun k => vitrinelaw11_SamplesBack.l0 k d l m (i : Int)) true := by
  obtain ⟨h1, h2, h3, h4⟩ := tab hk
  have w1 : wrap64 (pw d - 1) = pw d - 1 := w64 (by omega) (by omega)
  have hd0 : 0 ≤ d := by omega
  intro r
  induction r with
  | zero =>
    intro i hi
    refine Ev.step (fun k => ?_) awake_id
    simp only [vitrinelaw11_SamplesBack.l0]
    rw [if_neg (by omega)]
  | succ r ih =>
    intro i hi
    refine Ev.step (fun k => ?_) (ih (i + 1) (by omega))
    have hlt : (i : Int) < (l.length : Int) := by omega
    have hlt2 : (i : Int) < (m.length : Int) := by omega
    have h62 : i ≤ 4611686018427387904 := by omega
    have hi2 := h i (by omega)
    simp only [vitrinelaw11_SamplesBack.l0]
    rw [if_pos hlt, if_pos (Int.natCast_nonneg _), if_pos hlt2, if_pos hd0, h3, w1, h4, if_pos hi2, w_succ h62]
theorem unp_pack {l : List Int} {D : Nat} (hD : 1 ≤ D) {i : Nat} (hi : i < l.length) : rd (unp (strOfNums (bytesK (sbit D l) (l.length * D))) D l.length) (i : Int) = rd l (i : Int) % 2 ^ D := by
  have hid : (i + 1) * D ≤ l.length * D := Nat.mul_le_mul_right D (by omega)
  rw [Nat.add_mul, Nat.one_mul] at hid
  unfold unp
  rw [rd_range (by omega) (by omega), Int.toNat_natCast, ← acc_sbit D l i (by omega)]
  exact acc_ext fun j hj => bytesK_rbit (sbit_bin D l) (by omega)
theorem SamplesBack : ∀ (a0 : Int) (l1 : List Int), ((Lit.int .i64 a0).wf = true) → (l1.length ≤ maxLen ∧ l1.length * 8 ≤ 140737488351232 ∧ ∀ y_ ∈ l1, (fun x_ : Int => (Lit.int .i64 x_).wf = true) y_) → ∃ k, vitrinelaw11_SamplesBack.f k a0 l1 = some true := by
  intro d l _ hl
  have hl2 : l.length ≤ 17592186044416 := by omega
  clear hl
  refine Ev.rounds ?_
  unfold vitrinelaw11_SamplesBack.f
  by_cases h : (l.length : Int) > 4096
  · simp only [h, if_true]
    exact awake_id
  · simp only [h, if_false]
    refine Ev.bind (Pack_ev d hl2) ?_
    rcases kn_or d with hk | hk
    · have hd := (tab hk).1
      obtain ⟨D, rfl⟩ := Int.eq_ofNat_of_zero_le (show 0 ≤ d by omega)
      have hD : 1 ≤ D ∧ D ≤ 16 := by omega
      have hK : l.length * D ≤ 4096 * 16 := Nat.mul_le_mul (by omega) hD.2
      have hs : l.length * D ≤ 281474976710656 := by omega
      have hz := bytesK_size (sbit D l) (l.length * D)
      have hz2 : (strOfNums (bytesK (sbit D l) (l.length * D))).size ≤ 140737488351232 := by omega
      unfold packAll
      simp only [hk, if_true, Int.toNat_natCast]
      refine Ev.bind (Unpack_ev (d := (D : Int)) (n := (l.length : Int)) hz2) ?_
      have hu : unpAll (strOfNums (bytesK (sbit D l) (l.length * D))) (D : Int) (l.length : Int) = (unp (strOfNums (bytesK (sbit D l) (l.length * D))) D l.length, 0) := by
        unfold unpAll
        have h1 : ¬ ((strOfNums (bytesK (sbit D l) (l.length * D))).size : Int) * 8 < (l.length : Int) * (D : Int) := by
          have : (l.length : Int) * (D : Int) = ((l.length * D : Nat) : Int) := by simp
          rw [this, hz]
          omega
        rw [if_pos ⟨hk, by omega, by omega⟩, if_neg h1]
        rfl
      have hlen : (unp (strOfNums (bytesK (sbit D l) (l.length * D))) D l.length).length = l.length := by simp [unp]
      simp only [hu, hlen, if_true, rP_w5 hs, hz, bne_self_eq_false]
      refine Ev.step (fun k => ?_) (back_loop (d := (D : Int)) (l := l) (m := unp (strOfNums (bytesK (sbit D l) (l.length * D))) D l.length) hk (by omega) hlen (fun i hi => unp_pack hD.1 hi) l.length 0 (by omega))
      simp only [vitrinelaw11_SamplesBack.j0, Bool.false_eq_true, if_false]
      rfl
    · unfold packAll
      simp only [hk, Bool.false_eq_true, if_false, toList_data, if_true, show ¬ ((1 : Int) = 0) by decide]
      exact awake_id

end Go.Proofs.Ytpccfanjdbenlaa.Pure
