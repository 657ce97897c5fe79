/- The plain law SamplesRow of layer 11 (samples). Conditions: whole numbers of 64 bits, strings and lists as long as the model allows. -/
import Derived.Test.YtpccfanjdbenlaaPM11x24
import Derived.Test.YtpccfanjdbenlaaPureM11A
import Derived.Test.YtpccfanjdbenlaaPureM11R
namespace Go.Proofs.Ytpccfanjdbenlaa.Pure
open Go.RowKit Go.Proofs.YtpccfanjdbenlaaW.PrintWords Go.Proofs.YtpccfanjdbenlaaW.PrintLast Go.Proofs.YtpccfanjdbenlaaW.PrintMore Go.Proofs.Ytpccfanjdbenlaa.PM11
set_option linter.unusedVariables false
set_option linter.unusedSimpArgs false
theorem and_mask8 {x : Int} {s : Nat} (h0 : 0 ≤ x) (h1 : x ≤ 255) (hs : s ≤ 7) : Go.bits .and .u8 x (2 ^ s - 1) = x % 2 ^ s := by
  obtain ⟨n, rfl⟩ := Int.eq_ofNat_of_zero_le h0
  have hp : (2 : Nat) ^ s ≤ 2 ^ 7 := Nat.pow_le_pow_right (by decide) hs
  have hp0 : 0 < 2 ^ s := Nat.two_pow_pos s
  have hm : ((2 : Int) ^ s - 1) = ((2 ^ s - 1 : Nat) : Int) := by rw [Int.natCast_sub hp0]; simp
  have e2 : (2 ^ s - 1) % 2 ^ 8 = 2 ^ s - 1 := Nat.mod_eq_of_lt (by omega)
  have e3 : n % 2 ^ 8 = n := Nat.mod_eq_of_lt (by omega)
  rw [hm]
  have e : Go.bits .and .u8 (n : Int) ((2 ^ s - 1 : Nat) : Int) = IntKind.u8.wrap ((BitVec.ofInt 8 (n : Int) &&& BitVec.ofInt 8 ((2 ^ s - 1 : Nat) : Int)).toNat : Int) := rfl
  rw [e, BitVec.ofInt_natCast, BitVec.ofInt_natCast, BitVec.toNat_and, BitVec.toNat_ofNat, BitVec.toNat_ofNat, e2, e3, Nat.and_two_pow_sub_one_eq_mod, Go.IntKind.wrap_u8, Int.natCast_emod, Int.natCast_pow]
  have h4 : ((n : Int) % ((2 : Nat) : Int) ^ s) = (((n % 2 ^ s : Nat)) : Int) := by rw [Int.natCast_emod, Int.natCast_pow]
  have h5 : n % 2 ^ s ≤ n := Nat.mod_le _ _
  rw [h4]
  have h6 : ((n : Int) % (2 : Int) ^ s) = (((n % 2 ^ s : Nat)) : Int) := h4
  rw [h6]
  omega
theorem row_last {l : List Int} {D K : Nat} (hK : K % 8 ≠ 0) (hK2 : K ≤ 64000) : Go.bits .and .u8 (bt (strOfNums (bytesK (sbit D l) K)) ((K / 8 : Nat) : Int)) (((shl .u8 1 ((8 - K % 8 : Nat) : Int)) - 1) % 256) = 0 := by
  have h7 : 8 - K % 8 ≤ 7 := by omega
  have hr := byteOf_range (sbit_bin D l) K (K / 8)
  have hp := pow_pos' (8 - K % 8)
  have h128 := two_pow_le h7
  have e128 : (2 : Int) ^ 7 = 128 := rfl
  have hj : K / 8 < (K + 7) / 8 := by omega
  have e1 : (1 * (2 : Int) ^ (8 - K % 8) - 1) % 256 = 2 ^ (8 - K % 8) - 1 := by
    rw [Int.one_mul]
    exact Int.emod_eq_of_lt (by omega) (by omega)
  rw [bytesK_bt (sbit_bin D l) hj, shl8 (.inr rfl) h7, e1, and_mask8 hr.1 hr.2 h7, byteOf_low]
theorem SamplesRow : ∀ (a0 : Int) (l1 : List Int), ((Lit.int .i64 a0).wf = true) → (l1.length ≤ maxLen ∧ l1.length * 8 ≤ 140737488351232 ∧ ∀ y_ ∈ l1, (fun x_ : Int => (Lit.int .i64 x_).wf = true) y_) → ∃ k, vitrinelaw11_SamplesRow.f k a0 l1 = some true := by
  intro d l _ hl
  have hl2 : l.length ≤ 17592186044416 := by omega
  clear hl
  refine Ev.rounds ?_
  unfold vitrinelaw11_SamplesRow.f
  refine Ev.bind (Pack_ev d hl2) ?_
  rcases kn_or d with hk | hk
  · unfold packAll
    simp only [hk, if_true]
    by_cases h : (l.length : Int) > 4000
    · rw [decide_eq_true h]
      refine Ev.step (fun k => ?_) awake_id
      simp only [vitrinelaw11_SamplesRow.j0, if_true]
    · rw [decide_eq_false h]
      have hd := (tab hk).1
      obtain ⟨D, rfl⟩ := Int.eq_ofNat_of_zero_le (show 0 ≤ d by omega)
      have hD : 1 ≤ D ∧ D ≤ 16 := by omega
      have hK : l.length * D ≤ 4000 * 16 := Nat.mul_le_mul (by omega) hD.2
      have hs : l.length * D ≤ 281474976710656 := by omega
      have hz := bytesK_size (sbit D l) (l.length * D)
      have w0 : (l.length : Int) * (D : Int) = ((l.length * D : Nat) : Int) := by simp
      have w1 : wrap64 ((l.length : Int) * (D : Int)) = ((l.length * D : Nat) : Int) := by rw [w0, w64 (by omega) (by omega)]
      rw [Int.toNat_natCast]
      refine Ev.step (fun k => ?_) awake_id
      simp only [vitrinelaw11_SamplesRow.j0, Bool.false_eq_true, if_false]
      rw [rP_w5 hs, hz, if_pos rfl, w1, tmod_nn (Int.natCast_nonneg _)]
      by_cases h8 : (l.length * D) % 8 = 0
      · rw [if_pos (by omega)]
      · have w2 : wrap64 ((((l.length * D + 7) / 8 : Nat) : Int) - 1) = ((l.length * D / 8 : Nat) : Int) := by rw [w64 (by omega) (by omega)]; omega
        have w3 : wrap64 (8 - (((l.length * D : Nat) : Int) % 8)) = ((8 - (l.length * D) % 8 : Nat) : Int) := by rw [w64 (by omega) (by omega)]; omega
        have c1 : ((l.length * D / 8 : Nat) : Int) < (((l.length * D + 7) / 8 : Nat) : Int) := by omega
        rw [if_neg (by omega), w2, if_pos (Int.natCast_nonneg _), if_pos c1, w3, if_pos (Int.natCast_nonneg _), row_last h8 hK, if_pos rfl]
  · unfold packAll
    simp only [hk, Bool.false_eq_true, if_false, show ¬ ((1 : Int) = 0) by decide]
    refine Ev.step (fun k => ?_) awake_id
    simp only [vitrinelaw11_SamplesRow.j0, if_true, show ¬ ((1 : Int) = 0) by decide, if_false]

end Go.Proofs.Ytpccfanjdbenlaa.Pure
