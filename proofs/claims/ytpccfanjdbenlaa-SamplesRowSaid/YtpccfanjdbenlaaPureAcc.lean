/- Bits as numbers: the number of m bits from place a on, of a row and of a list of samples; its splits, ranges and bits. Conditions: bits are 0 or 1. -/
import Derived.Test.YtpccfanjdbenlaaPureBits
namespace Go.Proofs.Ytpccfanjdbenlaa.Pure
open Go.RowKit Go.Proofs.YtpccfanjdbenlaaW.PrintWords Go.Proofs.YtpccfanjdbenlaaW.PrintLast Go.Proofs.YtpccfanjdbenlaaW.PrintMore
set_option linter.unusedVariables false
set_option linter.unusedSimpArgs false
/-- The number of the m bits from place a on. -/
def acc (f : Nat → Int) (a : Nat) : Nat → Int
  | 0 => 0
  | m + 1 => 2 * acc f a m + f (a + m)
def Bin (f : Nat → Int) : Prop := ∀ i, f i = 0 ∨ f i = 1
theorem acc_succ (f : Nat → Int) (a m : Nat) : acc f a (m + 1) = 2 * acc f a m + f (a + m) := rfl
theorem acc_split (f : Nat → Int) (a m p : Nat) : acc f a (m + p) = acc f a m * 2 ^ p + acc f (a + m) p := by
  induction p with
  | zero => simp [acc]
  | succ p ih =>
    rw [← Nat.add_assoc]
    show 2 * acc f a (m + p) + f (a + (m + p)) = acc f a m * 2 ^ (p + 1) + (2 * acc f (a + m) p + f (a + m + p))
    rw [ih, ← Nat.add_assoc, Int.pow_succ, ← Int.mul_assoc]
    omega
theorem acc_range {f : Nat → Int} (h : Bin f) (a m : Nat) : 0 ≤ acc f a m ∧ acc f a m < 2 ^ m := by
  induction m with
  | zero => simp [acc]
  | succ m ih =>
    unfold acc
    rw [Int.pow_succ]
    have := h (a + m)
    omega
theorem acc_high {f : Nat → Int} (h : Bin f) (a m p : Nat) : acc f a (m + p) / 2 ^ p = acc f a m := by
  have hr := acc_range h (a + m) p
  have hp := pow_pos' p
  rw [acc_split, Int.add_comm, Int.add_mul_ediv_right _ _ (by omega), Int.ediv_eq_zero_of_lt hr.1 hr.2, Int.zero_add]
theorem acc_low {f : Nat → Int} (h : Bin f) (a m p : Nat) : acc f a (m + p) % 2 ^ p = acc f (a + m) p := by
  have hr := acc_range h (a + m) p
  rw [acc_split, Int.add_comm, Int.add_mul_emod_self_right, Int.emod_eq_of_lt hr.1 hr.2]
theorem acc_bit {f : Nat → Int} (h : Bin f) (a p q : Nat) : acc f a (p + 1 + q) / 2 ^ q % 2 = f (a + p) := by
  rw [acc_high h]
  have := h (a + p)
  unfold acc
  omega
theorem acc_ext {f g : Nat → Int} {a m : Nat} (h : ∀ i, i < m → f (a + i) = g (a + i)) : acc f a m = acc g a m := by
  induction m with
  | zero => rfl
  | succ m ih =>
    unfold acc
    rw [ih (fun i hi => h i (by omega)), h m (by omega)]
theorem half_mod (q : Int) (m : Nat) : 2 * (q / 2 % 2 ^ m) + q % 2 = q % 2 ^ (m + 1) := by
  have hp := pow_pos' m
  have h1 : q = 2 * (q / 2) + q % 2 := by omega
  have h2 : q / 2 = 2 ^ m * (q / 2 / 2 ^ m) + q / 2 % 2 ^ m := (Int.mul_ediv_add_emod _ _).symm
  have h3 : 0 ≤ q / 2 % 2 ^ m := Int.emod_nonneg _ (by omega)
  have h4 : q / 2 % 2 ^ m < 2 ^ m := Int.emod_lt_of_pos _ hp
  have h5 : q = (2 * (q / 2 % 2 ^ m) + q % 2) + (2 : Int) ^ (m + 1) * (q / 2 / 2 ^ m) := by
    rw [Int.pow_succ, Int.mul_comm (2 ^ m) 2, Int.mul_assoc]
    omega
  have h6 : (2 * (q / 2 % 2 ^ m) + q % 2) < 2 ^ (m + 1) := by rw [Int.pow_succ]; omega
  conv => rhs; rw [h5]
  rw [Int.add_mul_emod_self_left, Int.emod_eq_of_lt (by omega) h6]
/-- The bits of a number, the highest first, d of them: what they count to. -/
theorem acc_num {f : Nat → Int} (v : Int) (d a : Nat) (hf : ∀ i, i < d → f (a + i) = v / 2 ^ (d - 1 - i) % 2) : ∀ m, m ≤ d → acc f a m = v / 2 ^ (d - m) % 2 ^ m := by
  intro m
  induction m with
  | zero => intro _; simp [acc]
  | succ m ih =>
    intro hm
    unfold acc
    rw [ih (by omega), hf m (by omega), ← half_mod]
    have e : v / 2 ^ (d - m) = v / 2 ^ (d - (m + 1)) / 2 := by
      rw [show d - m = (d - (m + 1)) + 1 by omega, Int.pow_succ, Int.ediv_ediv_of_nonneg (by have := pow_pos' (d - (m + 1)); omega)]
    rw [e, show d - 1 - m = d - (m + 1) by omega]
/-- The bits of a row of bytes. -/
def rbit (row : ByteArray) (k : Nat) : Int := bt row ((k / 8 : Nat) : Int) / 2 ^ (7 - k % 8) % 2
theorem mod2 (x : Int) : x % 2 = 0 ∨ x % 2 = 1 := by omega
theorem rbit_bin (row : ByteArray) : Bin (rbit row) := fun k => mod2 _
theorem acc_rbit (row : ByteArray) (a m : Nat) (h : a % 8 + m ≤ 8) : acc (rbit row) a m = bt row ((a / 8 : Nat) : Int) / 2 ^ (8 - m - a % 8) % 2 ^ m := by
  have h1 := acc_num (f := rbit row) (bt row ((a / 8 : Nat) : Int) / 2 ^ (8 - m - a % 8)) m a (fun i hi => by
    unfold rbit
    rw [show (a + i) / 8 = a / 8 by omega, show (a + i) % 8 = a % 8 + i by omega, Int.ediv_ediv_of_nonneg (by have := pow_pos' (8 - m - a % 8); omega), ← Int.pow_add, show 8 - m - a % 8 + (m - 1 - i) = 7 - (a % 8 + i) by omega]) m (Nat.le_refl _)
  rw [h1, Nat.sub_self, Int.pow_zero, Int.ediv_one]
theorem acc_byte (row : ByteArray) (j : Nat) : acc (rbit row) (8 * j) 8 = bt row (j : Int) := by
  rw [acc_rbit row (8 * j) 8 (by omega), show 8 * j / 8 = j by omega, show 8 - 8 - 8 * j % 8 = 0 by omega]
  have := bt_range row (j : Int)
  simp only [Int.pow_zero, Int.ediv_one]
  exact Int.emod_eq_of_lt (by omega) (by omega)
/-- The bits of samples of d bits. -/
def sbit (d : Nat) (l : List Int) (k : Nat) : Int := rd l ((k / d : Nat) : Int) / 2 ^ (d - 1 - k % d) % 2
theorem sbit_bin (d : Nat) (l : List Int) : Bin (sbit d l) := fun k => mod2 _
theorem acc_sbit (d : Nat) (l : List Int) (i : Nat) (hd : 0 < d) : acc (sbit d l) (i * d) d = rd l (i : Int) % 2 ^ d := by
  have h1 := acc_num (f := sbit d l) (rd l (i : Int)) d (i * d) (fun j hj => by
    unfold sbit
    rw [show (i * d + j) / d = i by rw [Nat.mul_comm, Nat.mul_add_div hd, Nat.div_eq_of_lt hj, Nat.add_zero], show (i * d + j) % d = j by rw [Nat.mul_comm, Nat.mul_add_mod, Nat.mod_eq_of_lt hj]]) d (Nat.le_refl _)
  rw [h1, Nat.sub_self, Int.pow_zero, Int.ediv_one]
/-- Byte j of the first K bits, zeros behind them. -/
def byteOf (f : Nat → Int) (K j : Nat) : Int := acc f (8 * j) (min 8 (K - 8 * j)) * 2 ^ (8 - min 8 (K - 8 * j))
theorem byteOf_range {f : Nat → Int} (h : Bin f) (K j : Nat) : 0 ≤ byteOf f K j ∧ byteOf f K j ≤ 255 := by
  unfold byteOf
  have hr := acc_range h (8 * j) (min 8 (K - 8 * j))
  have hp := pow_pos' (8 - min 8 (K - 8 * j))
  refine ⟨Int.mul_nonneg hr.1 (by omega), ?_⟩
  have h1 : acc f (8 * j) (min 8 (K - 8 * j)) * 2 ^ (8 - min 8 (K - 8 * j)) ≤ (2 ^ min 8 (K - 8 * j) - 1) * 2 ^ (8 - min 8 (K - 8 * j)) := Int.mul_le_mul_of_nonneg_right (by omega) (by omega)
  have h2 : (2 : Int) ^ min 8 (K - 8 * j) * 2 ^ (8 - min 8 (K - 8 * j)) = 256 := by rw [← Int.pow_add, show min 8 (K - 8 * j) + (8 - min 8 (K - 8 * j)) = 8 by omega]; rfl
  have h3 : ((2 : Int) ^ min 8 (K - 8 * j) - 1) * 2 ^ (8 - min 8 (K - 8 * j)) = 256 - 2 ^ (8 - min 8 (K - 8 * j)) := by rw [Int.sub_mul, h2]; omega
  omega
theorem byteOf_full {f : Nat → Int} {K j : Nat} (h : 8 * j + 8 ≤ K) : byteOf f K j = acc f (8 * j) 8 := by
  unfold byteOf
  rw [show min 8 (K - 8 * j) = 8 by omega]
  simp
theorem byteOf_step {f : Nat → Int} {K j : Nat} (h : K / 8 ≠ j) : byteOf f (K + 1) j = byteOf f K j := by
  unfold byteOf
  by_cases h1 : K < 8 * j
  · rw [show min 8 (K - 8 * j) = 0 by omega, show min 8 (K + 1 - 8 * j) = 0 by omega]
  · rw [show min 8 (K - 8 * j) = 8 by omega, show min 8 (K + 1 - 8 * j) = 8 by omega]
theorem byteOf_next (f : Nat → Int) (K : Nat) : byteOf f (K + 1) (K / 8) = byteOf f K (K / 8) + f K * 2 ^ (7 - K % 8) := by
  unfold byteOf
  rw [show min 8 (K - 8 * (K / 8)) = K % 8 by omega, show min 8 (K + 1 - 8 * (K / 8)) = K % 8 + 1 by omega]
  rw [acc_succ, show 8 * (K / 8) + K % 8 = K by omega, show 8 - K % 8 = (7 - K % 8) + 1 by omega, show 8 - (K % 8 + 1) = 7 - K % 8 by omega, Int.pow_succ, Int.add_mul, ← Int.mul_assoc]
  rw [Int.mul_comm 2 (acc f (8 * (K / 8)) (K % 8)), Int.mul_assoc, Int.mul_comm 2, ← Int.mul_assoc]
theorem byteOf_low (f : Nat → Int) (K : Nat) : byteOf f K (K / 8) % 2 ^ (8 - K % 8) = 0 := by
  unfold byteOf
  rw [show min 8 (K - 8 * (K / 8)) = K % 8 by omega]
  exact Int.mul_emod_left _ _
/-- A bit of a byte. -/
theorem byteOf_bit {f : Nat → Int} (h : Bin f) {K k : Nat} (hk : k < K) : byteOf f K (k / 8) / 2 ^ (7 - k % 8) % 2 = f k := by
  unfold byteOf
  have e1 : 7 - k % 8 = (8 - min 8 (K - 8 * (k / 8))) + (min 8 (K - 8 * (k / 8)) - (k % 8 + 1)) := by omega
  have hp := pow_pos' (8 - min 8 (K - 8 * (k / 8)))
  rw [e1, Int.pow_add, ← Int.ediv_ediv_of_nonneg (by omega), Int.mul_ediv_cancel _ (by omega)]
  have e2 : min 8 (K - 8 * (k / 8)) = k % 8 + 1 + (min 8 (K - 8 * (k / 8)) - (k % 8 + 1)) := by omega
  rw [show acc f (8 * (k / 8)) (min 8 (K - 8 * (k / 8))) = acc f (8 * (k / 8)) (k % 8 + 1 + (min 8 (K - 8 * (k / 8)) - (k % 8 + 1))) by rw [← e2], acc_bit h]
  congr 1
  omega
/-- The bytes of the first K bits. -/
def bytesK (f : Nat → Int) (K : Nat) : List Int := (List.range ((K + 7) / 8)).map (byteOf f K)
theorem bytesK_byt {f : Nat → Int} (h : Bin f) (K : Nat) : Byt (bytesK f K) := by
  intro x hx
  obtain ⟨j, _, rfl⟩ := List.mem_map.1 hx
  exact byteOf_range h K j
theorem bytesK_size (f : Nat → Int) (K : Nat) : (strOfNums (bytesK f K)).size = (K + 7) / 8 := by
  rw [strOfNums_size]
  simp [bytesK]
theorem bytesK_bt {f : Nat → Int} (h : Bin f) {K j : Nat} (hj : j < (K + 7) / 8) : bt (strOfNums (bytesK f K)) (j : Int) = byteOf f K j := by
  rw [bt_str (bytesK_byt h K)]
  unfold bytesK
  rw [rd_range (by omega) (by omega)]
  rfl
theorem bytesK_rbit {f : Nat → Int} (h : Bin f) {K k : Nat} (hk : k < K) : rbit (strOfNums (bytesK f K)) k = f k := by
  unfold rbit
  rw [bytesK_bt h (by omega), byteOf_bit h hk]

end Go.Proofs.Ytpccfanjdbenlaa.Pure
