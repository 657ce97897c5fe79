/- Plain lemmas on Go's bit operations on whole numbers: masks, joins and shifts as arithmetic. Conditions: those that each lemma names. -/
import Derived.Test.YtjjabjajoefgdaaPureBase
namespace Go.Proofs.Ytjjabjajoefgdaa.Pure
open Go.RowKit Go.Proofs.YtjjabjajoefgdaaW.PrintWords Go.Proofs.YtjjabjajoefgdaaW.PrintLast Go.Proofs.YtjjabjajoefgdaaW.PrintMore
set_option linter.unusedVariables false
set_option linter.unusedSimpArgs false
theorem wrapi64 {x : Int} (h1 : -9223372036854775808 ≤ x) (h2 : x ≤ 9223372036854775807) : IntKind.i64.wrap x = x := by
  rw [IntKind.wrap_i64]
  omega
theorem pow_pos' (i : Nat) : (0 : Int) < 2 ^ i := by
  have := Nat.two_pow_pos i
  exact_mod_cast this
/-- 'x & (2^i - 1)', of whatever x. -/
theorem and_mask (x : Int) (i : Nat) (hi : i ≤ 62) : Go.bits .and .i64 x (2 ^ i - 1) = x % 2 ^ i := by
  have hp : (2 : Nat) ^ i ≤ 2 ^ 62 := Nat.pow_le_pow_right (by decide) hi
  have h0 : 0 < 2 ^ i := Nat.two_pow_pos i
  have hz := pow_pos' i
  have hm : ((2 : Int) ^ i - 1) = ((2 ^ i - 1 : Nat) : Int) := by rw [Int.natCast_sub h0]; simp
  have e2 : (2 ^ i - 1) % 2 ^ 64 = 2 ^ i - 1 := Nat.mod_eq_of_lt (by omega)
  have hr : 0 ≤ x % 2 ^ i := Int.emod_nonneg _ (by omega)
  have hl : x % 2 ^ i < 2 ^ i := Int.emod_lt_of_pos _ hz
  have hx : (x % 18446744073709551616).toNat % 2 ^ i = (x % 2 ^ i).toNat := by
    have h1 : ((x % 18446744073709551616).toNat : Int) = x % 18446744073709551616 := Int.toNat_of_nonneg (Int.emod_nonneg _ (by decide))
    have h2 : ((x % 2 ^ i).toNat : Int) = x % 2 ^ i := Int.toNat_of_nonneg hr
    have h3 : (x % 18446744073709551616) % 2 ^ i = x % 2 ^ i := by
      have hd : (18446744073709551616 : Int) = 2 ^ i * 2 ^ (64 - i) := by rw [← Int.pow_add, show i + (64 - i) = 64 by omega]; rfl
      exact Int.emod_emod_of_dvd x ⟨_, hd⟩
    have h4 : (((x % 18446744073709551616).toNat % 2 ^ i : Nat) : Int) = ((x % 2 ^ i).toNat : Int) := by
      rw [Int.natCast_emod, h1, h2, ← h3, Int.natCast_pow]
      rfl
    exact Int.ofNat_inj.1 h4
  rw [hm]
  have e4 : Go.bits .and .i64 x ((2 ^ i - 1 : Nat) : Int) = IntKind.i64.wrap ((BitVec.ofInt 64 x &&& BitVec.ofInt 64 ((2 ^ i - 1 : Nat) : Int)).toNat : Int) := rfl
  rw [e4, BitVec.ofInt_natCast, BitVec.toNat_and, BitVec.toNat_ofNat, BitVec.toNat_ofInt, e2, Nat.and_two_pow_sub_one_eq_mod]
  have e3 : (x % ((2 ^ 64 : Nat) : Int)).toNat = (x % 18446744073709551616).toNat := rfl
  rw [e3, hx]
  have hp2 : (2 : Int) ^ i ≤ 2 ^ 62 := by exact_mod_cast hp
  rw [Int.toNat_of_nonneg hr]
  exact wrapi64 (by omega) (by omega)
theorem or_join {x y : Int} (i : Nat) (hx : x % 2 ^ i = 0) (hx0 : 0 ≤ x) (hx1 : x < 2 ^ 62) (hy0 : 0 ≤ y) (hy1 : y < 2 ^ i) (hy2 : y < 2 ^ 62) : Go.bits .or .i64 x y = x + y :=
  bits_join .i64 62 (by decide) (fun n h0 h1 => wrapi64 (by omega) (by omega)) i x y hx0 hx hx1 hy0 hy1 hy2
theorem shl_pow {x : Int} {d : Nat} (h0 : 0 ≤ x * 2 ^ d) (h1 : x * 2 ^ d ≤ 9223372036854775807) (hd : d ≤ 64) : shl .i64 x (d : Int) = x * 2 ^ d := by
  unfold shl
  rw [Int.toNat_natCast, show min d IntKind.i64.bits = d from Nat.min_eq_left hd]
  exact wrapi64 (by omega) h1
theorem shr_pow {x : Int} {d : Nat} (hd : d ≤ 64) : shr .i64 x (d : Int) = x / 2 ^ d := by
  unfold shr
  rw [Int.toNat_natCast, show min d IntKind.i64.bits = d from Nat.min_eq_left hd]

end Go.Proofs.Ytjjabjajoefgdaa.Pure
