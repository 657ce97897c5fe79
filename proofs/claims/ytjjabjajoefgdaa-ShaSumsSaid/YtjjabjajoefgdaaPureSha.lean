/- The hash of bytes, plain: the program's words (32 bits) and the document's (numbers below 2^32) are one function on Nat. Conditions: those that each lemma names. -/
import Derived.Test.YtjjabjajoefgdaaPL14x2
import Derived.Test.YtjjabjajoefgdaaPL14x3
import Derived.Test.YtjjabjajoefgdaaPureBits
namespace Go.Proofs.Ytjjabjajoefgdaa.Pure
open Go.RowKit Go.Proofs.YtjjabjajoefgdaaW.PrintWords Go.Proofs.YtjjabjajoefgdaaW.PrintLast Go.Proofs.YtjjabjajoefgdaaW.PrintMore Go.Proofs.Ytjjabjajoefgdaa.PL14
set_option linter.unusedVariables false
set_option linter.unusedSimpArgs false
theorem bits_u32 (a b : Nat) (ha : a < 4294967296) (hb : b < 4294967296) :
    Go.bits .or .u32 (a : Int) (b : Int) = ((a ||| b : Nat) : Int) ∧ Go.bits .xor .u32 (a : Int) (b : Int) = ((a ^^^ b : Nat) : Int) ∧ Go.bits .and .u32 (a : Int) (b : Int) = ((a &&& b : Nat) : Int) ∧ Go.bits .andNot .u32 (a : Int) (b : Int) = ((a &&& (4294967295 - b) : Nat) : Int) := by
  have w : ∀ n : Nat, n < 4294967296 → IntKind.u32.wrap ((n : Nat) : Int) = (n : Int) := fun n hn => by rw [IntKind.wrap_u32']; omega
  have e1 : Go.bits .or .u32 (a : Int) (b : Int) = IntKind.u32.wrap ((BitVec.ofInt 32 (a : Int) ||| BitVec.ofInt 32 (b : Int)).toNat : Int) := rfl
  have e2 : Go.bits .xor .u32 (a : Int) (b : Int) = IntKind.u32.wrap ((BitVec.ofInt 32 (a : Int) ^^^ BitVec.ofInt 32 (b : Int)).toNat : Int) := rfl
  have e3 : Go.bits .and .u32 (a : Int) (b : Int) = IntKind.u32.wrap ((BitVec.ofInt 32 (a : Int) &&& BitVec.ofInt 32 (b : Int)).toNat : Int) := rfl
  have e4 : Go.bits .andNot .u32 (a : Int) (b : Int) = IntKind.u32.wrap ((BitVec.ofInt 32 (a : Int) &&& ~~~ BitVec.ofInt 32 (b : Int)).toNat : Int) := rfl
  refine ⟨?_, ?_, ?_, ?_⟩
  · rw [e1, BitVec.ofInt_natCast, BitVec.ofInt_natCast, BitVec.toNat_or, BitVec.toNat_ofNat, BitVec.toNat_ofNat, Nat.mod_eq_of_lt (by omega), Nat.mod_eq_of_lt (by omega)]
    exact w _ (Nat.or_lt_two_pow (n := 32) ha hb)
  · rw [e2, BitVec.ofInt_natCast, BitVec.ofInt_natCast, BitVec.toNat_xor, BitVec.toNat_ofNat, BitVec.toNat_ofNat, Nat.mod_eq_of_lt (by omega), Nat.mod_eq_of_lt (by omega)]
    exact w _ (Nat.xor_lt_two_pow (n := 32) ha hb)
  · rw [e3, BitVec.ofInt_natCast, BitVec.ofInt_natCast, BitVec.toNat_and, BitVec.toNat_ofNat, BitVec.toNat_ofNat, Nat.mod_eq_of_lt (by omega), Nat.mod_eq_of_lt (by omega)]
    exact w _ (Nat.lt_of_le_of_lt Nat.and_le_left ha)
  · rw [e4, BitVec.ofInt_natCast, BitVec.ofInt_natCast, BitVec.toNat_and, BitVec.toNat_not, BitVec.toNat_ofNat, BitVec.toNat_ofNat, Nat.mod_eq_of_lt (by omega), Nat.mod_eq_of_lt (by omega)]
    exact w _ (Nat.lt_of_le_of_lt Nat.and_le_left ha)
theorem bits_i64 (a b : Nat) (ha : a < 2 ^ 62) (hb : b < 2 ^ 62) :
    Go.bits .or .i64 (a : Int) (b : Int) = ((a ||| b : Nat) : Int) ∧ Go.bits .xor .i64 (a : Int) (b : Int) = ((a ^^^ b : Nat) : Int) ∧ Go.bits .and .i64 (a : Int) (b : Int) = ((a &&& b : Nat) : Int) := by
  have e1 : Go.bits .or .i64 (a : Int) (b : Int) = IntKind.i64.wrap ((BitVec.ofInt 64 (a : Int) ||| BitVec.ofInt 64 (b : Int)).toNat : Int) := rfl
  have e2 : Go.bits .xor .i64 (a : Int) (b : Int) = IntKind.i64.wrap ((BitVec.ofInt 64 (a : Int) ^^^ BitVec.ofInt 64 (b : Int)).toNat : Int) := rfl
  have e3 : Go.bits .and .i64 (a : Int) (b : Int) = IntKind.i64.wrap ((BitVec.ofInt 64 (a : Int) &&& BitVec.ofInt 64 (b : Int)).toNat : Int) := rfl
  refine ⟨?_, ?_, ?_⟩
  · rw [e1, BitVec.ofInt_natCast, BitVec.ofInt_natCast, BitVec.toNat_or, BitVec.toNat_ofNat, BitVec.toNat_ofNat, Nat.mod_eq_of_lt (by omega), Nat.mod_eq_of_lt (by omega)]
    have := Nat.or_lt_two_pow ha hb
    exact wrapi64 (by omega) (by omega)
  · rw [e2, BitVec.ofInt_natCast, BitVec.ofInt_natCast, BitVec.toNat_xor, BitVec.toNat_ofNat, BitVec.toNat_ofNat, Nat.mod_eq_of_lt (by omega), Nat.mod_eq_of_lt (by omega)]
    have := Nat.xor_lt_two_pow ha hb
    exact wrapi64 (by omega) (by omega)
  · rw [e3, BitVec.ofInt_natCast, BitVec.ofInt_natCast, BitVec.toNat_and, BitVec.toNat_ofNat, BitVec.toNat_ofNat, Nat.mod_eq_of_lt (by omega), Nat.mod_eq_of_lt (by omega)]
    have : a &&& b ≤ a := Nat.and_le_left
    exact wrapi64 (by omega) (by omega)
/-! ### The words -/
def nrot (x n : Nat) : Nat := x / 2 ^ n ||| x * 2 ^ (32 - n) % 4294967296
theorem nrot_lt {x : Nat} (h : x < 4294967296) (n : Nat) : nrot x n < 4294967296 :=
  Nat.or_lt_two_pow (n := 32) (Nat.lt_of_le_of_lt (Nat.div_le_self _ _) h) (Nat.mod_lt _ (by decide))
theorem trn_eq (x n : Nat) (hx : x < 4294967296) (hn : n ≤ 32) : sha_trn (x : Int) (n : Int) = (nrot x n : Int) := by
  unfold sha_trn shr shl
  have h1 : wrap64 (32 - (n : Int)) = ((32 - n : Nat) : Int) := by unfold wrap64; omega
  have h2 : (IntKind.u32.bits : Nat) = 32 := rfl
  rw [h1, Int.toNat_natCast, Int.toNat_natCast, h2, Nat.min_eq_left hn, Nat.min_eq_left (by omega), IntKind.wrap_u32']
  have h3 : (x : Int) / 2 ^ n = ((x / 2 ^ n : Nat) : Int) := by push_cast; rfl
  have h4 : (x : Int) * 2 ^ (32 - n) % 4294967296 = ((x * 2 ^ (32 - n) % 4294967296 : Nat) : Int) := by rw [Int.natCast_emod, Int.natCast_mul, Int.natCast_pow]; rfl
  rw [h3, h4]
  exact (bits_u32 _ _ (Nat.lt_of_le_of_lt (Nat.div_le_self _ _) hx) (Nat.mod_lt _ (by decide))).1
theorem turned_ev (x n : Nat) (hx : x < 4294967296) (h2 : 2 ≤ n) (hn : n ≤ 32) : vitrineref14_turned.f (x : Int) (n : Int) = some (nrot x n : Int) := by
  have h1 : wrap64 (32 - (n : Int)) = ((32 - n : Nat) : Int) := by unfold wrap64; omega
  unfold vitrineref14_turned.f
  rw [if_pos (by omega), h1, if_pos (by omega)]
  unfold shr shl
  have h3 : (x : Int) / 2 ^ n = ((x / 2 ^ n : Nat) : Int) := by push_cast; rfl
  have h4 : (x : Int) * 2 ^ (32 - n) = ((x * 2 ^ (32 - n) : Nat) : Int) := by rw [Int.natCast_mul, Int.natCast_pow]; rfl
  have h5 : x * 2 ^ (32 - n) < 2 ^ 62 := by
    have a : 2 ^ (32 - n) ≤ 2 ^ 30 := Nat.pow_le_pow_right (by decide) (by omega)
    exact Nat.lt_of_le_of_lt (Nat.mul_le_mul (show x ≤ 4294967295 by omega) a) (by decide)
  have h6 : IntKind.i64.bits = 64 := rfl
  rw [Int.toNat_natCast, Int.toNat_natCast, h6, Nat.min_eq_left (by omega), Nat.min_eq_left (by omega), h3, h4, wrapi64 (by omega) (by omega), (bits_i64 _ _ (by have := Nat.div_le_self x (2 ^ n); omega) h5).1]
  congr 1
  rw [Int.tmod_eq_emod_of_nonneg (by omega)]
  have : ((4294967296 : Int)) = ((4294967296 : Nat) : Int) := rfl
  rw [this, ← Int.natCast_emod]
  congr 1
  unfold nrot
  rw [show (4294967296 : Nat) = 2 ^ 32 from rfl, Nat.or_mod_two_pow, Nat.mod_eq_of_lt (a := x / 2 ^ n) (Nat.lt_of_le_of_lt (Nat.div_le_self _ _) hx)]

end Go.Proofs.Ytjjabjajoefgdaa.Pure
