/- The cyclic sum of bytes, plain: the program's and the document's answer are one function on numbers below 2^32. Condition: strings as long as the model allows. -/
import Derived.Test.YtnimhhhbefpifaaPL20x7
import Derived.Test.YtnimhhhbefpifaaPL20x15
import Derived.Test.YtnimhhhbefpifaaPureBits
namespace Go.Proofs.Ytnimhhhbefpifaa.Pure
open Go.RowKit Go.Proofs.YtnimhhhbefpifaaW.PrintWords Go.Proofs.YtnimhhhbefpifaaW.PrintLast Go.Proofs.YtnimhhhbefpifaaW.PrintMore Go.Proofs.Ytnimhhhbefpifaa.PL20
set_option linter.unusedVariables false
set_option linter.unusedSimpArgs false
theorem xor_nat (a b : Nat) (ha : a < 2 ^ 62) (hb : b < 2 ^ 62) : Go.bits .xor .i64 (a : Int) (b : Int) = ((a ^^^ b : Nat) : Int) := by
  have e : Go.bits .xor .i64 (a : Int) (b : Int) = IntKind.i64.wrap ((BitVec.ofInt 64 (a : Int) ^^^ BitVec.ofInt 64 (b : Int)).toNat : Int) := rfl
  rw [e, BitVec.ofInt_natCast, BitVec.ofInt_natCast, BitVec.toNat_xor, BitVec.toNat_ofNat, BitVec.toNat_ofNat, Nat.mod_eq_of_lt (by omega), Nat.mod_eq_of_lt (by omega)]
  have := Nat.xor_lt_two_pow ha hb
  exact wrapi64 (by omega) (by omega)
def crcBit (c : Nat) : Nat := if c % 2 = 1 then (c / 2) ^^^ 3988292384 else c / 2
def crcBits : Nat → Nat → Nat
  | 0, c => c
  | n + 1, c => crcBits n (crcBit c)
def crcByte (c : Nat) (b : UInt8) : Nat := crcBits 8 (c ^^^ b.toNat)
def crcL (l : List UInt8) (c : Nat) : Nat := l.foldl crcByte c
def crc (s : ByteArray) : Int := ((crcL s.data.toList 4294967295 ^^^ 4294967295 : Nat) : Int)
theorem xor_lt32 {a b : Nat} (ha : a < 4294967296) (hb : b < 4294967296) : a ^^^ b < 4294967296 := Nat.xor_lt_two_pow (n := 32) ha hb
theorem crcBit_lt {c : Nat} (h : c < 4294967296) : crcBit c < 4294967296 := by
  unfold crcBit
  split
  · exact xor_lt32 (by omega) (by omega)
  · omega
theorem crcBits_lt : ∀ (n : Nat) {c : Nat}, c < 4294967296 → crcBits n c < 4294967296
  | 0, _, h => h
  | n + 1, _, h => crcBits_lt n (crcBit_lt h)
theorem crcByte_lt {c : Nat} (h : c < 4294967296) (b : UInt8) : crcByte c b < 4294967296 := by
  have := b.toNat_lt
  exact crcBits_lt 8 (xor_lt32 h (by omega))
theorem crcL_lt : ∀ (l : List UInt8) {c : Nat}, c < 4294967296 → crcL l c < 4294967296
  | [], _, h => h
  | b :: l, _, h => crcL_lt l (crcByte_lt h b)
theorem crc_range (s : ByteArray) : 0 ≤ crc s ∧ crc s < 4294967296 := by
  unfold crc
  have := xor_lt32 (crcL_lt s.data.toList (c := 4294967295) (by omega)) (b := 4294967295) (by omega)
  omega
theorem bt_list (s : ByteArray) (i : Nat) (h : i < s.data.toList.length) : bt s (i : Int) = ((s.data.toList[i]).toNat : Int) := by
  have h1 : (i : Int).toNat < s.size := by rw [Int.toNat_natCast, ← data_length]; exact h
  unfold bt
  rw [dif_pos h1]
  rfl
theorem and_one (c : Nat) : Go.bits .and .i64 (c : Int) 1 = ((c % 2 : Nat) : Int) := by
  have h := and_mask (c : Int) 1 (by decide)
  rw [show ((2 : Int) ^ 1 - 1) = 1 from rfl, show ((2 : Int) ^ 1) = 2 from rfl] at h
  rw [h]
  omega
theorem crc_bit_prog {c : Nat} (h : c < 4294967296) : Go.bits .xor .i64 ((c : Int) / 2) (wrap64 (3988292384 * (Go.bits .and .i64 (c : Int) 1))) = ((crcBit c : Nat) : Int) := by
  rw [and_one, show ((c : Int) / 2) = ((c / 2 : Nat) : Int) by omega]
  unfold crcBit
  by_cases h1 : c % 2 = 1
  · rw [if_pos h1, h1, show wrap64 (3988292384 * ((1 : Nat) : Int)) = ((3988292384 : Nat) : Int) by decide +kernel]
    exact xor_nat _ _ (by omega) (by omega)
  · rw [if_neg h1, show c % 2 = 0 by omega, show wrap64 (3988292384 * ((0 : Nat) : Int)) = ((0 : Nat) : Int) by decide +kernel, xor_nat _ _ (by omega) (by omega), Nat.xor_zero]
theorem crc_in_prog (s : ByteArray) (m : Int) (i : Nat) (hi : i ≤ 4611686018427387904) {r : Int} : ∀ (n j c : Nat), j + n = 8 → c < 4294967296 → Ev (fun k => bits_Crc.l0 k s ((crcBits n c : Nat) : Int) m ((i + 1 : Nat) : Int)) r → Ev (fun k => bits_Crc.l1 k s (c : Int) m (i : Int) (j : Int)) r := by
  intro n
  induction n with
  | zero =>
    intro j c hj hc h
    refine Ev.step (fun k => ?_) h
    simp only [bits_Crc.l1]
    rw [if_neg (by omega), w64 (by omega) (by omega)]
    rfl
  | succ n ih =>
    intro j c hj hc h
    refine Ev.step (fun k => ?_) (ih (j + 1) (crcBit c) (by omega) (crcBit_lt hc) h)
    simp only [bits_Crc.l1]
    rw [if_pos (by omega), crc_bit_prog hc, w64 (by omega) (by omega)]
    rfl
theorem crc_prog (s : ByteArray) (hs : s.size ≤ 4611686018427387904) : ∀ (d i c : Nat), i + d = s.size → c < 4294967296 → Ev (fun k => bits_Crc.l0 k s (c : Int) (s.size : Int) (i : Int)) ((crcL (s.data.toList.drop i) c ^^^ 4294967295 : Nat) : Int) := by
  intro d
  induction d with
  | zero =>
    intro i c hi hc
    have hl := data_length s
    rw [List.drop_of_length_le (by omega)]
    refine Ev.step (f := fun _ => some ((c ^^^ 4294967295 : Nat) : Int)) (fun k => ?_) (Ev.now _)
    simp only [bits_Crc.l0]
    rw [if_neg (by omega)]
    congr 1
    exact xor_nat c 4294967295 (by omega) (by omega)
  | succ d ih =>
    intro i c hi hc
    have hl := data_length s
    have hlt : i < s.data.toList.length := by omega
    have hb := bt_list s i hlt
    have hb2 := (s.data.toList[i]).toNat_lt
    rw [List.drop_eq_getElem_cons hlt]
    have hx : c ^^^ (s.data.toList[i]).toNat < 4294967296 := xor_lt32 hc (by omega)
    refine Ev.step (fun k => ?_) (crc_in_prog s (s.size : Int) i (by omega) 8 0 (c ^^^ (s.data.toList[i]).toNat) rfl hx (ih (i + 1) _ (by omega) (crcBits_lt 8 hx)))
    simp only [bits_Crc.l0]
    rw [if_pos (by omega), if_pos (by omega), if_pos (by omega), hb, w64 (by omega) (by omega), xor_nat c _ (by omega) (by omega)]
    rfl
theorem Crc_ev (s : ByteArray) (hs : s.size ≤ 4611686018427387904) : Ev (fun k => bits_Crc.f k s) (crc s) := by
  unfold bits_Crc.f
  exact ev_same (crc_prog s hs s.size 0 4294967295 (by omega) (by omega)) (by rw [List.drop_zero]; rfl)
theorem crc_in_ref (s : ByteArray) (i : Nat) (hi : i ≤ 4611686018427387904) {r : Int} : ∀ (n j c : Nat), j + n = 8 → c < 4294967296 → Ev (fun k => vitrineref01_Crc.l0 k s ((crcBits n c : Nat) : Int) ((i + 1 : Nat) : Int)) r → Ev (fun k => vitrineref01_Crc.l1 k s (c : Int) (i : Int) (j : Int)) r := by
  intro n
  induction n with
  | zero =>
    intro j c hj hc h
    refine Ev.step (fun k => ?_) h
    simp only [vitrineref01_Crc.l1]
    rw [if_neg (by omega), w64 (by omega) (by omega)]
    rfl
  | succ n ih =>
    intro j c hj hc h
    refine Ev.step (fun k => ?_) (ih (j + 1) (crcBit c) (by omega) (crcBit_lt hc) h)
    simp only [vitrineref01_Crc.l1]
    have e1 : Int.tmod (c : Int) 2 = ((c % 2 : Nat) : Int) := by rw [Int.tmod_eq_emod_of_nonneg (by omega)]; omega
    have e2 : Int.tdiv (c : Int) 2 = ((c / 2 : Nat) : Int) := by rw [Int.tdiv_eq_ediv_of_nonneg (by omega)]; omega
    rw [if_pos (by omega), e1, e2, w64 (x := ((c / 2 : Nat) : Int)) (by omega) (by omega), w64 (x := (j : Int) + 1) (by omega) (by omega)]
    unfold crcBit
    by_cases h1 : c % 2 = 1
    · rw [if_pos h1, if_pos (by omega), show (3988292384 : Int) = ((3988292384 : Nat) : Int) from rfl, xor_nat _ _ (by omega) (by omega)]
      rfl
    · rw [if_neg h1, if_neg (by omega)]
      rfl
theorem crc_ref (s : ByteArray) (hs : s.size ≤ 4611686018427387904) : ∀ (d i c : Nat), i + d = s.size → c < 4294967296 → Ev (fun k => vitrineref01_Crc.l0 k s (c : Int) (i : Int)) ((crcL (s.data.toList.drop i) c ^^^ 4294967295 : Nat) : Int) := by
  intro d
  induction d with
  | zero =>
    intro i c hi hc
    have hl := data_length s
    rw [List.drop_of_length_le (by omega)]
    refine Ev.step (f := fun _ => some ((c ^^^ 4294967295 : Nat) : Int)) (fun k => ?_) (Ev.now _)
    simp only [vitrineref01_Crc.l0]
    rw [if_neg (by omega)]
    congr 1
    exact xor_nat c 4294967295 (by omega) (by omega)
  | succ d ih =>
    intro i c hi hc
    have hl := data_length s
    have hlt : i < s.data.toList.length := by omega
    have hb := bt_list s i hlt
    have hb2 := (s.data.toList[i]).toNat_lt
    rw [List.drop_eq_getElem_cons hlt]
    have hx : c ^^^ (s.data.toList[i]).toNat < 4294967296 := xor_lt32 hc (by omega)
    refine Ev.step (fun k => ?_) (crc_in_ref s i (by omega) 8 0 (c ^^^ (s.data.toList[i]).toNat) rfl hx (ih (i + 1) _ (by omega) (crcBits_lt 8 hx)))
    simp only [vitrineref01_Crc.l0]
    rw [if_pos (by omega), if_pos (by omega), hb, w64 (by omega) (by omega), xor_nat c _ (by omega) (by omega)]
    rfl
theorem rCrc_ev (s : ByteArray) (hs : s.size ≤ 4611686018427387904) : Ev (fun k => vitrineref01_Crc.f k s) (crc s) := by
  unfold vitrineref01_Crc.f
  exact ev_same (crc_ref s hs s.size 0 4294967295 (by omega) (by omega)) (by rw [List.drop_zero]; rfl)

end Go.Proofs.Ytnimhhhbefpifaa.Pure
