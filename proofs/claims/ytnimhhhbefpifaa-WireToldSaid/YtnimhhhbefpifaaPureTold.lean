/- The cyclic sum tells a byte that is changed, plain: the sum of a list in which one byte is another one is another one. Condition: states below 2^32. -/
import Derived.Test.YtnimhhhbefpifaaPureCrc
import Derived.Test.YtnimhhhbefpifaaPureNum4
namespace Go.Proofs.Ytnimhhhbefpifaa.Pure
open Go.RowKit Go.Proofs.YtnimhhhbefpifaaW.PrintWords Go.Proofs.YtnimhhhbefpifaaW.PrintLast Go.Proofs.YtnimhhhbefpifaaW.PrintMore
set_option linter.unusedVariables false
set_option linter.unusedSimpArgs false
theorem xor_cancel {a b p : Nat} (h : a ^^^ p = b ^^^ p) : a = b := by
  have h1 : (a ^^^ p) ^^^ p = (b ^^^ p) ^^^ p := by rw [h]
  rwa [Nat.xor_assoc, Nat.xor_self, Nat.xor_zero, Nat.xor_assoc, Nat.xor_self, Nat.xor_zero] at h1
theorem xor_cancel' {a b p : Nat} (h : p ^^^ a = p ^^^ b) : a = b := by
  rw [Nat.xor_comm p a, Nat.xor_comm p b] at h
  exact xor_cancel h
theorem crcBit_odd_even {c d : Nat} (hc : c < 4294967296) (hd : d < 4294967296) : (c / 2) ^^^ 3988292384 ≠ d / 2 := by
  intro h
  have h1 : (c / 2) ^^^ (d / 2) < 2 ^ 31 := Nat.xor_lt_two_pow (by omega) (by omega)
  have h2 : (c / 2) ^^^ (d / 2) = 3988292384 := by
    rw [← h, ← Nat.xor_assoc, Nat.xor_self, Nat.zero_xor]
  omega
theorem crcBit_inj {c d : Nat} (hc : c < 4294967296) (hd : d < 4294967296) (h : crcBit c = crcBit d) : c = d := by
  unfold crcBit at h
  by_cases h1 : c % 2 = 1
  · by_cases h2 : d % 2 = 1
    · rw [if_pos h1, if_pos h2] at h
      have := xor_cancel h
      omega
    · rw [if_pos h1, if_neg h2] at h
      exact absurd h (crcBit_odd_even hc hd)
  · by_cases h2 : d % 2 = 1
    · rw [if_neg h1, if_pos h2] at h
      exact absurd h.symm (crcBit_odd_even hd hc)
    · rw [if_neg h1, if_neg h2] at h
      omega
theorem crcBits_inj : ∀ (n : Nat) {c d : Nat}, c < 4294967296 → d < 4294967296 → crcBits n c = crcBits n d → c = d
  | 0, _, _, _, _, h => h
  | n + 1, _, _, hc, hd, h => crcBit_inj hc hd (crcBits_inj n (crcBit_lt hc) (crcBit_lt hd) h)
theorem crcByte_inj {c d : Nat} (hc : c < 4294967296) (hd : d < 4294967296) (b : UInt8) (h : crcByte c b = crcByte d b) : c = d := by
  have hb := b.toNat_lt
  exact xor_cancel (crcBits_inj 8 (xor_lt32 hc (by omega)) (xor_lt32 hd (by omega)) h)
theorem crcByte_inj' {c : Nat} (hc : c < 4294967296) (a b : UInt8) (h : crcByte c a = crcByte c b) : a = b := by
  have ha := a.toNat_lt
  have hb := b.toNat_lt
  exact UInt8.toNat_inj.1 (xor_cancel' (crcBits_inj 8 (xor_lt32 hc (by omega)) (xor_lt32 hc (by omega)) h))
theorem crcL_inj : ∀ (l : List UInt8) {c d : Nat}, c < 4294967296 → d < 4294967296 → crcL l c = crcL l d → c = d
  | [], _, _, _, _, h => h
  | b :: l, _, _, hc, hd, h => crcByte_inj hc hd b (crcL_inj l (crcByte_lt hc b) (crcByte_lt hd b) h)
theorem crcL_append (p q : List UInt8) (c : Nat) : crcL (p ++ q) c = crcL q (crcL p c) := by
  unfold crcL
  exact List.foldl_append
theorem crcL_told (p q : List UInt8) (a b : UInt8) (hab : a ≠ b) {c : Nat} (hc : c < 4294967296) : crcL (p ++ a :: q) c ≠ crcL (p ++ b :: q) c := by
  intro h
  rw [crcL_append, crcL_append] at h
  have hp := crcL_lt p hc
  exact hab (crcByte_inj' hp a b (crcL_inj q (crcByte_lt hp a) (crcByte_lt hp b) h))
theorem bt_get (s : ByteArray) (i : Nat) (h : i < s.size) : bt s (i : Int) = ((s[i]).toNat : Int) := by
  have h1 : (i : Int).toNat < s.size := by rw [Int.toNat_natCast]; exact h
  unfold bt
  rw [dif_pos h1]
  rfl
/-- One byte of a string is another one: the sum is another one. -/
theorem crc_told (s t : ByteArray) (k : Nat) (hs : s.size = t.size) (hk : k < s.size) (hne : bt s (k : Int) ≠ bt t (k : Int)) (he : ∀ i : Nat, i < s.size → i ≠ k → bt s (i : Int) = bt t (i : Int)) : crc s ≠ crc t := by
  intro h
  have hl := data_length s
  have hl' := data_length t
  unfold crc at h
  have h0 : crcL s.data.toList 4294967295 = crcL t.data.toList 4294967295 := xor_cancel (Int.ofNat_inj.1 h)
  have he2 : ∀ i (h : i < s.data.toList.length) (h' : i < t.data.toList.length), i ≠ k → s.data.toList[i] = t.data.toList[i] := by
    intro i h h' hik
    have := he i (by omega) hik
    rw [bt_list s i h, bt_list t i h'] at this
    exact UInt8.toNat_inj.1 (Int.ofNat_inj.1 this)
  have split : ∀ (u : ByteArray) (hu : k < u.data.toList.length), u.data.toList = u.data.toList.take k ++ u.data.toList[k] :: u.data.toList.drop (k + 1) := by
    intro u hu
    rw [← List.drop_eq_getElem_cons hu, List.take_append_drop]
  have e1 : s.data.toList.take k = t.data.toList.take k := by
    apply List.ext_getElem
    · simp only [List.length_take]; omega
    · intro i h1 h2
      simp only [List.length_take] at h1 h2
      rw [List.getElem_take, List.getElem_take]
      exact he2 i (by omega) (by omega) (by omega)
  have e2 : s.data.toList.drop (k + 1) = t.data.toList.drop (k + 1) := by
    apply List.ext_getElem
    · simp only [List.length_drop]; omega
    · intro i h1 h2
      simp only [List.length_drop] at h1 h2
      rw [List.getElem_drop, List.getElem_drop]
      exact he2 _ (by omega) (by omega) (by omega)
  rw [split s (by omega), split t (by omega), e1, e2] at h0
  refine crcL_told _ _ _ _ ?_ (by omega) h0
  intro e
  rw [bt_list s k (by omega), bt_list t k (by omega)] at hne
  exact hne (by rw [e])
/-! ### One byte of a string changed -/
theorem ba_ext {s t : ByteArray} (hs : s.size = t.size) (h : ∀ i : Nat, i < s.size → bt s (i : Int) = bt t (i : Int)) : s = t := by
  rw [← str_bytes s, ← str_bytes t, bytesOf_range, bytesOf_range, ← hs]
  congr 1
  exact List.map_congr_left fun i hi => h i (List.mem_range.1 hi)
def chg (s : ByteArray) (j : Nat) (v : Int) : ByteArray := strOfNums ((bytesOf s).set j v)
theorem chg_size (s : ByteArray) (j : Nat) (v : Int) : (chg s j v).size = s.size := by
  unfold chg
  rw [str_size, List.length_set, bytesOf_length]
theorem byt_set {xs : List Int} (h : Byt xs) (j : Nat) {v : Int} (hv : 0 ≤ v ∧ v ≤ 255) : Byt (xs.set j v) := by
  intro x hx
  rcases List.mem_or_eq_of_mem_set hx with h1 | h1
  · exact h x h1
  · exact h1 ▸ hv
theorem bt_chg (s : ByteArray) (j : Nat) {v : Int} (hv : 0 ≤ v ∧ v ≤ 255) (i : Nat) (hi : i < s.size) : bt (chg s j v) (i : Int) = if i = j then v else bt s (i : Int) := by
  unfold chg
  rw [bt_str (byt_set (bytesOf_byt s) j hv)]
  have hl := bytesOf_length s
  unfold rd
  rw [List.getD_eq_getElem?_getD, Int.toNat_natCast, List.getElem?_set]
  by_cases e : i = j
  · subst e
    rw [if_pos rfl, if_pos (by omega), if_pos rfl]
    rfl
  · rw [if_neg (fun h => e h.symm), if_neg e]
    have := rd_bytesOf s (i : Int)
    unfold rd at this
    rw [List.getD_eq_getElem?_getD, Int.toNat_natCast] at this
    exact this
/-- What does not hold the changed byte is as it was. -/
theorem chg_cut (s : ByteArray) (j : Nat) {v : Int} (hv : 0 ≤ v ∧ v ≤ 255) (a b : Nat) (hb : b ≤ s.size) (hj : j < a ∨ b ≤ j) : (chg s j v).extract a b = s.extract a b := by
  have hz := chg_size s j v
  refine ba_ext (by rw [ByteArray.size_extract, ByteArray.size_extract, hz]) (fun i hi => ?_)
  rw [ByteArray.size_extract, hz] at hi
  rw [bt_extract _ a b i (by omega) (by omega), bt_extract _ a b i (by omega) (by omega), bt_chg s j hv _ (by omega), if_neg (by omega)]
theorem chg_behind (s : ByteArray) (j a : Nat) {v : Int} (hv : 0 ≤ v ∧ v ≤ 255) (hj : a ≤ j) (hjs : j < s.size) : (chg s j v).extract a (chg s j v).size = chg (s.extract a s.size) (j - a) v := by
  have hz := chg_size s j v
  have hz2 : (s.extract a s.size).size = s.size - a := by rw [ByteArray.size_extract]; omega
  refine ba_ext (by rw [ByteArray.size_extract, hz, chg_size, hz2]; omega) (fun i hi => ?_)
  rw [ByteArray.size_extract, hz] at hi
  rw [bt_extract _ a _ i (by omega) (by omega), bt_chg s j hv _ (by omega), bt_chg _ (j - a) hv _ (by omega), bt_extract _ a _ i (by omega) (by omega)]
  by_cases e : a + i = j
  · rw [if_pos e, if_pos (by omega)]
  · rw [if_neg e, if_neg (by omega)]
theorem chg_crc (s : ByteArray) (j : Nat) {v : Int} (hv : 0 ≤ v ∧ v ≤ 255) (hne : v ≠ bt s (j : Int)) (a b : Nat) (hb : b ≤ s.size) (h1 : a ≤ j) (h2 : j < b) : crc ((chg s j v).extract a b) ≠ crc (s.extract a b) := by
  have hz := chg_size s j v
  have q1 : ((chg s j v).extract a b).size = b - a := by rw [ByteArray.size_extract, hz]; omega
  have q2 : (s.extract a b).size = b - a := by rw [ByteArray.size_extract]; omega
  refine crc_told _ _ (j - a) (by rw [q1, q2]) (by omega) ?_ (fun i hi hik => ?_)
  · rw [bt_extract _ a b _ (by omega) (by omega), bt_extract _ a b _ (by omega) (by omega), bt_chg s j hv _ (by omega), show a + (j - a) = j by omega, if_pos rfl]
    exact hne
  · rw [bt_extract _ a b _ (by omega) (by omega), bt_extract _ a b _ (by omega) (by omega), bt_chg s j hv _ (by omega), if_neg (by omega)]
theorem xor_u8 {x y : Int} (hx : 0 ≤ x ∧ x ≤ 255) (hy : 0 ≤ y ∧ y ≤ 255) (h0 : y ≠ 0) : (0 ≤ Go.bits .xor .u8 x y ∧ Go.bits .xor .u8 x y ≤ 255) ∧ Go.bits .xor .u8 x y ≠ x := by
  obtain ⟨a, rfl⟩ : ∃ a : Nat, x = (a : Int) := ⟨x.toNat, by omega⟩
  obtain ⟨b, rfl⟩ : ∃ b : Nat, y = (b : Int) := ⟨y.toNat, by omega⟩
  have e : Go.bits .xor .u8 (a : Int) (b : Int) = IntKind.u8.wrap ((BitVec.ofInt 8 (a : Int) ^^^ BitVec.ofInt 8 (b : Int)).toNat : Int) := rfl
  have hlt : a ^^^ b < 2 ^ 8 := Nat.xor_lt_two_pow (by omega) (by omega)
  rw [e, BitVec.ofInt_natCast, BitVec.ofInt_natCast, BitVec.toNat_xor, BitVec.toNat_ofNat, BitVec.toNat_ofNat, Nat.mod_eq_of_lt (by omega), Nat.mod_eq_of_lt (by omega), IntKind.wrap_u8']
  have hw : ((a ^^^ b : Nat) : Int) % 256 = ((a ^^^ b : Nat) : Int) := by omega
  rw [hw]
  refine ⟨by omega, fun h => ?_⟩
  have h1 : a ^^^ b = a := by omega
  have h2 : b = 0 := by
    have := congrArg (a ^^^ ·) h1
    simp only [← Nat.xor_assoc, Nat.xor_self, Nat.zero_xor] at this
    exact this
  omega
theorem tmod_rg (a : Int) {n : Int} (hn : 0 < n) : -n < Int.tmod a n ∧ Int.tmod a n < n := by
  rcases Int.le_total 0 a with h | h
  · rw [Int.tmod_eq_emod_of_nonneg h]
    have h1 := Int.emod_nonneg a (show n ≠ 0 by omega)
    have h2 := Int.emod_lt_of_pos a hn
    omega
  · have e : a = -(-a) := by omega
    rw [e, Int.neg_tmod, Int.tmod_eq_emod_of_nonneg (by omega)]
    have h1 := Int.emod_nonneg (-a) (show n ≠ 0 by omega)
    have h2 := Int.emod_lt_of_pos (-a) hn
    omega
/-- A place, whatever number is given. -/
theorem place_rg (a : Int) {n : Int} (hn : 0 < n) (h2 : n ≤ 4611686018427387904) : 0 ≤ Int.tmod (wrap64 ((Int.tmod a n) + n)) n ∧ Int.tmod (wrap64 ((Int.tmod a n) + n)) n < n := by
  have h := tmod_rg a hn
  rw [w64 (by omega) (by omega), Int.tmod_eq_emod_of_nonneg (by omega)]
  exact ⟨Int.emod_nonneg _ (by omega), Int.emod_lt_of_pos _ hn⟩

end Go.Proofs.Ytnimhhhbefpifaa.Pure
