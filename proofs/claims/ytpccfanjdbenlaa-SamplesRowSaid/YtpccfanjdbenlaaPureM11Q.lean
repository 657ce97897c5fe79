/- Layer 11 (samples), plain laws, third part: the row of samples, by the program and by the document's answer. Conditions: a list as long as a slice can be. -/
import Derived.Test.YtpccfanjdbenlaaPM11x6
import Derived.Test.YtpccfanjdbenlaaPureM11P
namespace Go.Proofs.Ytpccfanjdbenlaa.Pure
open Go.RowKit Go.Proofs.YtpccfanjdbenlaaW.PrintWords Go.Proofs.YtpccfanjdbenlaaW.PrintLast Go.Proofs.YtpccfanjdbenlaaW.PrintMore Go.Proofs.Ytpccfanjdbenlaa.PM11
set_option linter.unusedVariables false
set_option linter.unusedSimpArgs false
def packAll (l : List Int) (d : Int) : ByteArray × Int := if kn d = true then (strOfNums (bytesK (sbit d.toNat l) (l.length * d.toNat)), 0) else (⟨#[]⟩, 1)
/-- The first J whole bytes of a stream of bits. -/
def outF (f : Nat → Int) (J : Nat) : List Int := (List.range J).map fun j => acc f (8 * j) 8
theorem outF_succ (f : Nat → Int) (J : Nat) : outF f J ++ [acc f (8 * J) 8] = outF f (J + 1) := by
  unfold outF
  rw [List.range_succ, List.map_append]
  rfl
theorem outF_len (f : Nat → Int) (J : Nat) : (outF f J).length = J := by simp [outF]
theorem P_byte {f : Nat → Int} (hf : Bin f) (b J n : Nat) (hJ : b ≤ 8 * J) : acc f b ((8 * J - b + 8) + n) / 2 ^ n % 256 = acc f (8 * J) 8 := by
  rw [acc_high hf]
  have := acc_low hf b (8 * J - b) 8
  rw [show b + (8 * J - b) = 8 * J by omega] at this
  exact this
theorem P_rest {f : Nat → Int} (hf : Bin f) (b J n : Nat) (hJ : b ≤ 8 * J) : acc f b ((8 * J - b) + n) % 2 ^ n = acc f (8 * J) n := by
  rw [acc_low hf, show b + (8 * J - b) = 8 * J by omega]
theorem P_bytes {f : Nat → Int} (hf : Bin f) {d L i : Int} {l : List Int} {b E : Nat} {R : ByteArray × Int} (hE : E ≤ 281474976710700) (hb : b ≤ E ∧ E ≤ b + 23) (hb8 : b % 8 = 0)
    (hnext : Ev (fun k => samples_Pack.l0 k d (outF f (E / 8)) (acc f (8 * (E / 8)) (E % 8)) ((E % 8 : Nat) : Int) l L (wrap64 (i + 1))) R) :
    ∀ t J : Nat, J + t = E / 8 → b ≤ 8 * J → Ev (fun k => samples_Pack.l1 k d (outF f J) (acc f b (E - b)) ((E - 8 * J : Nat) : Int) l L i) R := by
  intro t
  induction t with
  | zero =>
    intro J hJ hbJ
    have e1 : E - 8 * J = E % 8 := by omega
    have e2 : E / 8 = J := by omega
    have e3 : E - b = (8 * J - b) + E % 8 := by omega
    have e7 : E % 8 ≤ 62 := by omega
    have hp := pow_pos' (E % 8)
    have h7 := two_pow_le (show E % 8 ≤ 7 by omega)
    have e128 : (2 : Int) ^ 7 = 128 := rfl
    have e4 : Go.bits .and .i64 (acc f b (E - b)) (wrap64 ((shl .i64 1 ((E % 8 : Nat) : Int)) - 1)) = acc f (8 * (E / 8)) (E % 8) := by
      rw [shl_pow (by omega) (by omega) (by omega), Int.one_mul, w64 (by omega) (by omega), and_mask _ _ e7, e3, P_rest hf b J _ hbJ, e2]
    rw [e1]
    rw [e2] at hnext e4
    refine Ev.step (fun k => ?_) hnext
    simp only [samples_Pack.l1]
    rw [if_neg (by omega), if_pos (Int.natCast_nonneg _), e4]
  | succ t ih =>
    intro J hJ hbJ
    have e1 : E - 8 * J = (E - 8 * (J + 1)) + 8 := by omega
    have w1 : wrap64 (((E - 8 * J : Nat) : Int) - 8) = ((E - 8 * (J + 1) : Nat) : Int) := by rw [w64 (by omega) (by omega)]; omega
    have e3 : E - b = (8 * J - b + 8) + (E - 8 * (J + 1)) := by omega
    have h64 : E - 8 * (J + 1) ≤ 64 := by omega
    have hge : ((E - 8 * J : Nat) : Int) ≥ 8 := by omega
    have hlen : (outF f J).length < 140737488355328 := by rw [outF_len]; omega
    have e4 : (shr .i64 (acc f b (E - b)) ((E - 8 * (J + 1) : Nat) : Int)) % 256 = acc f (8 * J) 8 := by
      rw [shr_pow h64, e3, P_byte hf b J _ hbJ]
    refine Ev.step (fun k => ?_) (ih (J + 1) (by omega) (by omega))
    simp only [samples_Pack.l1]
    rw [if_pos hge, w1, if_pos (Int.natCast_nonneg _), if_pos hlen, e4, outF_succ]
theorem byteOf_part {f : Nat → Int} (K : Nat) : byteOf f K (K / 8) = acc f (8 * (K / 8)) (K % 8) * 2 ^ (8 - K % 8) := by
  unfold byteOf
  rw [show min 8 (K - 8 * (K / 8)) = K % 8 by omega]
theorem bytesK_even {f : Nat → Int} {K : Nat} (h : K % 8 = 0) : bytesK f K = outF f (K / 8) := by
  unfold bytesK outF
  rw [show (K + 7) / 8 = K / 8 by omega]
  refine List.map_congr_left fun j hj => ?_
  rw [List.mem_range] at hj
  exact byteOf_full (by omega)
theorem bytesK_odd {f : Nat → Int} {K : Nat} (h : K % 8 ≠ 0) : bytesK f K = outF f (K / 8) ++ [acc f (8 * (K / 8)) (K % 8) * 2 ^ (8 - K % 8)] := by
  unfold bytesK outF
  rw [show (K + 7) / 8 = K / 8 + 1 by omega, List.range_succ, List.map_append, ← byteOf_part]
  congr 1
  refine List.map_congr_left fun j hj => ?_
  rw [List.mem_range] at hj
  exact byteOf_full (by omega)
theorem P_end {f : Nat → Int} (hf : Bin f) {d L i : Int} {l : List Int} {K : Nat} (hK : K ≤ 281474976710700) (hi : ¬ i < L) : Ev (fun k => samples_Pack.l0 k d (outF f (K / 8)) (acc f (8 * (K / 8)) (K % 8)) ((K % 8 : Nat) : Int) l L i) (strOfNums (bytesK f K), 0) := by
  refine Ev.step (f := fun _ => some (strOfNums (bytesK f K), 0)) (fun k => ?_) (Ev.now _)
  simp only [samples_Pack.l0]
  rw [if_neg hi]
  by_cases h0 : K % 8 = 0
  · rw [if_neg (by omega), bytesK_even h0]
  · have w1 : wrap64 (8 - ((K % 8 : Nat) : Int)) = ((8 - K % 8 : Nat) : Int) := by rw [w64 (by omega) (by omega)]; omega
    have hlen : (outF f (K / 8)).length < 140737488355328 := by rw [outF_len]; omega
    have hr := byteOf_range hf K (K / 8)
    rw [byteOf_part] at hr
    have h64 : 8 - K % 8 ≤ 64 := by omega
    have e1 : (shl .i64 (acc f (8 * (K / 8)) (K % 8)) ((8 - K % 8 : Nat) : Int)) % 256 = acc f (8 * (K / 8)) (K % 8) * 2 ^ (8 - K % 8) := by
      rw [shl_pow hr.1 (by omega) h64]
      exact Int.emod_eq_of_lt hr.1 (by omega)
    rw [if_pos (by omega), w1, if_pos (Int.natCast_nonneg _), if_pos hlen, e1, bytesK_odd h0]
theorem Pack_loop {d : Nat} {l : List Int} (hd : d = 1 ∨ d = 2 ∨ d = 4 ∨ d = 8 ∨ d = 16) (hl : l.length ≤ 17592186044416) : ∀ r i : Nat, i + r = l.length → Ev (fun k => samples_Pack.l0 k (d : Int) (outF (sbit d l) (i * d / 8)) (acc (sbit d l) (8 * (i * d / 8)) (i * d % 8)) ((i * d % 8 : Nat) : Int) l (l.length : Int) (i : Int)) (strOfNums (bytesK (sbit d l) (l.length * d)), 0) := by
  intro r
  induction r with
  | zero =>
    intro i hi
    have hK : l.length * d ≤ 17592186044416 * 16 := Nat.mul_le_mul hl (by omega)
    rw [show i = l.length by omega]
    exact P_end (sbit_bin d l) (by omega) (by omega)
  | succ r ih =>
    intro i hi
    have hd16 : 1 ≤ d ∧ d ≤ 16 := by omega
    have hK : (i + 1) * d ≤ 17592186044416 * 16 := Nat.mul_le_mul (by omega) hd16.2
    have ex : (i + 1) * d = i * d + d := by rw [Nat.add_mul, Nat.one_mul]
    have hn := ih (i + 1) (by omega)
    rw [ex] at hn hK
    have hi62 : i ≤ 4611686018427387904 := by omega
    have hn' : Ev (fun k => samples_Pack.l0 k (d : Int) (outF (sbit d l) ((i * d + d) / 8)) (acc (sbit d l) (8 * ((i * d + d) / 8)) ((i * d + d) % 8)) (((i * d + d) % 8 : Nat) : Int) l (l.length : Int) (wrap64 ((i : Int) + 1))) (strOfNums (bytesK (sbit d l) (l.length * d)), 0) := by
      rw [w_succ hi62]
      exact hn
    have hlt : (i : Int) < (l.length : Int) := by omega
    have h1 := P_bytes (sbit_bin d l) (d := (d : Int)) (L := (l.length : Int)) (i := (i : Int)) (l := l) (b := 8 * (i * d / 8)) (E := i * d + d) (by omega) (by omega) (by omega) hn' ((i * d + d) / 8 - i * d / 8) (i * d / 8) (by omega) (by omega)
    refine Ev.step (fun k => ?_) h1
    have hw : wrap64 (((i * d % 8 : Nat) : Int) + (d : Int)) = ((i * d + d - 8 * (i * d / 8) : Nat) : Int) := by
      clear hn hn' h1 ih
      rw [w64 (by omega) (by omega)]
      omega
    have hk : kn (d : Int) = true := by rcases hd with rfl | rfl | rfl | rfl | rfl <;> rfl
    obtain ⟨_, h2, h3, h4⟩ := tab hk
    have hpw : pw (d : Int) = 2 ^ d := rfl
    have hr := acc_range (sbit_bin d l) (8 * (i * d / 8)) (i * d % 8)
    have hr7 := two_pow_le (show i * d % 8 ≤ 7 by omega)
    have e128 : (2 : Int) ^ 7 = 128 := rfl
    have hm0 : 0 ≤ acc (sbit d l) (8 * (i * d / 8)) (i * d % 8) * 2 ^ d := Int.mul_nonneg hr.1 (by omega)
    have hm1 : acc (sbit d l) (8 * (i * d / 8)) (i * d % 8) * 2 ^ d ≤ 128 * 65536 := Int.le_trans (Int.mul_le_mul_of_nonneg_right (by omega) (by omega)) (Int.mul_le_mul_of_nonneg_left (by omega) (by omega))
    have hd64 : d ≤ 64 := by omega
    have e5 : shl .i64 (acc (sbit d l) (8 * (i * d / 8)) (i * d % 8)) (d : Int) = acc (sbit d l) (8 * (i * d / 8)) (i * d % 8) * 2 ^ d := shl_pow hm0 (by omega) hd64
    have e6 : Go.bits .and .i64 (rd l (i : Int)) (wrap64 ((shl .i64 1 (d : Int)) - 1)) = acc (sbit d l) (i * d) d := by
      rw [h3, w64 (by omega) (by omega), h4, hpw, acc_sbit d l i (by omega)]
    have hv := acc_range (sbit_bin d l) (i * d) d
    have e7 : Go.bits .or .i64 (acc (sbit d l) (8 * (i * d / 8)) (i * d % 8) * 2 ^ d) (acc (sbit d l) (i * d) d) = acc (sbit d l) (8 * (i * d / 8)) (i * d + d - 8 * (i * d / 8)) := by
      rw [or_join d (Int.mul_emod_left _ _) hm0 (by omega) hv.1 hv.2 (by omega)]
      have hsp := acc_split (sbit d l) (8 * (i * d / 8)) (i * d % 8) d
      rw [show 8 * (i * d / 8) + i * d % 8 = i * d by omega] at hsp
      rw [← hsp, show i * d % 8 + d = i * d + d - 8 * (i * d / 8) by omega]
    simp only [samples_Pack.l0]
    rw [if_pos hlt, if_pos (Int.natCast_nonneg _), if_pos hlt, if_pos (Int.natCast_nonneg _), e5, e6, e7, hw]
theorem Pack_ev (d : Int) {l : List Int} (hl : l.length ≤ 17592186044416) : Ev (fun k => samples_Pack.f k d l) (packAll l d) := by
  unfold samples_Pack.f
  refine Ev.bind (known_ev d) ?_
  by_cases hk : kn d = true
  · simp only [hk, if_true]
    unfold packAll
    rw [if_pos hk]
    have hD : d.toNat = 1 ∨ d.toNat = 2 ∨ d.toNat = 4 ∨ d.toNat = 8 ∨ d.toNat = 16 := by have := kn_cases hk; omega
    have h := Pack_loop (d := d.toNat) (l := l) hD hl l.length 0 (by omega)
    rw [Int.toNat_of_nonneg (by have := (tab hk).1; omega)] at h
    simpa [outF, acc] using h
  · have hk' : kn d = false := by cases e : kn d <;> simp_all
    simp only [hk', Bool.false_eq_true, if_false]
    unfold packAll
    rw [hk', if_neg (by decide)]
    exact Ev.now _

end Go.Proofs.Ytpccfanjdbenlaa.Pure
