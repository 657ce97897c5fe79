/- Layer 11 (samples), plain laws, fourth part: the row of samples by the document's answer. Condition: a list as long as a slice can be. -/
import Derived.Test.YtpccfanjdbenlaaPM11x13
import Derived.Test.YtpccfanjdbenlaaPureM11Q
namespace Go.Proofs.Ytpccfanjdbenlaa.Pure
open Go.RowKit Go.Proofs.YtpccfanjdbenlaaW.PrintWords Go.Proofs.YtpccfanjdbenlaaW.PrintLast Go.Proofs.YtpccfanjdbenlaaW.PrintMore Go.Proofs.Ytpccfanjdbenlaa.PM11
set_option linter.unusedVariables false
set_option linter.unusedSimpArgs false
theorem map_range_set {f g : Nat → Int} {n j : Nat} {v : Int} (hv : v = g j) (h : ∀ i, i < n → i ≠ j → f i = g i) : ((List.range n).map f).set j v = (List.range n).map g := by
  apply List.ext_getElem
  · simp
  · intro i h1 h2
    rw [List.getElem_set]
    simp only [List.length_set, List.length_map, List.length_range] at h1
    by_cases e : j = i
    · subst e
      simp [hv]
    · rw [if_neg e]
      simp [h i h1 (fun h' => e h'.symm)]
def outK (f : Nat → Int) (n K : Nat) : List Int := (List.range n).map (byteOf f K)
theorem outK_zero (f : Nat → Int) (n : Nat) : outK f n 0 = List.replicate n 0 := by
  unfold outK
  rw [← List.length_range (n := n), ← List.map_const', List.length_range]
  refine List.map_congr_left fun j _ => ?_
  unfold byteOf
  rw [show min 8 (0 - 8 * j) = 0 by omega]
  simp [acc]
theorem outK_set {f : Nat → Int} (n K : Nat) : (outK f n K).set (K / 8) (byteOf f (K + 1) (K / 8)) = outK f n (K + 1) :=
  map_range_set rfl fun i _ hi => (byteOf_step (fun h => hi h.symm)).symm
theorem rd_outK {f : Nat → Int} {n K j : Nat} (h : j < n) : rd (outK f n K) (j : Int) = byteOf f K j := by
  unfold outK
  rw [rd_range (by omega) (by omega)]
  rfl
theorem rP_w1 {K : Nat} (h : K ≤ 281474976710700) : wrap64 (Int.tdiv (K : Int) 8) = ((K / 8 : Nat) : Int) := by rw [tdiv_nn (by omega), w64 (by omega) (by omega)]; omega
theorem rP_w2 {K : Nat} : wrap64 (7 - (Int.tmod (K : Int) 8)) = ((7 - K % 8 : Nat) : Int) := by rw [tmod_nn (by omega), w64 (by omega) (by omega)]; omega
theorem rP_w3 {d m : Nat} (h : m < d) (hd : d ≤ 16) : wrap64 (wrap64 ((d : Int) - 1) - (m : Int)) = ((d - 1 - m : Nat) : Int) := by
  rw [w64 (x := (d : Int) - 1) (by omega) (by omega), w64 (by omega) (by omega)]
  omega
theorem rP_w4 {i d m : Nat} (h : i * d + m ≤ 281474976710700) : wrap64 (wrap64 ((i : Int) * (d : Int)) + (m : Int)) = ((i * d + m : Nat) : Int) := by
  have : (i : Int) * (d : Int) = ((i * d : Nat) : Int) := by simp
  rw [this, w64 (x := ((i * d : Nat) : Int)) (by omega) (by omega), w64 (by omega) (by omega)]
  omega
theorem sbit_e (l : List Int) {d m i : Nat} (h : m < d) (hd : d ≤ 16) : (Go.bits .and .i64 (shr .i64 (rd l (i : Int)) ((d - 1 - m : Nat) : Int)) 1) % 256 = sbit d l (i * d + m) := by
  have h64 : d - 1 - m ≤ 64 := by omega
  rw [and_one, shr_pow h64]
  unfold sbit
  rw [show (i * d + m) / d = i by rw [Nat.mul_comm, Nat.mul_add_div (by omega), Nat.div_eq_of_lt h, Nat.add_zero], show (i * d + m) % d = m by rw [Nat.mul_comm, Nat.mul_add_mod, Nat.mod_eq_of_lt h]]
  have := mod2 (rd l (i : Int) / 2 ^ (d - 1 - m))
  omega
theorem byteOf_or {f : Nat → Int} (hf : Bin f) (K : Nat) : Go.bits .or .u8 (byteOf f K (K / 8)) (shl .u8 (f K) ((7 - K % 8 : Nat) : Int)) = byteOf f (K + 1) (K / 8) := by
  have h7 : 7 - K % 8 ≤ 7 := by omega
  have hr := byteOf_range hf K (K / 8)
  have hr2 := byteOf_range hf (K + 1) (K / 8)
  rw [byteOf_next] at hr2 ⊢
  have hp := pow_pos' (7 - K % 8)
  have e8 : (2 : Int) ^ (8 - K % 8) = 2 ^ (7 - K % 8) * 2 := by rw [show 8 - K % 8 = 7 - K % 8 + 1 by omega, Int.pow_succ]
  have hy : 0 ≤ f K * 2 ^ (7 - K % 8) ∧ f K * 2 ^ (7 - K % 8) < 2 ^ (8 - K % 8) := by
    rw [e8]
    rcases hf K with h | h <;> rw [h] <;> omega
  rw [shl8 (hf K) h7, or8 (8 - K % 8) (byteOf_low f K) hr.1 hr.2 hy.1 hy.2 (by omega)]
theorem rP_bits {d i n : Nat} {l : List Int} {R : ByteArray × Int} (hd : 1 ≤ d ∧ d ≤ 16) (hi : i < l.length) (hl : l.length ≤ 17592186044416) (hn : i * d + d ≤ 8 * n)
    (hnext : Ev (fun k => vitrineref11_Pack.l0 k (d : Int) l (outK (sbit d l) n (i * d + d)) (wrap64 ((i : Int) + 1))) R) : ∀ r m : Nat, m + r = d → Ev (fun k => vitrineref11_Pack.l1 k (d : Int) l (outK (sbit d l) n (i * d + m)) (i : Int) (m : Int)) R := by
  have hid : (i + 1) * d ≤ 17592186044416 * 16 := Nat.mul_le_mul (by omega) hd.2
  rw [Nat.add_mul, Nat.one_mul] at hid
  have hil : (i : Int) < (l.length : Int) := by omega
  intro r
  induction r with
  | zero =>
    intro m hm
    have hm' : m = d := by omega
    subst hm'
    refine Ev.step (fun k => ?_) hnext
    simp only [vitrineref11_Pack.l1]
    rw [if_neg (by omega)]
  | succ r ih =>
    intro m hm
    refine Ev.step (fun k => ?_) (ih (m + 1) (by omega))
    have hmd : m < d := by omega
    have hmi : (m : Int) < (d : Int) := by omega
    have hK : i * d + m ≤ 281474976710700 := by omega
    have hm62 : m ≤ 4611686018427387904 := by omega
    have hj : (i * d + m) / 8 < n := by omega
    have hj2 : (((i * d + m) / 8 : Nat) : Int) < ((outK (sbit d l) n (i * d + m)).length : Int) := by
      have : (outK (sbit d l) n (i * d + m)).length = n := by simp [outK]
      omega
    simp only [vitrineref11_Pack.l1]
    rw [if_pos hmi, rP_w4 hK, rP_w1 hK, if_pos (Int.natCast_nonneg _), if_pos hj2, if_pos (Int.natCast_nonneg _), if_pos hil, rP_w3 hmd hd.2, if_pos (Int.natCast_nonneg _), rP_w2, if_pos (Int.natCast_nonneg _), sbit_e l hmd hd.2, rd_outK hj, byteOf_or (sbit_bin d l), Int.toNat_natCast, outK_set, w_succ hm62]
    rfl
theorem rP_loop {d n : Nat} {l : List Int} (hd : 1 ≤ d ∧ d ≤ 16) (hl : l.length ≤ 17592186044416) (hn : l.length * d ≤ 8 * n) : ∀ r i : Nat, i + r = l.length → Ev (fun k => vitrineref11_Pack.l0 k (d : Int) l (outK (sbit d l) n (i * d)) (i : Int)) (strOfNums (outK (sbit d l) n (l.length * d)), 0) := by
  intro r
  induction r with
  | zero =>
    intro i hi
    refine Ev.step (f := fun _ => some (strOfNums (outK (sbit d l) n (l.length * d)), 0)) (fun k => ?_) (Ev.now _)
    simp only [vitrineref11_Pack.l0]
    rw [if_neg (by omega), show i = l.length by omega]
  | succ r ih =>
    intro i hi
    have hid : (i + 1) * d ≤ l.length * d := Nat.mul_le_mul_right d (by omega)
    have ex : (i + 1) * d = i * d + d := by rw [Nat.add_mul, Nat.one_mul]
    have h0 := ih (i + 1) (by omega)
    have hi62 : i ≤ 4611686018427387904 := by omega
    rw [ex, ← w_succ hi62] at h0
    have h1 := rP_bits (d := d) (i := i) (n := n) (l := l) hd (by omega) hl (by omega) h0 d 0 (by omega)
    refine Ev.step (fun k => ?_) h1
    simp only [vitrineref11_Pack.l0]
    rw [if_pos (by omega)]
    rfl
theorem rP_w5 {n d : Nat} (h : n * d ≤ 281474976710656) : wrap64 (Int.tdiv (wrap64 ((wrap64 ((n : Int) * (d : Int))) + 7)) 8) = (((n * d + 7) / 8 : Nat) : Int) := by
  have : (n : Int) * (d : Int) = ((n * d : Nat) : Int) := by simp
  rw [this, w64 (x := ((n * d : Nat) : Int)) (by omega) (by omega), w64 (x := ((n * d : Nat) : Int) + 7) (by omega) (by omega), tdiv_nn (by omega), w64 (by omega) (by omega)]
  omega
theorem rPack_ev (d : Int) {l : List Int} (hl : l.length ≤ 17592186044416) : Ev (fun k => vitrineref11_Pack.f k d l) (packAll l d) := by
  unfold vitrineref11_Pack.f
  simp only [Depth_f, Option.bind_some]
  by_cases hk : kn d = true
  · have hd := (tab hk).1
    obtain ⟨D, rfl⟩ := Int.eq_ofNat_of_zero_le (show 0 ≤ d by omega)
    have hD : 1 ≤ D ∧ D ≤ 16 := by omega
    have hK : l.length * D ≤ 17592186044416 * 16 := Nat.mul_le_mul hl hD.2
    have hs : l.length * D ≤ 281474976710656 := by omega
    simp only [hk, if_true]
    unfold packAll
    have h := rP_loop (d := D) (n := (l.length * D + 7) / 8) (l := l) hD hl (by omega) l.length 0 (by omega)
    rw [Nat.zero_mul, outK_zero] at h
    rw [if_pos hk, rP_w5 hs]
    refine Ev.congr (fun k => ?_) h
    rw [if_pos (Int.natCast_nonneg _), if_pos (by rw [Int.toNat_natCast]; omega), Int.toNat_natCast]
    rfl
  · have hk' : kn d = false := by cases e : kn d <;> simp_all
    simp only [hk', Bool.false_eq_true, if_false]
    unfold packAll
    rw [hk', if_neg (by decide)]
    exact Ev.now _

end Go.Proofs.Ytpccfanjdbenlaa.Pure
