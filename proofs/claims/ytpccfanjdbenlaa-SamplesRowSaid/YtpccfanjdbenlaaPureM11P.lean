/- Layer 11 (samples), plain laws, second part: the samples of a row and the row of samples, by the program and by the document's answer. Conditions: those that each lemma names. -/
import Derived.Test.YtpccfanjdbenlaaPM11x2
import Derived.Test.YtpccfanjdbenlaaPM11x4
import Derived.Test.YtpccfanjdbenlaaPureM11A
import Derived.Test.YtpccfanjdbenlaaPureAcc
namespace Go.Proofs.Ytpccfanjdbenlaa.Pure
open Go.RowKit Go.Proofs.YtpccfanjdbenlaaW.PrintWords Go.Proofs.YtpccfanjdbenlaaW.PrintLast Go.Proofs.YtpccfanjdbenlaaW.PrintMore Go.Proofs.Ytpccfanjdbenlaa.PM11
set_option linter.unusedVariables false
set_option linter.unusedSimpArgs false
/-- The samples of a row. -/
def unp (row : ByteArray) (d : Nat) (n : Nat) : List Int := (List.range n).map fun i => acc (rbit row) (i * d) d
def unpAll (row : ByteArray) (d n : Int) : List Int × Int :=
  if kn d = true ∧ 0 ≤ n ∧ n ≤ 4096 then (if (row.size : Int) * 8 < n * d then ([], 30) else (unp row d.toNat n.toNat, 0)) else ([], 1)
theorem tdiv_nn {x : Int} (h : 0 ≤ x) (y : Int) : Int.tdiv x y = x / y := Int.tdiv_eq_ediv_of_nonneg h
theorem tmod_nn {x : Int} (h : 0 ≤ x) (y : Int) : Int.tmod x y = x % y := Int.tmod_eq_emod_of_nonneg h
theorem unp16 (row : ByteArray) (i : Nat) : acc (rbit row) (i * 16) 16 = bt row ((2 * i : Nat) : Int) * 256 + bt row ((2 * i + 1 : Nat) : Int) := by
  rw [show (16 : Nat) = 8 + 8 from rfl, acc_split, show i * (8 + 8) = 8 * (2 * i) by omega, acc_byte, show 8 * (2 * i) + 8 = 8 * (2 * i + 1) by omega, acc_byte]
  rfl
theorem unp_low {d : Nat} (h : d = 1 ∨ d = 2 ∨ d = 4 ∨ d = 8) (row : ByteArray) (i : Nat) : acc (rbit row) (i * d) d = bt row ((i * d / 8 : Nat) : Int) / 2 ^ (8 - d - i * d % 8) % 2 ^ d := by
  refine acc_rbit row (i * d) d ?_
  rcases h with rfl | rfl | rfl | rfl <;> omega
theorem Unpack_step16 {row : ByteArray} {n : Nat} (hz : row.size ≤ 140737488351232) (i : Nat) (k r : Nat) (hi : i + (r + 1) = n) (hn : n ≤ 4096) (hs : n * 16 ≤ row.size * 8) :
    samples_Unpack.l0 (k + 1) row 16 ((List.range i).map (fun j => acc (rbit row) (j * 16) 16) ++ List.replicate (r + 1) 0) (n : Int) (i : Int) = samples_Unpack.l0 k row 16 ((List.range (i + 1)).map (fun j => acc (rbit row) (j * 16) 16) ++ List.replicate r 0) (n : Int) ((i + 1 : Nat) : Int) := by
  have w1 : wrap64 (2 * (i : Int)) = ((2 * i : Nat) : Int) := by rw [w64 (by omega) (by omega)]; omega
  have w2 : wrap64 (((2 * i : Nat) : Int) + 1) = ((2 * i + 1 : Nat) : Int) := by rw [w64 (by omega) (by omega)]; omega
  have w3 : wrap64 ((i : Int) + 1) = ((i + 1 : Nat) : Int) := by rw [w64 (by omega) (by omega)]; omega
  have b1 := bt_range row ((2 * i : Nat) : Int)
  have b2 := bt_range row ((2 * i + 1 : Nat) : Int)
  have e1 : Go.bits .or .i64 (wrap64 ((wrap64 (bt row ((2 * i : Nat) : Int))) * 256)) (wrap64 (bt row ((2 * i + 1 : Nat) : Int))) = acc (rbit row) (i * 16) 16 := by
    rw [w64_bt, w64_bt, w64 (by omega) (by omega), unp16]
    exact or_join 8 (by omega) (by omega) (by omega) (by omega) (by omega) (by omega)
  conv => lhs; simp only [samples_Unpack.l0]
  rw [if_pos (by omega), if_pos trivial, w1, if_pos (by omega), if_pos (by omega), w2, if_pos (by omega), if_pos (by omega), if_pos (by omega), if_pos (by simp; omega), w3, e1, Int.toNat_natCast, range_set _ rfl]
theorem low_facts {i n d z : Nat} (hd : d = 1 ∨ d = 2 ∨ d = 4 ∨ d = 8) (hi : i < n) (hn : n ≤ 4096) (hs : n * d ≤ z * 8) : i * d ≤ 32768 ∧ i * d / 8 < z ∧ i * d % 8 + d ≤ 8 := by
  rcases hd with rfl | rfl | rfl | rfl <;> omega
theorem low_w1 {i d : Nat} (h : i * d ≤ 32768) : wrap64 ((i : Int) * (d : Int)) = ((i * d : Nat) : Int) := by
  have : (i : Int) * (d : Int) = ((i * d : Nat) : Int) := by simp
  rw [this, w64 (by omega) (by omega)]
theorem low_w2 {m : Nat} (h : m ≤ 32768) : wrap64 (Int.tdiv (m : Int) 8) = ((m / 8 : Nat) : Int) := by rw [tdiv_nn (by omega), w64 (by omega) (by omega)]; omega
theorem low_w4 {m d : Nat} (h : m % 8 + d ≤ 8) : wrap64 (wrap64 (8 - (d : Int)) - Int.tmod (m : Int) 8) = ((8 - d - m % 8 : Nat) : Int) := by
  rw [tmod_nn (by omega), w64 (x := 8 - (d : Int)) (by omega) (by omega), w64 (by omega) (by omega)]
  omega
theorem low_e (row : ByteArray) {i d : Nat} (hd : d = 1 ∨ d = 2 ∨ d = 4 ∨ d = 8) : Go.bits .and .i64 (shr .i64 (wrap64 (bt row ((i * d / 8 : Nat) : Int))) ((8 - d - i * d % 8 : Nat) : Int)) (wrap64 ((shl .i64 1 (d : Int)) - 1)) = acc (rbit row) (i * d) d := by
  have hk : kn (d : Int) = true := by rcases hd with rfl | rfl | rfl | rfl <;> rfl
  obtain ⟨_, h2, h3, h4⟩ := tab hk
  have hle : 8 - d - i * d % 8 ≤ 64 := by omega
  rw [h3, w64 (x := pw (d : Int) - 1) (by omega) (by omega), h4, w64_bt, shr_pow hle, unp_low hd]
  rfl
theorem Unpack_stepLow {row : ByteArray} {n d : Nat} (hd : d = 1 ∨ d = 2 ∨ d = 4 ∨ d = 8) (i : Nat) (k r : Nat) (hi : i + (r + 1) = n) (hn : n ≤ 4096) (hs : n * d ≤ row.size * 8) :
    samples_Unpack.l0 (k + 1) row (d : Int) ((List.range i).map (fun j => acc (rbit row) (j * d) d) ++ List.replicate (r + 1) 0) (n : Int) (i : Int) = samples_Unpack.l0 k row (d : Int) ((List.range (i + 1)).map (fun j => acc (rbit row) (j * d) d) ++ List.replicate r 0) (n : Int) ((i + 1 : Nat) : Int) := by
  have c1 : (i : Int) < (n : Int) := by omega
  have c2 : ¬ ((d : Int) = 16) := by omega
  have c3 : (i : Int) < (((List.range i).map (fun j => acc (rbit row) (j * d) d) ++ List.replicate (r + 1) 0).length : Int) := by
    rw [List.length_append, List.length_map, List.length_range, List.length_replicate]
    omega
  obtain ⟨f1, f2, f3⟩ := low_facts hd (show i < n by omega) hn hs
  have c4 : ((i * d / 8 : Nat) : Int) < (row.size : Int) := Int.ofNat_lt.2 f2
  conv => lhs; simp only [samples_Unpack.l0]
  rw [if_pos c1, if_neg c2, low_w1 f1, low_w2 f1, if_pos (Int.natCast_nonneg _), if_pos c4, low_w4 f3, if_pos (Int.natCast_nonneg _), if_pos (Int.natCast_nonneg _), if_pos (Int.natCast_nonneg _), if_pos c3, w_succ (by omega), low_e row hd, Int.toNat_natCast, range_set _ rfl]
theorem Unpack_loop {row : ByteArray} {n d : Nat} (hz : row.size ≤ 140737488351232) (hd : d = 1 ∨ d = 2 ∨ d = 4 ∨ d = 8 ∨ d = 16) (hn : n ≤ 4096) (hs : n * d ≤ row.size * 8) : ∀ r i : Nat, i + r = n → Ev (fun k => samples_Unpack.l0 k row (d : Int) ((List.range i).map (fun j => acc (rbit row) (j * d) d) ++ List.replicate r 0) (n : Int) (i : Int)) (unp row d n, 0) := by
  intro r
  induction r with
  | zero =>
    intro i hi
    refine Ev.step (f := fun _ => some (unp row d n, 0)) (fun k => ?_) (Ev.now _)
    simp only [samples_Unpack.l0]
    rw [if_neg (by omega), show i = n by omega]
    simp [unp]
  | succ r ih =>
    intro i hi
    refine Ev.step (fun k => ?_) (ih (i + 1) (by omega))
    by_cases h : d = 16
    · subst h
      exact Unpack_step16 hz i k r hi hn hs
    · exact Unpack_stepLow (by omega) i k r hi hn hs
theorem Unpack_ev {row : ByteArray} {d n : Int} (hz : row.size ≤ 140737488351232) : Ev (fun k => samples_Unpack.f k row d n) (unpAll row d n) := by
  unfold samples_Unpack.f
  refine Ev.bind (known_ev d) ?_
  have bad : kn d = false ∨ n < 0 ∨ 4096 < n → Ev (fun k => samples_Unpack.j0 k row d n true) (unpAll row d n) := fun h => by
    refine Ev.step (f := fun _ => some (unpAll row d n)) (fun k => ?_) (Ev.now _)
    simp only [samples_Unpack.j0, if_true]
    unfold unpAll
    rw [if_neg (by rintro ⟨h1, h2, h3⟩; rcases h with h | h | h; (· rw [h] at h1; cases h1); all_goals omega)]
  by_cases hk : kn d = true
  · simp only [hk, if_true]
    by_cases h0 : n < 0
    · simp only [h0, if_true]
      exact bad (.inr (.inl h0))
    · simp only [h0, if_false]
      by_cases h1 : n > 4096
      · rw [decide_eq_true h1]
        exact bad (.inr (.inr h1))
      · rw [decide_eq_false h1]
        have hd := (tab hk).1
        have hnd : n * d ≤ 4096 * 16 := Int.le_trans (Int.mul_le_mul_of_nonneg_right (by omega) (by omega)) (Int.mul_le_mul_of_nonneg_left hd.2 (by omega))
        have hnd0 : 0 ≤ n * d := Int.mul_nonneg (by omega) (by omega)
        have w1 : wrap64 (n * d) = n * d := w64 (by omega) (by omega)
        have w2 : wrap64 ((row.size : Int) * 8) = (row.size : Int) * 8 := w64 (by omega) (by omega)
        unfold unpAll
        rw [if_pos ⟨hk, by omega, by omega⟩]
        by_cases h2 : (row.size : Int) * 8 < n * d
        · rw [if_pos h2]
          refine Ev.step (f := fun _ => some ([], 30)) (fun k => ?_) (Ev.now _)
          simp only [samples_Unpack.j0, Bool.false_eq_true, if_false]
          rw [w1, w2, if_pos h2]
        · rw [if_neg h2]
          obtain ⟨D, rfl⟩ := Int.eq_ofNat_of_zero_le (show 0 ≤ d by omega)
          obtain ⟨M, rfl⟩ := Int.eq_ofNat_of_zero_le (show 0 ≤ n by omega)
          have hs : M * D ≤ row.size * 8 := by
            have : ((M * D : Nat) : Int) ≤ ((row.size * 8 : Nat) : Int) := by push_cast; omega
            exact_mod_cast this
          have hD : D = 1 ∨ D = 2 ∨ D = 4 ∨ D = 8 ∨ D = 16 := by have := kn_cases hk; omega
          refine Ev.step (fun k => ?_) (Unpack_loop hz hD (by omega) hs M 0 (by omega))
          simp only [samples_Unpack.j0, Bool.false_eq_true, if_false]
          rw [w1, w2, if_neg h2, if_pos (by omega), if_pos (by omega), Int.toNat_natCast]
          simp
  · have hk' : kn d = false := by cases e : kn d <;> simp_all
    simp only [hk', Bool.false_eq_true, if_false]
    exact bad (.inl hk')
theorem and_one (v : Int) : Go.bits .and .i64 v 1 = v % 2 := and_mask v 1 (by decide)
theorem and_one8 {x : Int} (h0 : 0 ≤ x) (h1 : x ≤ 255) : Go.bits .and .u8 x 1 = x % 2 := by
  obtain ⟨n, rfl⟩ := Int.eq_ofNat_of_zero_le h0
  have e : Go.bits .and .u8 (n : Int) 1 = IntKind.u8.wrap ((BitVec.ofInt 8 (n : Int) &&& BitVec.ofInt 8 ((1 : Nat) : Int)).toNat : Int) := rfl
  rw [e, BitVec.ofInt_natCast, BitVec.ofInt_natCast, BitVec.toNat_and, BitVec.toNat_ofNat, BitVec.toNat_ofNat, show 1 % 2 ^ 8 = 1 from rfl, Nat.and_one_is_mod, Go.IntKind.wrap_u8]
  omega
theorem shr8 {x : Int} {d : Nat} (hd : d ≤ 8) : shr .u8 x (d : Int) = x / 2 ^ d := by
  unfold shr
  rw [Int.toNat_natCast, show min d IntKind.u8.bits = d from Nat.min_eq_left hd]
theorem two_pow_le {a b : Nat} (h : a ≤ b) : (2 : Int) ^ a ≤ 2 ^ b := by
  have := Nat.pow_le_pow_right (show 0 < 2 by decide) h
  exact_mod_cast this
theorem shl8 {b : Int} {s : Nat} (hb : b = 0 ∨ b = 1) (hs : s ≤ 7) : shl .u8 b (s : Int) = b * 2 ^ s := by
  have h1 := two_pow_le hs
  have h2 := pow_pos' s
  unfold shl
  rw [Int.toNat_natCast, show min s IntKind.u8.bits = s from Nat.min_eq_left (Nat.le_trans hs (by decide)), Go.IntKind.wrap_u8]
  have e7 : (2 : Int) ^ 7 = 128 := rfl
  rcases hb with rfl | rfl <;> omega
theorem or8 {x y : Int} (i : Nat) (hx : x % 2 ^ i = 0) (hx0 : 0 ≤ x) (hx1 : x ≤ 255) (hy0 : 0 ≤ y) (hy1 : y < 2 ^ i) (hy2 : y ≤ 255) : Go.bits .or .u8 x y = x + y :=
  bits_join .u8 8 (by decide) (fun n h0 h1 => by rw [Go.IntKind.wrap_u8]; exact Int.emod_eq_of_lt h0 h1) i x y hx0 hx (by omega) hy0 hy1 (by omega)
/-- A bit of a row, as the document's answer reads it. -/
theorem rbit_e (row : ByteArray) {k : Nat} (hk : k ≤ 4611686018427387904) : Go.bits .and .u8 (shr .u8 (bt row (wrap64 (Int.tdiv (k : Int) 8))) (wrap64 (7 - (Int.tmod (k : Int) 8)))) 1 = rbit row k := by
  rw [tdiv_nn (by omega), tmod_nn (by omega), show wrap64 ((k : Int) / 8) = ((k / 8 : Nat) : Int) by rw [w64 (by omega) (by omega)]; omega, show wrap64 (7 - (k : Int) % 8) = ((7 - k % 8 : Nat) : Int) by rw [w64 (by omega) (by omega)]; omega, shr8 (by omega)]
  have hb := bt_range row ((k / 8 : Nat) : Int)
  have hp := pow_pos' (7 - k % 8)
  have h1 : 0 ≤ bt row ((k / 8 : Nat) : Int) / 2 ^ (7 - k % 8) := Int.ediv_nonneg hb.1 (by omega)
  have h2 : bt row ((k / 8 : Nat) : Int) / 2 ^ (7 - k % 8) ≤ bt row ((k / 8 : Nat) : Int) := Int.ediv_le_self _ hb.1
  rw [and_one8 h1 (by omega)]
  rfl
theorem acc_small {f : Nat → Int} (h : Bin f) (a : Nat) {m : Nat} (hm : m ≤ 30) : 0 ≤ acc f a m ∧ acc f a m ≤ 1073741824 := by
  have h1 := acc_range h a m
  have h2 := two_pow_le hm
  have e : (2 : Int) ^ 30 = 1073741824 := rfl
  omega
theorem rU_bits {row : ByteArray} {n : Int} {d i : Nat} {out : List Int} {R : List Int × Int} (hd : 1 ≤ d ∧ d ≤ 16) (hi : i ≤ 4096) (hs : (i + 1) * d ≤ row.size * 8) (hl : out.length < 17592186044416)
    (hnext : Ev (fun k => vitrineref11_Unpack.l0 k row (d : Int) n (out ++ [acc (rbit row) (i * d) d]) ((i + 1 : Nat) : Int)) R) : ∀ r m : Nat, m + r = d → Ev (fun k => vitrineref11_Unpack.l1 k row (d : Int) n out (i : Int) (acc (rbit row) (i * d) m) ((i * d + m : Nat) : Int)) R := by
  have hid : (i + 1) * d ≤ 4097 * 16 := Nat.mul_le_mul (by omega) hd.2
  have ex : (i + 1) * d = i * d + d := by rw [Nat.add_mul, Nat.one_mul]
  have w1 : wrap64 ((wrap64 ((i : Int) + 1)) * (d : Int)) = ((i * d + d : Nat) : Int) := by
    rw [w_succ (by omega)]
    have : ((i + 1 : Nat) : Int) * (d : Int) = ((i * d + d : Nat) : Int) := by rw [← ex]; simp
    rw [this, w64 (by omega) (by omega)]
  intro r
  induction r with
  | zero =>
    intro m hm
    have hm' : m = d := by omega
    subst hm'
    refine Ev.step (fun k => ?_) hnext
    simp only [vitrineref11_Unpack.l1]
    rw [w1, if_neg (by omega), if_pos hl, w_succ (by omega)]
  | succ r ih =>
    intro m hm
    refine Ev.step (fun k => ?_) (ih (m + 1) (by omega))
    have hk : i * d + m ≤ 4611686018427387904 := by omega
    have hb := rbit_bin row (i * d + m)
    have ha := acc_small (rbit_bin row) (i * d) (m := m) (by omega)
    have e1 : wrap64 ((wrap64 (2 * acc (rbit row) (i * d) m)) + (wrap64 (rbit row (i * d + m)))) = acc (rbit row) (i * d) (m + 1) := by
      rw [acc_succ, w64 (x := 2 * acc (rbit row) (i * d) m) (by omega) (by omega), w64 (x := rbit row (i * d + m)) (by omega) (by omega), w64 (by omega) (by omega)]
    have c1 : ((i * d + m : Nat) : Int) < ((i * d + d : Nat) : Int) := by omega
    have c2 : 0 ≤ wrap64 (Int.tdiv ((i * d + m : Nat) : Int) 8) ∧ wrap64 (Int.tdiv ((i * d + m : Nat) : Int) 8) < (row.size : Int) := by
      clear hb ha e1
      rw [tdiv_nn (by omega), w64 (by omega) (by omega)]
      omega
    have c3 : 0 ≤ wrap64 (7 - (Int.tmod ((i * d + m : Nat) : Int) 8)) := by
      clear hb ha e1
      rw [tmod_nn (by omega), w64 (by omega) (by omega)]
      omega
    have w2 : wrap64 (((i * d + m : Nat) : Int) + 1) = ((i * d + (m + 1) : Nat) : Int) := w_succ hk
    simp only [vitrineref11_Unpack.l1]
    rw [w1, if_pos c1, if_pos c2.1, if_pos c2.2, if_pos c3, rbit_e row hk, e1, w2]
theorem rU_loop {row : ByteArray} {n d : Nat} (hd : 1 ≤ d ∧ d ≤ 16) (hn : n ≤ 4096) (hs : n * d ≤ row.size * 8) : ∀ r i : Nat, i + r = n → Ev (fun k => vitrineref11_Unpack.l0 k row (d : Int) (n : Int) (unp row d i) (i : Int)) (unp row d n, 0) := by
  intro r
  induction r with
  | zero =>
    intro i hi
    refine Ev.step (f := fun _ => some (unp row d n, 0)) (fun k => ?_) (Ev.now _)
    simp only [vitrineref11_Unpack.l0]
    rw [if_neg (by omega), show i = n by omega]
  | succ r ih =>
    intro i hi
    have hid : (i + 1) * d ≤ n * d := Nat.mul_le_mul_right d (by omega)
    have hid2 : i * d ≤ 4096 * 16 := Nat.mul_le_mul (by omega) hd.2
    have hu : unp row d i ++ [acc (rbit row) (i * d) d] = unp row d (i + 1) := by
      unfold unp
      rw [List.range_succ, List.map_append]
      rfl
    have h1 := rU_bits (row := row) (n := (n : Int)) (d := d) (i := i) (out := unp row d i) hd (by omega) (by omega) (by simp [unp]; omega) (by rw [hu]; exact ih (i + 1) (by omega)) d 0 (by omega)
    refine Ev.step (fun k => ?_) h1
    have w1 : wrap64 ((i : Int) * (d : Int)) = ((i * d + 0 : Nat) : Int) := by
      have : (i : Int) * (d : Int) = ((i * d + 0 : Nat) : Int) := by simp
      rw [this, w64 (by omega) (by omega)]
    simp only [vitrineref11_Unpack.l0]
    rw [if_pos (by omega), w1]
    rfl
theorem rUnpack_ev {row : ByteArray} {d n : Int} (hz : row.size ≤ 140737488351232) : Ev (fun k => vitrineref11_Unpack.f k row d n) (unpAll row d n) := by
  unfold vitrineref11_Unpack.f
  simp only [Depth_f, Option.bind_some]
  have bad : kn d = false ∨ n < 0 ∨ 4096 < n → Ev (fun k => vitrineref11_Unpack.j0 k row d n true) (unpAll row d n) := fun h => by
    refine Ev.step (f := fun _ => some (unpAll row d n)) (fun k => ?_) (Ev.now _)
    simp only [vitrineref11_Unpack.j0, if_true]
    unfold unpAll
    rw [if_neg (by rintro ⟨h1, h2, h3⟩; rcases h with h | h | h; (· rw [h] at h1; cases h1); all_goals omega)]
  by_cases hk : kn d = true
  · simp only [hk, if_true]
    by_cases h0 : n < 0
    · simp only [h0, if_true]
      exact bad (.inr (.inl h0))
    · simp only [h0, if_false]
      by_cases h1 : n > 4096
      · rw [decide_eq_true h1]
        exact bad (.inr (.inr h1))
      · rw [decide_eq_false h1]
        have hd := (tab hk).1
        have hnd : n * d ≤ 4096 * 16 := Int.le_trans (Int.mul_le_mul_of_nonneg_right (by omega) (by omega)) (Int.mul_le_mul_of_nonneg_left hd.2 (by omega))
        have hnd0 : 0 ≤ n * d := Int.mul_nonneg (by omega) (by omega)
        have w1 : wrap64 (n * d) = n * d := w64 (by omega) (by omega)
        have w2 : wrap64 (8 * (row.size : Int)) = 8 * (row.size : Int) := w64 (by omega) (by omega)
        unfold unpAll
        rw [if_pos ⟨hk, by omega, by omega⟩]
        by_cases h2 : (row.size : Int) * 8 < n * d
        · rw [if_pos h2]
          refine Ev.step (f := fun _ => some ([], 30)) (fun k => ?_) (Ev.now _)
          simp only [vitrineref11_Unpack.j0, Bool.false_eq_true, if_false]
          rw [w1, w2, if_pos (by omega)]
        · rw [if_neg h2]
          obtain ⟨D, rfl⟩ := Int.eq_ofNat_of_zero_le (show 0 ≤ d by omega)
          obtain ⟨M, rfl⟩ := Int.eq_ofNat_of_zero_le (show 0 ≤ n by omega)
          have hs : M * D ≤ row.size * 8 := by
            have : ((M * D : Nat) : Int) ≤ ((row.size * 8 : Nat) : Int) := by push_cast; omega
            exact_mod_cast this
          refine Ev.step (fun k => ?_) (rU_loop (row := row) (n := M) (d := D) (by omega) (by omega) hs M 0 (by omega))
          simp only [vitrineref11_Unpack.j0, Bool.false_eq_true, if_false]
          rw [w1, w2, if_neg (by omega)]
          rfl
  · have hk' : kn d = false := by cases e : kn d <;> simp_all
    simp only [hk', Bool.false_eq_true, if_false]
    exact bad (.inl hk')

end Go.Proofs.Ytpccfanjdbenlaa.Pure
