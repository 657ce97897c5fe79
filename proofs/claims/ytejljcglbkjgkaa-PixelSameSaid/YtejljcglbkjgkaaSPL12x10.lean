/- Printed for this claim by a program of this session over the kit's print program: the Go functions as Lean functions, and proofs that the calls come to these answers. No conditions. -/
import Derived.Test.YtejljcglbkjgkaaSH
import Derived.Test.YtejljcglbkjgkaaSPL12x3
import Derived.Test.YtejljcglbkjgkaaSPL12x8
namespace Go.Proofs.Ytejljcglbkjgkaa.PL12
open Go.RowKit Go.Proofs.YtejljcglbkjgkaaW.PrintWords Go.Proofs.YtejljcglbkjgkaaW.PrintLast Go.Proofs.YtejljcglbkjgkaaW.PrintMore
attribute [local go_sem] max2_int min2_int max_two min_two max_three min_three max_four min_four   -- for this text's walks alone
set_option linter.unusedVariables false
set_option linter.unusedSimpArgs false

mutual
def filter_through.l0 : Nat → Int → Int → Int → ByteArray → ByteArray → List Int → Int → Int → Option (ByteArray × Int)
 | 0, _, _, _, _, _, _, _, _ => none
 | k + 1, x0, x1, x2, x3, x4, x13, x30, x31 => if x31 < x30 then (if x4.toList = ([] : List UInt8) then (filter_through.j1 k x0 x1 x2 x3 x4 x13 x31 0 0 0 x30 x31) else (if 0 ≤ x31 then (if x31 < (x4.size : Int) then (filter_through.j1 k x0 x1 x2 x3 x4 x13 x31 0 (wrap64 (bt x4 x31)) 0 x30 x31) else (none)) else (none))) else (some (strOfNums x13, 0))
def filter_through.j1 : Nat → Int → Int → Int → ByteArray → ByteArray → List Int → Int → Int → Int → Int → Int → Int → Option (ByteArray × Int)
 | 0, _, _, _, _, _, _, _, _, _, _, _, _ => none
 | k + 1, x0, x1, x2, x3, x4, x13, x14, x15, x16, x17, x30, x31 => if x14 ≥ x0 then (if 0 ≤ (wrap64 (x14 - x0)) then (if (wrap64 (x14 - x0)) < (x3.size : Int) then (if x2 > 0 then (if (wrap64 (x14 - x0)) < (x13.length : Int) then (if x4.toList = ([] : List UInt8) then (if 0 ≤ x14 then (if x14 < (x3.size : Int) then ((filter_foretold.f k x1 (wrap64 (rd x13 (wrap64 (x14 - x0)))) x16 x17).bind fun t144 => (if x14 < (x13.length : Int) then (filter_through.l0 k x0 x1 x2 x3 x4 (x13.set (x14 : Int).toNat ((wrap64 ((wrap64 (bt x3 x14)) + (wrap64 (x2 * t144)))) % 256)) x30 (wrap64 (x31 + 1))) else (none))) else (none)) else (none)) else (if (wrap64 (x14 - x0)) < (x4.size : Int) then (if 0 ≤ x14 then (if x14 < (x3.size : Int) then ((filter_foretold.f k x1 (wrap64 (rd x13 (wrap64 (x14 - x0)))) x16 (wrap64 (bt x4 (wrap64 (x14 - x0))))).bind fun t146 => (if x14 < (x13.length : Int) then (filter_through.l0 k x0 x1 x2 x3 x4 (x13.set (x14 : Int).toNat ((wrap64 ((wrap64 (bt x3 x14)) + (wrap64 (x2 * t146)))) % 256)) x30 (wrap64 (x31 + 1))) else (none))) else (none)) else (none)) else (none))) else (none)) else (if x4.toList = ([] : List UInt8) then (if 0 ≤ x14 then (if x14 < (x3.size : Int) then ((filter_foretold.f k x1 (wrap64 (bt x3 (wrap64 (x14 - x0)))) x16 x17).bind fun t148 => (if x14 < (x13.length : Int) then (filter_through.l0 k x0 x1 x2 x3 x4 (x13.set (x14 : Int).toNat ((wrap64 ((wrap64 (bt x3 x14)) + (wrap64 (x2 * t148)))) % 256)) x30 (wrap64 (x31 + 1))) else (none))) else (none)) else (none)) else (if (wrap64 (x14 - x0)) < (x4.size : Int) then (if 0 ≤ x14 then (if x14 < (x3.size : Int) then ((filter_foretold.f k x1 (wrap64 (bt x3 (wrap64 (x14 - x0)))) x16 (wrap64 (bt x4 (wrap64 (x14 - x0))))).bind fun t150 => (if x14 < (x13.length : Int) then (filter_through.l0 k x0 x1 x2 x3 x4 (x13.set (x14 : Int).toNat ((wrap64 ((wrap64 (bt x3 x14)) + (wrap64 (x2 * t150)))) % 256)) x30 (wrap64 (x31 + 1))) else (none))) else (none)) else (none)) else (none)))) else (none)) else (none)) else (if 0 ≤ x14 then (if x14 < (x3.size : Int) then ((filter_foretold.f k x1 x15 x16 x17).bind fun t152 => (if x14 < (x13.length : Int) then (filter_through.l0 k x0 x1 x2 x3 x4 (x13.set (x14 : Int).toNat ((wrap64 ((wrap64 (bt x3 x14)) + (wrap64 (x2 * t152)))) % 256)) x30 (wrap64 (x31 + 1))) else (none))) else (none)) else (none))
end
def filter_through.f (k : Nat) (a0 : Int) (a1 : Int) (a2 : Int) (a3 : ByteArray) (a4 : ByteArray) : Option (ByteArray × Int) := (filter_wrong.f k a0 a1 a3 a4).bind fun t139 => (if t139 = 0 then (if 0 ≤ (a3.size : Int) then (if ((a3.size : Int) : Int).toNat ≤ 281474976710656 then ((some (List.replicate ((a3.size : Int) : Int).toNat 0 : List Int)).bind fun y140 => (filter_through.l0 k a0 a1 a2 a3 a4 y140 (y140.length : Int) 0)) else (none)) else (none)) else (some ((⟨#[]⟩ : ByteArray), t139)))
theorem filter_through.mono_l : ∀ k, (∀ y0 y1 y2 y3 y4 y5 y6 y7, LeO (filter_through.l0 k y0 y1 y2 y3 y4 y5 y6 y7) (filter_through.l0 (k + 1) y0 y1 y2 y3 y4 y5 y6 y7)) ∧ (∀ y0 y1 y2 y3 y4 y5 y6 y7 y8 y9 y10 y11, LeO (filter_through.j1 k y0 y1 y2 y3 y4 y5 y6 y7 y8 y9 y10 y11) (filter_through.j1 (k + 1) y0 y1 y2 y3 y4 y5 y6 y7 y8 y9 y10 y11))
 | 0 => ⟨fun _ _ _ _ _ _ _ _ r h => by simp [filter_through.l0] at h, fun _ _ _ _ _ _ _ _ _ _ _ _ r h => by simp [filter_through.j1] at h⟩
 | k + 1 => by
  obtain ⟨ih0, ih1⟩ := filter_through.mono_l k
  refine ⟨?_, ?_⟩
  ·intro y0 y1 y2 y3 y4 y5 y6 y7
   unfold filter_through.l0
   repeat' first
   | (with_reducible exact ih0 _ _ _ _ _ _ _ _)
   | (with_reducible exact ih1 _ _ _ _ _ _ _ _ _ _ _ _)
   | (with_reducible exact filter_foretold.mono _ _ _ _ _)
   | (with_reducible exact filter_wrong.mono _ _ _ _ _)
   | (with_reducible exact LeO.refl _)
   | (with_reducible exact LeO.none _)
   | (with_reducible refine LeO.ite ?_ ?_)
   | (with_reducible refine LeO.bind ?_ (fun _ => ?_))
   | exact ih0 _ _ _ _ _ _ _ _
   | exact ih1 _ _ _ _ _ _ _ _ _ _ _ _
   | exact filter_foretold.mono _ _ _ _ _
   | exact filter_wrong.mono _ _ _ _ _
   | exact LeO.none _
   | refine LeO.ite ?_ ?_
   | refine LeO.bind ?_ (fun _ => ?_)
  ·intro y0 y1 y2 y3 y4 y5 y6 y7 y8 y9 y10 y11
   unfold filter_through.j1
   repeat' first
   | (with_reducible exact ih0 _ _ _ _ _ _ _ _)
   | (with_reducible exact ih1 _ _ _ _ _ _ _ _ _ _ _ _)
   | (with_reducible exact filter_foretold.mono _ _ _ _ _)
   | (with_reducible exact filter_wrong.mono _ _ _ _ _)
   | (with_reducible exact LeO.refl _)
   | (with_reducible exact LeO.none _)
   | (with_reducible refine LeO.ite ?_ ?_)
   | (with_reducible refine LeO.bind ?_ (fun _ => ?_))
   | exact ih0 _ _ _ _ _ _ _ _
   | exact ih1 _ _ _ _ _ _ _ _ _ _ _ _
   | exact filter_foretold.mono _ _ _ _ _
   | exact filter_wrong.mono _ _ _ _ _
   | exact LeO.none _
   | refine LeO.ite ?_ ?_
   | refine LeO.bind ?_ (fun _ => ?_)
theorem filter_through.mono : ∀ a0 a1 a2 a3 a4 k, LeO (filter_through.f k a0 a1 a2 a3 a4) (filter_through.f (k + 1) a0 a1 a2 a3 a4) := by
 intro a0 a1 a2 a3 a4 k
 obtain ⟨ih0, ih1⟩ := filter_through.mono_l k
 unfold filter_through.f
 repeat' first
   | (with_reducible exact ih0 _ _ _ _ _ _ _ _)
   | (with_reducible exact ih1 _ _ _ _ _ _ _ _ _ _ _ _)
   | (with_reducible exact filter_foretold.mono _ _ _ _ _)
   | (with_reducible exact filter_wrong.mono _ _ _ _ _)
   | (with_reducible exact LeO.refl _)
   | (with_reducible exact LeO.none _)
   | (with_reducible refine LeO.ite ?_ ?_)
   | (with_reducible refine LeO.bind ?_ (fun _ => ?_))
   | exact ih0 _ _ _ _ _ _ _ _
   | exact ih1 _ _ _ _ _ _ _ _ _ _ _ _
   | exact filter_foretold.mono _ _ _ _ _
   | exact filter_wrong.mono _ _ _ _ _
   | exact LeO.none _
   | refine LeO.ite ?_ ?_
   | refine LeO.bind ?_ (fun _ => ?_)
def filter_through.T17 : Bool × List (List Nat × List Nat) := (true, [([], []), ([], []), ([], []), ([], []), ([2, 3], [2, 3]), ([4], [4]), ([], []), ([], []), ([], []), ([], []), ([], []), ([7, 8, 9, 10], [7, 8, 9, 10]), ([6, 11], [6, 11]), ([5, 12], [5, 12]), ([13], [13]), ([0, 1, 0, 1, 2, 3, 4, 5, 6, 7, 8, 9, 10, 11, 12, 13, 14], [0, 1]), ([15, 14, 11, 0, 1, 2, 3, 4, 5, 6, 7, 8, 9, 10, 11, 12, 13, 14], [14, 15])])
def filter_through.B17 : List Nat := [0, 0, 0, 0, 12, 28, 0, 0, 0, 0, 0, 1920, 4032, 8188, 16380, 32767, 65535]
theorem filter_through.tab17 : rtab .any (opsOf Try.f52 17) = filter_through.T17 := by kernel_rfl
theorem filter_through.bits17 : waitsOk filter_through.T17.2 filter_through.B17 = true := by kernel_rfl
set_option maxHeartbeats 40000000 in
set_option maxRecDepth 100000 in
theorem filter_through.calls (k : Nat) (a0 : Int) (a1 : Int) (a2 : Int) (a3 : ByteArray) (a4 : ByteArray) (r1 : ByteArray) (r2 : Int) (w : World) (h : filter_through.f k a0 a1 a2 a3 a4 = some (r1, r2)) :
  Calls Try.prog 52 #[.int .i64 a0, .int .i64 a1, .int .i64 a2, .string a3, .string a4] w fun e w' => e = .returned (.tuple #[.string r1, .int .i64 r2]) ∧ Below w.heap.size w w' := by
 have HB := Aside0.mk (Below.refl w.heap.size w)
 have H : ((filter_wrong.f k a0 a1 a3 a4).bind fun t139 => (if t139 = 0 then (if 0 ≤ (a3.size : Int) then (if ((a3.size : Int) : Int).toNat ≤ 281474976710656 then ((some (List.replicate ((a3.size : Int) : Int).toNat 0 : List Int)).bind fun y140 => (filter_through.l0 k a0 a1 a2 a3 a4 y140 (y140.length : Int) 0)) else (none)) else (none)) else (some ((⟨#[]⟩ : ByteArray), t139)))) = some (r1, r2) := h
 clear h
 replace H := Option.bind_eq_some_iff.mp H
 obtain ⟨t139, A60, H⟩ := H
 replace H : (if t139 = 0 then (if 0 ≤ (a3.size : Int) then (if ((a3.size : Int) : Int).toNat ≤ 281474976710656 then ((some (List.replicate ((a3.size : Int) : Int).toNat 0 : List Int)).bind fun y140 => (filter_through.l0 k a0 a1 a2 a3 a4 y140 (y140.length : Int) 0)) else (none)) else (none)) else (some ((⟨#[]⟩ : ByteArray), t139))) = some (r1, r2) := H
 have A6 := Aside0.mk A60
 clear A60
 by_cases c7 : t139 = 0
 ·rw [if_pos c7] at H
  have c7b0 : (t139 == 0) = true := beq_iff_eq.mpr c7
  have c7b1 : (t139 != 0) = false := bne_eq_false_iff_eq.mpr c7
  clear c7
  by_cases c8 : 0 ≤ (a3.size : Int)
  ·rw [if_pos c8] at H
   have c8b0 := eq_true c8
   have c8b1 : decide (0 ≤ (a3.size : Int)) = true := decide_eq_true c8
   clear c8
   by_cases c9 : ((a3.size : Int) : Int).toNat ≤ 281474976710656
   ·rw [if_pos c9] at H
    have c9b0 := eq_true c9
    have c9b1 : decide (((a3.size : Int) : Int).toNat ≤ 281474976710656) = true := decide_eq_true c9
    clear c9
    obtain ⟨y140, hy140⟩ : ∃ y_ : List Int, y_ = (List.replicate ((a3.size : Int) : Int).toNat 0) := ⟨_, rfl⟩
    replace H : (filter_through.l0 k a0 a1 a2 a3 a4 y140 (y140.length : Int) 0) = some (r1, r2) := by first | (rw [hy140]; with_reducible exact H) | (have H2_ := (Option.bind_some _ _).symm.trans H; rw [hy140]; with_reducible exact H2_) | (have H2_ := (Option.bind_some _ _).symm.trans H; with_reducible exact H2_) | with_reducible exact H | (rw [hy140]; exact H) | exact H
    have Ny140 := Aside0.mk hy140
    clear hy140
    have H' := Aside0.mk H
    clear H
    go_enter Try.func52, Try.ntmps52
    go_wp2_with (first | ((with_reducible refine gate_callee (f := 61) rfl ?_); refine gz 22 Try.func61 #[.int .i64 a0, .int .i64 a1, .string a3, .string a4] ?_; (with_reducible refine (filter_wrong.calls k a0 a1 a3 a4 t139 _ A6.out).mono ?_); rintro e w' ⟨rfl, ⟨nd, rfl⟩⟩; refine ⟨_, rfl, ?_⟩) | ((with_reducible refine gate_dst (N := 28) rfl ?_); refine Kd.R_make (Kd.int .u8) _ 5 rfl (N := 28) rfl 45 _ _ rfl (a3.size : Int) rfl rfl Try.underlying45 (.int .u8 0) 1 info5 rfl (by decide) (by omega) 0 (ok := fun _ => True) (okp := fun _ => True) rfl (fun _ hk => hk) trivial (of_decide_eq_true (by first | (with_reducible assumption) | assumption)) (Nat.le_trans (Nat.mul_le_mul_right _ (of_decide_eq_true (by first | (with_reducible assumption) | assumption) : (a3.size : Int).toNat ≤ 281474976710656)) (by omega)) (Below.refl _ _) (Nat.le_refl _) ?_; intro v141 w10 ho11 hb hg_ hnew_; clear hg_ hnew_; (first | rw [← Ny140.out] at ho11 | (simp only [Int.reduceToNat] at ho11; rw [← Ny140.out] at ho11)); have n0_ := Aside0.mk (Kd.R_lower ho11 (below_size (hz HB))); have n1_ := Aside0.mk (below_step (hz HB) hb); clear HB; have HO142 := n0_; have HB := n1_; clear n0_ n1_; clear hb ho11; obtain ⟨Ao12, co12, eo12⟩ := Kd.R_slice HO142.out; subst eo12))
    go_loopg [31] k (fun kq v31 w' => ∃ (x13_1 : List Int) (x31_1 : Int), v31 = .int .i64 x31_1 ∧ Aside0 (filter_through.l0 kq a0 a1 a2 a3 a4 x13_1 (y140.length : Int) x31_1 = some (r1, r2)) ∧ Aside0 (kq ≤ k) ∧ Aside0 (Kd.R (Kd.int .u8) 5 w' w.heap.size (fun _ => True) (.slice Ao12 y140.length co12) x13_1) ∧ Aside0 (Below w.heap.size w w'))
    case atStart => exact ⟨(y140), (0), (by first | rfl | (simp; done) | (simp [*]; done)), H', ⟨Nat.le_refl _⟩, ⟨oz HO142⟩, ⟨hz HB⟩⟩
    case round =>
     clear H'
     try clear c7
     try clear c7b0
     try clear c7b1
     try clear c8
     try clear c8b0
     try clear c8b1
     try clear c9
     try clear c9b0
     try clear c9b1
     obtain ⟨x13_1, x31_1, rfl, HA, HK1, HO_13, HB⟩ := hrel
     have hl13_1 := (Kd.R_reads' HO_13.out).1
     rw [hl13_1] at HO_13
     (try simp only [hl13_1])
     cases gk with
     | zero => exact absurd HA.out (by simp [filter_through.l0])
     | succ k1 =>
      have H := HA.out
      clear HA
      simp only [filter_through.l0] at H
      by_cases c13 : x31_1 < (y140.length : Int)
      ·rw [if_pos c13] at H
       have c13b0 : decide (x31_1 < (y140.length : Int)) = true := decide_eq_true c13
       (try simp only [hl13_1] at c13b0)
       clear c13
       have HC14 := Aside0.mk H
       clear H
       go_upto_if 35 with (fail)
       go_cut [16] (fun v16 wc => ∃ (kq : Nat) (x16_13 : Int), v16 = .int .i64 x16_13 ∧ Aside0 (filter_through.j1 kq a0 a1 a2 a3 a4 x13_1 x31_1 0 x16_13 0 (y140.length : Int) x31_1 = some (r1, r2)) ∧ Aside0 (kq ≤ k1) ∧ Aside0 (Kd.R (Kd.int .u8) 5 wc w.heap.size (fun _ => True) (.slice Ao12 x13_1.length co12) x13_1) ∧ Aside0 (Below w.heap.size w wc))
       case first =>
        have H := HC14.out
        clear HC14
        by_cases c15 : a4.toList = ([] : List UInt8)
        ·rw [if_pos c15] at H
         have c15b0 : (a4.toList == ([] : List UInt8)) = true := beq_iff_eq.mpr c15
         have c15b1 : (a4.toList != ([] : List UInt8)) = false := bne_eq_false_iff_eq.mpr c15
         clear c15
         (first | rw [c15b0] | (have e_ : a4.toList.isEmpty = true := (by have h_ := beq_iff_eq.mp c15b0; rw [h_]; rfl); rw [e_]; simp only [Bool.not_true, Bool.not_false]; clear e_) | (simp only [i64_w, i32_w]; rw [c15b0]) | skip)
         have H' := Aside0.mk H
         clear H
         go_wp2
         go_meet
         case rel => exact ⟨_, (0), (by first | rfl | (simp; done) | (simp [*]; done)), H', ⟨by have := HK1.out; first | omega | exact Nat.le_refl _⟩, ⟨by (try simp only [hl13_1]); (with_reducible repeat (first | apply Kd.R_alloc | apply Kd.R_drewN | apply Kd.R_drew)); exact HO_13.out⟩, ⟨hz HB⟩⟩
        ·rw [if_neg c15] at H
         have c15b0 : (a4.toList == ([] : List UInt8)) = false := beq_eq_false_iff_ne.mpr c15
         have c15b1 : (a4.toList != ([] : List UInt8)) = true := bne_iff_ne.mpr c15
         (first | rw [c15b0] | (have e_ : a4.toList.isEmpty = false := (by have h_ := beq_eq_false_iff_ne.mp c15b0; cases hx_ : a4.toList with | nil => exact absurd hx_ h_ | cons _ _ => rfl); rw [e_]; simp only [Bool.not_true, Bool.not_false]; clear e_) | (simp only [i64_w, i32_w]; rw [c15b0]) | skip)
         by_cases c16 : 0 ≤ x31_1
         ·rw [if_pos c16] at H
          have c16b0 : decide (0 ≤ x31_1) = true := decide_eq_true c16
          clear c16
          by_cases c17 : x31_1 < (a4.size : Int)
          ·rw [if_pos c17] at H
           have c17b0 : decide (x31_1 < (a4.size : Int)) = true := decide_eq_true c17
           clear c17
           have H' := Aside0.mk H
           clear H
           have p18 : 0 ≤ (x31_1 : Int) := of_decide_eq_true (by first | (with_reducible assumption) | assumption)
           have q18 : x31_1 < (a4.size : Int) := of_decide_eq_true (by first | (with_reducible assumption) | assumption)
           have hx18 := bt_at a4 x31_1
           replace p18 := eq_true p18
           replace q18 := eq_true q18
           go_wp2
           go_meet
           case rel => exact ⟨_, (wrap64 (bt a4 x31_1)), (by first | rfl | (simp; done) | (simp [*]; done)), H', ⟨by have := HK1.out; first | omega | exact Nat.le_refl _⟩, ⟨by (try simp only [hl13_1]); (with_reducible repeat (first | apply Kd.R_alloc | apply Kd.R_drewN | apply Kd.R_drew)); exact HO_13.out⟩, ⟨hz HB⟩⟩
          ·rw [if_neg c17] at H
           exact absurd H (by simp)
         ·rw [if_neg c16] at H
          exact absurd H (by simp)
       case rest =>
        clear HC14
        try clear c7
        try clear c7b0
        try clear c7b1
        try clear c8
        try clear c8b0
        try clear c8b1
        try clear c9
        try clear c9b0
        try clear c9b1
        try clear c13
        try clear c13b0
        obtain ⟨kq, x16_13, rfl, HA, HJ13, HO_13, HB⟩ := hcut
        cases kq with
        | zero => exact absurd HA.out (by simp [filter_through.j1])
        | succ kj13 =>
         have H := HA.out
         clear HA
         simp only [filter_through.j1] at H
         by_cases c19 : x31_1 ≥ a0
         ·rw [if_pos c19] at H
          have c19b0 : decide (a0 ≤ x31_1) = true := decide_eq_true c19
          clear c19
          obtain ⟨ji20, hji20⟩ : ∃ j_ : Int, (wrap64 (x31_1 - a0)) = j_ := ⟨_, rfl⟩
          replace H : (if 0 ≤ (ji20) then (if (ji20) < (a3.size : Int) then (if a2 > 0 then (if (ji20) < (x13_1.length : Int) then (if a4.toList = ([] : List UInt8) then (if 0 ≤ x31_1 then (if x31_1 < (a3.size : Int) then ((filter_foretold.f kj13 a1 (wrap64 (rd x13_1 (ji20))) x16_13 0).bind fun t144 => (if x31_1 < (x13_1.length : Int) then (filter_through.l0 kj13 a0 a1 a2 a3 a4 (x13_1.set (x31_1 : Int).toNat ((wrap64 ((wrap64 (bt a3 x31_1)) + (wrap64 (a2 * t144)))) % 256)) (y140.length : Int) (wrap64 (x31_1 + 1))) else (none))) else (none)) else (none)) else (if (ji20) < (a4.size : Int) then (if 0 ≤ x31_1 then (if x31_1 < (a3.size : Int) then ((filter_foretold.f kj13 a1 (wrap64 (rd x13_1 (ji20))) x16_13 (wrap64 (bt a4 (ji20)))).bind fun t146 => (if x31_1 < (x13_1.length : Int) then (filter_through.l0 kj13 a0 a1 a2 a3 a4 (x13_1.set (x31_1 : Int).toNat ((wrap64 ((wrap64 (bt a3 x31_1)) + (wrap64 (a2 * t146)))) % 256)) (y140.length : Int) (wrap64 (x31_1 + 1))) else (none))) else (none)) else (none)) else (none))) else (none)) else (if a4.toList = ([] : List UInt8) then (if 0 ≤ x31_1 then (if x31_1 < (a3.size : Int) then ((filter_foretold.f kj13 a1 (wrap64 (bt a3 (ji20))) x16_13 0).bind fun t148 => (if x31_1 < (x13_1.length : Int) then (filter_through.l0 kj13 a0 a1 a2 a3 a4 (x13_1.set (x31_1 : Int).toNat ((wrap64 ((wrap64 (bt a3 x31_1)) + (wrap64 (a2 * t148)))) % 256)) (y140.length : Int) (wrap64 (x31_1 + 1))) else (none))) else (none)) else (none)) else (if (ji20) < (a4.size : Int) then (if 0 ≤ x31_1 then (if x31_1 < (a3.size : Int) then ((filter_foretold.f kj13 a1 (wrap64 (bt a3 (ji20))) x16_13 (wrap64 (bt a4 (ji20)))).bind fun t150 => (if x31_1 < (x13_1.length : Int) then (filter_through.l0 kj13 a0 a1 a2 a3 a4 (x13_1.set (x31_1 : Int).toNat ((wrap64 ((wrap64 (bt a3 x31_1)) + (wrap64 (a2 * t150)))) % 256)) (y140.length : Int) (wrap64 (x31_1 + 1))) else (none))) else (none)) else (none)) else (none)))) else (none)) else (none)) = some (r1, r2) := by first | (rw [hji20] at H; exact H) | (simp only [hji20] at H ⊢; exact H)
          have hji20w : (IntKind.i64.wrap (x31_1 - a0)) = ji20 := (i64_w _).trans hji20
          by_cases c21 : 0 ≤ (ji20)
          ·rw [if_pos c21] at H
           have c21b0 : decide (0 ≤ (ji20)) = true := decide_eq_true c21
           clear c21
           by_cases c22 : (ji20) < (a3.size : Int)
           ·rw [if_pos c22] at H
            have c22b0 : decide ((ji20) < (a3.size : Int)) = true := decide_eq_true c22
            clear c22
            by_cases c24 : a2 > 0
            ·rw [if_pos c24] at H
             have c24b0 : decide (0 < a2) = true := decide_eq_true c24
             clear c24
             by_cases c25 : (ji20) < (x13_1.length : Int)
             ·rw [if_pos c25] at H
              have c25b0 : decide ((ji20) < (x13_1.length : Int)) = true := decide_eq_true c25
              (try simp only [hl13_1] at c25b0)
              clear c25
              by_cases c26 : a4.toList = ([] : List UInt8)
              ·rw [if_pos c26] at H
               have c26b0 : (a4.toList == ([] : List UInt8)) = true := beq_iff_eq.mpr c26
               have c26b1 : (a4.toList != ([] : List UInt8)) = false := bne_eq_false_iff_eq.mpr c26
               clear c26
               by_cases c27 : 0 ≤ x31_1
               ·rw [if_pos c27] at H
                have c27b0 : decide (0 ≤ x31_1) = true := decide_eq_true c27
                clear c27
                by_cases c28 : x31_1 < (a3.size : Int)
                ·rw [if_pos c28] at H
                 have c28b0 : decide (x31_1 < (a3.size : Int)) = true := decide_eq_true c28
                 clear c28
                 replace H := Option.bind_eq_some_iff.mp H
                 obtain ⟨t144, A300, H⟩ := H
                 replace H : (if x31_1 < (x13_1.length : Int) then (filter_through.l0 kj13 a0 a1 a2 a3 a4 (x13_1.set (x31_1 : Int).toNat ((wrap64 ((wrap64 (bt a3 x31_1)) + (wrap64 (a2 * t144)))) % 256)) (y140.length : Int) (wrap64 (x31_1 + 1))) else (none)) = some (r1, r2) := H
                 have A30 := Aside0.mk A300
                 clear A300
                 by_cases c31 : x31_1 < (x13_1.length : Int)
                 ·rw [if_pos c31] at H
                  have c31b0 : decide (x31_1 < (x13_1.length : Int)) = true := decide_eq_true c31
                  (try simp only [hl13_1] at c31b0)
                  clear c31
                  obtain ⟨y145, hy145⟩ : ∃ y_ : List Int, y_ = (x13_1.set (x31_1 : Int).toNat ((wrap64 ((wrap64 (bt a3 x31_1)) + (wrap64 (a2 * t144)))) % 256)) := ⟨_, rfl⟩
                  replace H : (filter_through.l0 kj13 a0 a1 a2 a3 a4 y145 (y140.length : Int) (wrap64 (x31_1 + 1))) = some (r1, r2) := by first | (rw [hy145]; with_reducible exact H) | (have H2_ := (Option.bind_some _ _).symm.trans H; rw [hy145]; with_reducible exact H2_) | (have H2_ := (Option.bind_some _ _).symm.trans H; with_reducible exact H2_) | with_reducible exact H | (rw [hy145]; exact H) | exact H
                  have Ny145 := Aside0.mk hy145
                  clear hy145
                  have H' := Aside0.mk H
                  clear H
                  have p23 : 0 ≤ ((ji20) : Int) := of_decide_eq_true (by first | (with_reducible assumption) | assumption)
                  have q23 : (ji20) < (a3.size : Int) := of_decide_eq_true (by first | (with_reducible assumption) | assumption)
                  have hx23 := bt_at a3 (ji20)
                  replace p23 := eq_true p23
                  replace q23 := eq_true q23
                  have p143 : 0 ≤ ((ji20) : Int) := of_decide_eq_true (by first | (with_reducible assumption) | assumption)
                  have q143 : (ji20) < (x13_1.length : Int) := of_decide_eq_true (by first | (with_reducible assumption) | assumption)
                  obtain ⟨ad143, e143, hx143_0⟩ := Kd.at_int (Kd.R_reads' HO_13.out).2.2 (ji20) p143 q143
                  cases e143
                  replace p143 := eq_true p143
                  replace q143 := eq_true q143
                  try go_wp2
                  have n0_ := Aside0.mk (Kd.R_drew HO_13.out)
                  have n1_ := Aside0.mk (below_drew1 HB.out)
                  clear HO_13
                  clear HB
                  have HO_13 := n0_
                  have HB := n1_
                  clear n0_ n1_
                  have p29 : 0 ≤ (x31_1 : Int) := of_decide_eq_true (by first | (with_reducible assumption) | assumption)
                  have q29 : x31_1 < (a3.size : Int) := of_decide_eq_true (by first | (with_reducible assumption) | assumption)
                  have hx29 := bt_at a3 x31_1
                  replace p29 := eq_true p29
                  replace q29 := eq_true q29
                  refine start_ (n := 17) (S := fun w' => True) (ds := [16]) (bm 17 0) (by kernel_rfl) rfl rfl trivial (fun hHeld => ?_); refine with_tabW filter_through.tab17 filter_through.bits17 (fun HT_ HW_ => ?_)
                  generalize wc.drew = w33 at HO_13 HB hHeld ⊢
                  refine zp 0 66 (bm 17 1) ?_
                  refine zp 1 67 (bm 17 3) ?_
                  refine zp 2 68 (bm 17 7) ?_
                  refine zp 3 69 (bm 17 15) ?_
                  refine zp 6 72 (bm 17 79) ?_
                  refine zp 7 73 (bm 17 207) ?_
                  refine zp 8 74 (bm 17 463) ?_
                  refine zp 9 75 (bm 17 975) ?_
                  refine zp 10 76 (bm 17 1999) ?_
                  refine zt 4 70 (bm 17 2015) rfl (by intro w' _; go_simp; with_reducible rfl) ?_
                  refine zp 5 71 (bm 17 2047) ?_
                  refine one_ (i := 11) (N := some 77) (bm 17 4095) rfl rfl (one_of HT_.out (by kernel_rfl)) (by decide) (fun K hK => ?_)
                  refine goes_ Try.func62 (by kernel_rfl) rfl #[.int .i64 a1, .int .i64 (wrap64 (rd x13_1 (ji20))), .int .i64 x16_13, .int .i64 0] (by rfl) rfl rfl (by (try simp only [List.map_toArray, List.map_cons, List.map_nil]); first | done | (simp only [hji20]; rfl) | rfl | (simp only [List.length_drop, List.length_take]; rfl) | (simp only [ByteArray.size_extract, Nat.min_self]; done) | (simp only [ByteArray.size_extract, Nat.min_self]; rfl)) ?_
                  with_reducible refine (filter_foretold.calls kj13 a1 (wrap64 (rd x13_1 (ji20))) x16_13 0 t144 _ A30.out).mono ?_
                  rintro e w34 ⟨rfl, hb⟩
                  refine ⟨_, rfl, ?_⟩
                  have n0_ := Aside0.mk (Kd.R_below (oz HO_13) hb)
                  have n1_ := Aside0.mk (below_step (hz HB) hb)
                  clear HO_13
                  clear HB
                  have HO_13 := n0_
                  have HB := n1_
                  clear n0_ n1_
                  (try clear hb)
                  (try clear hk)
                  have p32 : 0 ≤ (x31_1 : Int) := of_decide_eq_true (by first | (with_reducible assumption) | assumption)
                  have q32 : (x31_1 : Int) < ((x13_1.length : Int) : Int) := of_decide_eq_true (by first | (with_reducible assumption) | assumption)
                  obtain ⟨go32, co32, eo32, gb32, gl32, cl32, HG32⟩ := Kd.R_form HO_13.out (by omega)
                  (first | cases eo32 | (injection eo32 with ea_ en_ ec_; (first | subst ea_ | (injection ea_ with ea_; subst ea_)); subst ec_; clear en_))
                  have GB32 := Aside0.mk gb32
                  have GG32 := Aside0.mk HG32
                  clear gb32 gl32 HG32
                  (first | simp only [add_plain] at hx143_0 | skip)
                  obtain ⟨hx32_0, hf32_0⟩ := Kd.R_celln 0 HO_13.out (x31_1 : Int) p32 q32
                  replace p32 := eq_true p32
                  replace q32 := eq_true q32
                  have HP35 := Kd.R_putn HO_13.out (x31_1 : Int) ((wrap64 ((wrap64 (bt a3 x31_1)) + (wrap64 (a2 * t144)))) % 256)
                  rw [← Ny145.out] at HP35
                  have HQ35 := Aside0.mk HP35
                  clear HP35
                  refine hK.out _ _ trivial (fun hHeld => ?_)
                  clear hK K
                  refine norm_ (a' := ?_) ?_ ?_
                  rotate_left
                  ·show Act.put _ (some 77) _ = _
                   simp only [Act.put, zq1, zq2, zq3, i64_w, i32_w]
                   rfl
                  refine zp 12 78 (bm 17 8191) ?_
                  refine zp 13 79 (bm 17 16383) ?_
                  refine zp 14 80 (bm 17 32767) ?_
                  refine zp 15 81 (bm 17 65535) ?_
                  refine last_ (i := 16) (N := none) (bm 17 131071) rfl rfl (one_of HT_.out (by kernel_rfl)) (by decide) (fun K hK => ?_)
                  refine skip_ (w1 := ?_) (by rfl) rfl ?_ ?_
                  rotate_left
                  ·go_simp
                   rfl
                  refine hK.out _ _ ?_
                  clear hK K
                  refine done_ (done_of HT_.out (by kernel_rfl)) ?_
                  try go_wp2
                  (try simp only [← hl13_1])
                  go_roundg kj13
                  case measure => have := HK1.out; have := HJ13.out; omega
                  case rel => exact ⟨(y145), (wrap64 (x31_1 + 1)), (by first | rfl | (simp; done) | (simp [*]; done)), H', ⟨by have := HK1.out; have := HJ13.out; omega⟩, ⟨by (try simp only [hl13_1]); (with_reducible repeat (first | apply Kd.R_alloc | apply Kd.R_drewN | apply Kd.R_drew)); exact HQ35.out⟩, ⟨by repeat (first | (with_reducible first | exact HB.out | apply below_alloc | apply pw_below_drewN | apply below_drew1 | refine below_set ?_ GB32.out) | exact HB.out)⟩⟩
                 ·rw [if_neg c31] at H
                  exact absurd H (by simp)
                ·rw [if_neg c28] at H
                 exact absurd H (by simp)
               ·rw [if_neg c27] at H
                exact absurd H (by simp)
              ·rw [if_neg c26] at H
               have c26b0 : (a4.toList == ([] : List UInt8)) = false := beq_eq_false_iff_ne.mpr c26
               have c26b1 : (a4.toList != ([] : List UInt8)) = true := bne_iff_ne.mpr c26
               by_cases c36 : (ji20) < (a4.size : Int)
               ·rw [if_pos c36] at H
                have c36b0 : decide ((ji20) < (a4.size : Int)) = true := decide_eq_true c36
                clear c36
                by_cases c38 : 0 ≤ x31_1
                ·rw [if_pos c38] at H
                 have c38b0 : decide (0 ≤ x31_1) = true := decide_eq_true c38
                 clear c38
                 by_cases c39 : x31_1 < (a3.size : Int)
                 ·rw [if_pos c39] at H
                  have c39b0 : decide (x31_1 < (a3.size : Int)) = true := decide_eq_true c39
                  clear c39
                  replace H := Option.bind_eq_some_iff.mp H
                  obtain ⟨t146, A410, H⟩ := H
                  replace H : (if x31_1 < (x13_1.length : Int) then (filter_through.l0 kj13 a0 a1 a2 a3 a4 (x13_1.set (x31_1 : Int).toNat ((wrap64 ((wrap64 (bt a3 x31_1)) + (wrap64 (a2 * t146)))) % 256)) (y140.length : Int) (wrap64 (x31_1 + 1))) else (none)) = some (r1, r2) := H
                  have A41 := Aside0.mk A410
                  clear A410
                  by_cases c42 : x31_1 < (x13_1.length : Int)
                  ·rw [if_pos c42] at H
                   have c42b0 : decide (x31_1 < (x13_1.length : Int)) = true := decide_eq_true c42
                   (try simp only [hl13_1] at c42b0)
                   clear c42
                   obtain ⟨y147, hy147⟩ : ∃ y_ : List Int, y_ = (x13_1.set (x31_1 : Int).toNat ((wrap64 ((wrap64 (bt a3 x31_1)) + (wrap64 (a2 * t146)))) % 256)) := ⟨_, rfl⟩
                   replace H : (filter_through.l0 kj13 a0 a1 a2 a3 a4 y147 (y140.length : Int) (wrap64 (x31_1 + 1))) = some (r1, r2) := by first | (rw [hy147]; with_reducible exact H) | (have H2_ := (Option.bind_some _ _).symm.trans H; rw [hy147]; with_reducible exact H2_) | (have H2_ := (Option.bind_some _ _).symm.trans H; with_reducible exact H2_) | with_reducible exact H | (rw [hy147]; exact H) | exact H
                   have Ny147 := Aside0.mk hy147
                   clear hy147
                   have H' := Aside0.mk H
                   clear H
                   have p23 : 0 ≤ ((ji20) : Int) := of_decide_eq_true (by first | (with_reducible assumption) | assumption)
                   have q23 : (ji20) < (a3.size : Int) := of_decide_eq_true (by first | (with_reducible assumption) | assumption)
                   have hx23 := bt_at a3 (ji20)
                   replace p23 := eq_true p23
                   replace q23 := eq_true q23
                   have p143 : 0 ≤ ((ji20) : Int) := of_decide_eq_true (by first | (with_reducible assumption) | assumption)
                   have q143 : (ji20) < (x13_1.length : Int) := of_decide_eq_true (by first | (with_reducible assumption) | assumption)
                   obtain ⟨ad143, e143, hx143_0⟩ := Kd.at_int (Kd.R_reads' HO_13.out).2.2 (ji20) p143 q143
                   cases e143
                   replace p143 := eq_true p143
                   replace q143 := eq_true q143
                   have p37 : 0 ≤ ((ji20) : Int) := of_decide_eq_true (by first | (with_reducible assumption) | assumption)
                   have q37 : (ji20) < (a4.size : Int) := of_decide_eq_true (by first | (with_reducible assumption) | assumption)
                   have hx37 := bt_at a4 (ji20)
                   replace p37 := eq_true p37
                   replace q37 := eq_true q37
                   try go_wp2
                   have n0_ := Aside0.mk (Kd.R_drew HO_13.out)
                   have n1_ := Aside0.mk (below_drew1 HB.out)
                   clear HO_13
                   clear HB
                   have HO_13 := n0_
                   have HB := n1_
                   clear n0_ n1_
                   have p40 : 0 ≤ (x31_1 : Int) := of_decide_eq_true (by first | (with_reducible assumption) | assumption)
                   have q40 : x31_1 < (a3.size : Int) := of_decide_eq_true (by first | (with_reducible assumption) | assumption)
                   have hx40 := bt_at a3 x31_1
                   replace p40 := eq_true p40
                   replace q40 := eq_true q40
                   refine start_ (n := 17) (S := fun w' => True) (ds := [16]) (bm 17 0) (by kernel_rfl) rfl rfl trivial (fun hHeld => ?_); refine with_tabW filter_through.tab17 filter_through.bits17 (fun HT_ HW_ => ?_)
                   generalize wc.drew = w44 at HO_13 HB hHeld ⊢
                   refine zp 0 66 (bm 17 1) ?_
                   refine zp 1 67 (bm 17 3) ?_
                   refine zp 2 68 (bm 17 7) ?_
                   refine zp 3 69 (bm 17 15) ?_
                   refine zp 6 72 (bm 17 79) ?_
                   refine zp 7 73 (bm 17 207) ?_
                   refine zp 8 74 (bm 17 463) ?_
                   refine zp 9 75 (bm 17 975) ?_
                   refine zp 10 76 (bm 17 1999) ?_
                   refine zt 4 70 (bm 17 2015) rfl (by intro w' _; go_simp; with_reducible rfl) ?_
                   refine zp 5 71 (bm 17 2047) ?_
                   refine one_ (i := 11) (N := some 77) (bm 17 4095) rfl rfl (one_of HT_.out (by kernel_rfl)) (by decide) (fun K hK => ?_)
                   refine goes_ Try.func62 (by kernel_rfl) rfl #[.int .i64 a1, .int .i64 (wrap64 (rd x13_1 (ji20))), .int .i64 x16_13, .int .i64 (wrap64 (bt a4 (ji20)))] (by rfl) rfl rfl (by (try simp only [List.map_toArray, List.map_cons, List.map_nil]); first | done | (simp only [hji20]; rfl) | rfl | (simp only [List.length_drop, List.length_take]; rfl) | (simp only [ByteArray.size_extract, Nat.min_self]; done) | (simp only [ByteArray.size_extract, Nat.min_self]; rfl)) ?_
                   with_reducible refine (filter_foretold.calls kj13 a1 (wrap64 (rd x13_1 (ji20))) x16_13 (wrap64 (bt a4 (ji20))) t146 _ A41.out).mono ?_
                   rintro e w45 ⟨rfl, hb⟩
                   refine ⟨_, rfl, ?_⟩
                   have n0_ := Aside0.mk (Kd.R_below (oz HO_13) hb)
                   have n1_ := Aside0.mk (below_step (hz HB) hb)
                   clear HO_13
                   clear HB
                   have HO_13 := n0_
                   have HB := n1_
                   clear n0_ n1_
                   (try clear hb)
                   (try clear hk)
                   have p43 : 0 ≤ (x31_1 : Int) := of_decide_eq_true (by first | (with_reducible assumption) | assumption)
                   have q43 : (x31_1 : Int) < ((x13_1.length : Int) : Int) := of_decide_eq_true (by first | (with_reducible assumption) | assumption)
                   obtain ⟨go43, co43, eo43, gb43, gl43, cl43, HG43⟩ := Kd.R_form HO_13.out (by omega)
                   (first | cases eo43 | (injection eo43 with ea_ en_ ec_; (first | subst ea_ | (injection ea_ with ea_; subst ea_)); subst ec_; clear en_))
                   have GB43 := Aside0.mk gb43
                   have GG43 := Aside0.mk HG43
                   clear gb43 gl43 HG43
                   (first | simp only [add_plain] at hx143_0 | skip)
                   obtain ⟨hx43_0, hf43_0⟩ := Kd.R_celln 0 HO_13.out (x31_1 : Int) p43 q43
                   replace p43 := eq_true p43
                   replace q43 := eq_true q43
                   have HP46 := Kd.R_putn HO_13.out (x31_1 : Int) ((wrap64 ((wrap64 (bt a3 x31_1)) + (wrap64 (a2 * t146)))) % 256)
                   rw [← Ny147.out] at HP46
                   have HQ46 := Aside0.mk HP46
                   clear HP46
                   refine hK.out _ _ trivial (fun hHeld => ?_)
                   clear hK K
                   refine norm_ (a' := ?_) ?_ ?_
                   rotate_left
                   ·show Act.put _ (some 77) _ = _
                    simp only [Act.put, zq1, zq2, zq3, i64_w, i32_w]
                    rfl
                   refine zp 12 78 (bm 17 8191) ?_
                   refine zp 13 79 (bm 17 16383) ?_
                   refine zp 14 80 (bm 17 32767) ?_
                   refine zp 15 81 (bm 17 65535) ?_
                   refine last_ (i := 16) (N := none) (bm 17 131071) rfl rfl (one_of HT_.out (by kernel_rfl)) (by decide) (fun K hK => ?_)
                   refine skip_ (w1 := ?_) (by rfl) rfl ?_ ?_
                   rotate_left
                   ·go_simp
                    rfl
                   refine hK.out _ _ ?_
                   clear hK K
                   refine done_ (done_of HT_.out (by kernel_rfl)) ?_
                   try go_wp2
                   (try simp only [← hl13_1])
                   go_roundg kj13
                   case measure => have := HK1.out; have := HJ13.out; omega
                   case rel => exact ⟨(y147), (wrap64 (x31_1 + 1)), (by first | rfl | (simp; done) | (simp [*]; done)), H', ⟨by have := HK1.out; have := HJ13.out; omega⟩, ⟨by (try simp only [hl13_1]); (with_reducible repeat (first | apply Kd.R_alloc | apply Kd.R_drewN | apply Kd.R_drew)); exact HQ46.out⟩, ⟨by repeat (first | (with_reducible first | exact HB.out | apply below_alloc | apply pw_below_drewN | apply below_drew1 | refine below_set ?_ GB43.out) | exact HB.out)⟩⟩
                  ·rw [if_neg c42] at H
                   exact absurd H (by simp)
                 ·rw [if_neg c39] at H
                  exact absurd H (by simp)
                ·rw [if_neg c38] at H
                 exact absurd H (by simp)
               ·rw [if_neg c36] at H
                exact absurd H (by simp)
             ·rw [if_neg c25] at H
              exact absurd H (by simp)
            ·rw [if_neg c24] at H
             have c24b0 : decide (0 < a2) = false := decide_eq_false c24
             clear c24
             by_cases c47 : a4.toList = ([] : List UInt8)
             ·rw [if_pos c47] at H
              have c47b0 : (a4.toList == ([] : List UInt8)) = true := beq_iff_eq.mpr c47
              have c47b1 : (a4.toList != ([] : List UInt8)) = false := bne_eq_false_iff_eq.mpr c47
              clear c47
              by_cases c48 : 0 ≤ x31_1
              ·rw [if_pos c48] at H
               have c48b0 : decide (0 ≤ x31_1) = true := decide_eq_true c48
               clear c48
               by_cases c49 : x31_1 < (a3.size : Int)
               ·rw [if_pos c49] at H
                have c49b0 : decide (x31_1 < (a3.size : Int)) = true := decide_eq_true c49
                clear c49
                replace H := Option.bind_eq_some_iff.mp H
                obtain ⟨t148, A510, H⟩ := H
                replace H : (if x31_1 < (x13_1.length : Int) then (filter_through.l0 kj13 a0 a1 a2 a3 a4 (x13_1.set (x31_1 : Int).toNat ((wrap64 ((wrap64 (bt a3 x31_1)) + (wrap64 (a2 * t148)))) % 256)) (y140.length : Int) (wrap64 (x31_1 + 1))) else (none)) = some (r1, r2) := H
                have A51 := Aside0.mk A510
                clear A510
                by_cases c52 : x31_1 < (x13_1.length : Int)
                ·rw [if_pos c52] at H
                 have c52b0 : decide (x31_1 < (x13_1.length : Int)) = true := decide_eq_true c52
                 (try simp only [hl13_1] at c52b0)
                 clear c52
                 obtain ⟨y149, hy149⟩ : ∃ y_ : List Int, y_ = (x13_1.set (x31_1 : Int).toNat ((wrap64 ((wrap64 (bt a3 x31_1)) + (wrap64 (a2 * t148)))) % 256)) := ⟨_, rfl⟩
                 replace H : (filter_through.l0 kj13 a0 a1 a2 a3 a4 y149 (y140.length : Int) (wrap64 (x31_1 + 1))) = some (r1, r2) := by first | (rw [hy149]; with_reducible exact H) | (have H2_ := (Option.bind_some _ _).symm.trans H; rw [hy149]; with_reducible exact H2_) | (have H2_ := (Option.bind_some _ _).symm.trans H; with_reducible exact H2_) | with_reducible exact H | (rw [hy149]; exact H) | exact H
                 have Ny149 := Aside0.mk hy149
                 clear hy149
                 have H' := Aside0.mk H
                 clear H
                 have p23 : 0 ≤ ((ji20) : Int) := of_decide_eq_true (by first | (with_reducible assumption) | assumption)
                 have q23 : (ji20) < (a3.size : Int) := of_decide_eq_true (by first | (with_reducible assumption) | assumption)
                 have hx23 := bt_at a3 (ji20)
                 replace p23 := eq_true p23
                 replace q23 := eq_true q23
                 try go_wp2
                 have n0_ := Aside0.mk (Kd.R_drew HO_13.out)
                 have n1_ := Aside0.mk (below_drew1 HB.out)
                 clear HO_13
                 clear HB
                 have HO_13 := n0_
                 have HB := n1_
                 clear n0_ n1_
                 have p50 : 0 ≤ (x31_1 : Int) := of_decide_eq_true (by first | (with_reducible assumption) | assumption)
                 have q50 : x31_1 < (a3.size : Int) := of_decide_eq_true (by first | (with_reducible assumption) | assumption)
                 have hx50 := bt_at a3 x31_1
                 replace p50 := eq_true p50
                 replace q50 := eq_true q50
                 refine start_ (n := 17) (S := fun w' => True) (ds := [16]) (bm 17 0) (by kernel_rfl) rfl rfl trivial (fun hHeld => ?_); refine with_tabW filter_through.tab17 filter_through.bits17 (fun HT_ HW_ => ?_)
                 generalize wc.drew = w54 at HO_13 HB hHeld ⊢
                 refine zp 0 66 (bm 17 1) ?_
                 refine zp 1 67 (bm 17 3) ?_
                 refine zp 2 68 (bm 17 7) ?_
                 refine zp 3 69 (bm 17 15) ?_
                 refine zp 6 72 (bm 17 79) ?_
                 refine zp 7 73 (bm 17 207) ?_
                 refine zp 8 74 (bm 17 463) ?_
                 refine zp 9 75 (bm 17 975) ?_
                 refine zp 10 76 (bm 17 1999) ?_
                 refine zt 4 70 (bm 17 2015) rfl (by intro w' _; go_simp; with_reducible rfl) ?_
                 refine zp 5 71 (bm 17 2047) ?_
                 refine one_ (i := 11) (N := some 77) (bm 17 4095) rfl rfl (one_of HT_.out (by kernel_rfl)) (by decide) (fun K hK => ?_)
                 refine goes_ Try.func62 (by kernel_rfl) rfl #[.int .i64 a1, .int .i64 (wrap64 (bt a3 (ji20))), .int .i64 x16_13, .int .i64 0] (by rfl) rfl rfl (by (try simp only [List.map_toArray, List.map_cons, List.map_nil]); first | done | (simp only [hji20]; rfl) | rfl | (simp only [List.length_drop, List.length_take]; rfl) | (simp only [ByteArray.size_extract, Nat.min_self]; done) | (simp only [ByteArray.size_extract, Nat.min_self]; rfl)) ?_
                 with_reducible refine (filter_foretold.calls kj13 a1 (wrap64 (bt a3 (ji20))) x16_13 0 t148 _ A51.out).mono ?_
                 rintro e w55 ⟨rfl, hb⟩
                 refine ⟨_, rfl, ?_⟩
                 have n0_ := Aside0.mk (Kd.R_below (oz HO_13) hb)
                 have n1_ := Aside0.mk (below_step (hz HB) hb)
                 clear HO_13
                 clear HB
                 have HO_13 := n0_
                 have HB := n1_
                 clear n0_ n1_
                 (try clear hb)
                 (try clear hk)
                 have p53 : 0 ≤ (x31_1 : Int) := of_decide_eq_true (by first | (with_reducible assumption) | assumption)
                 have q53 : (x31_1 : Int) < ((x13_1.length : Int) : Int) := of_decide_eq_true (by first | (with_reducible assumption) | assumption)
                 obtain ⟨go53, co53, eo53, gb53, gl53, cl53, HG53⟩ := Kd.R_form HO_13.out (by omega)
                 (first | cases eo53 | (injection eo53 with ea_ en_ ec_; (first | subst ea_ | (injection ea_ with ea_; subst ea_)); subst ec_; clear en_))
                 have GB53 := Aside0.mk gb53
                 have GG53 := Aside0.mk HG53
                 clear gb53 gl53 HG53
                 obtain ⟨hx53_0, hf53_0⟩ := Kd.R_celln 0 HO_13.out (x31_1 : Int) p53 q53
                 replace p53 := eq_true p53
                 replace q53 := eq_true q53
                 have HP56 := Kd.R_putn HO_13.out (x31_1 : Int) ((wrap64 ((wrap64 (bt a3 x31_1)) + (wrap64 (a2 * t148)))) % 256)
                 rw [← Ny149.out] at HP56
                 have HQ56 := Aside0.mk HP56
                 clear HP56
                 refine hK.out _ _ trivial (fun hHeld => ?_)
                 clear hK K
                 refine norm_ (a' := ?_) ?_ ?_
                 rotate_left
                 ·show Act.put _ (some 77) _ = _
                  simp only [Act.put, zq1, zq2, zq3, i64_w, i32_w]
                  rfl
                 refine zp 12 78 (bm 17 8191) ?_
                 refine zp 13 79 (bm 17 16383) ?_
                 refine zp 14 80 (bm 17 32767) ?_
                 refine zp 15 81 (bm 17 65535) ?_
                 refine last_ (i := 16) (N := none) (bm 17 131071) rfl rfl (one_of HT_.out (by kernel_rfl)) (by decide) (fun K hK => ?_)
                 refine skip_ (w1 := ?_) (by rfl) rfl ?_ ?_
                 rotate_left
                 ·go_simp
                  rfl
                 refine hK.out _ _ ?_
                 clear hK K
                 refine done_ (done_of HT_.out (by kernel_rfl)) ?_
                 try go_wp2
                 (try simp only [← hl13_1])
                 go_roundg kj13
                 case measure => have := HK1.out; have := HJ13.out; omega
                 case rel => exact ⟨(y149), (wrap64 (x31_1 + 1)), (by first | rfl | (simp; done) | (simp [*]; done)), H', ⟨by have := HK1.out; have := HJ13.out; omega⟩, ⟨by (try simp only [hl13_1]); (with_reducible repeat (first | apply Kd.R_alloc | apply Kd.R_drewN | apply Kd.R_drew)); exact HQ56.out⟩, ⟨by repeat (first | (with_reducible first | exact HB.out | apply below_alloc | apply pw_below_drewN | apply below_drew1 | refine below_set ?_ GB53.out) | exact HB.out)⟩⟩
                ·rw [if_neg c52] at H
                 exact absurd H (by simp)
               ·rw [if_neg c49] at H
                exact absurd H (by simp)
              ·rw [if_neg c48] at H
               exact absurd H (by simp)
             ·rw [if_neg c47] at H
              have c47b0 : (a4.toList == ([] : List UInt8)) = false := beq_eq_false_iff_ne.mpr c47
              have c47b1 : (a4.toList != ([] : List UInt8)) = true := bne_iff_ne.mpr c47
              by_cases c57 : (ji20) < (a4.size : Int)
              ·rw [if_pos c57] at H
               have c57b0 : decide ((ji20) < (a4.size : Int)) = true := decide_eq_true c57
               clear c57
               by_cases c59 : 0 ≤ x31_1
               ·rw [if_pos c59] at H
                have c59b0 : decide (0 ≤ x31_1) = true := decide_eq_true c59
                clear c59
                by_cases c60 : x31_1 < (a3.size : Int)
                ·rw [if_pos c60] at H
                 have c60b0 : decide (x31_1 < (a3.size : Int)) = true := decide_eq_true c60
                 clear c60
                 replace H := Option.bind_eq_some_iff.mp H
                 obtain ⟨t150, A620, H⟩ := H
                 replace H : (if x31_1 < (x13_1.length : Int) then (filter_through.l0 kj13 a0 a1 a2 a3 a4 (x13_1.set (x31_1 : Int).toNat ((wrap64 ((wrap64 (bt a3 x31_1)) + (wrap64 (a2 * t150)))) % 256)) (y140.length : Int) (wrap64 (x31_1 + 1))) else (none)) = some (r1, r2) := H
                 have A62 := Aside0.mk A620
                 clear A620
                 by_cases c63 : x31_1 < (x13_1.length : Int)
                 ·rw [if_pos c63] at H
                  have c63b0 : decide (x31_1 < (x13_1.length : Int)) = true := decide_eq_true c63
                  (try simp only [hl13_1] at c63b0)
                  clear c63
                  obtain ⟨y151, hy151⟩ : ∃ y_ : List Int, y_ = (x13_1.set (x31_1 : Int).toNat ((wrap64 ((wrap64 (bt a3 x31_1)) + (wrap64 (a2 * t150)))) % 256)) := ⟨_, rfl⟩
                  replace H : (filter_through.l0 kj13 a0 a1 a2 a3 a4 y151 (y140.length : Int) (wrap64 (x31_1 + 1))) = some (r1, r2) := by first | (rw [hy151]; with_reducible exact H) | (have H2_ := (Option.bind_some _ _).symm.trans H; rw [hy151]; with_reducible exact H2_) | (have H2_ := (Option.bind_some _ _).symm.trans H; with_reducible exact H2_) | with_reducible exact H | (rw [hy151]; exact H) | exact H
                  have Ny151 := Aside0.mk hy151
                  clear hy151
                  have H' := Aside0.mk H
                  clear H
                  have p23 : 0 ≤ ((ji20) : Int) := of_decide_eq_true (by first | (with_reducible assumption) | assumption)
                  have q23 : (ji20) < (a3.size : Int) := of_decide_eq_true (by first | (with_reducible assumption) | assumption)
                  have hx23 := bt_at a3 (ji20)
                  replace p23 := eq_true p23
                  replace q23 := eq_true q23
                  have p58 : 0 ≤ ((ji20) : Int) := of_decide_eq_true (by first | (with_reducible assumption) | assumption)
                  have q58 : (ji20) < (a4.size : Int) := of_decide_eq_true (by first | (with_reducible assumption) | assumption)
                  have hx58 := bt_at a4 (ji20)
                  replace p58 := eq_true p58
                  replace q58 := eq_true q58
                  try go_wp2
                  have n0_ := Aside0.mk (Kd.R_drew HO_13.out)
                  have n1_ := Aside0.mk (below_drew1 HB.out)
                  clear HO_13
                  clear HB
                  have HO_13 := n0_
                  have HB := n1_
                  clear n0_ n1_
                  have p61 : 0 ≤ (x31_1 : Int) := of_decide_eq_true (by first | (with_reducible assumption) | assumption)
                  have q61 : x31_1 < (a3.size : Int) := of_decide_eq_true (by first | (with_reducible assumption) | assumption)
                  have hx61 := bt_at a3 x31_1
                  replace p61 := eq_true p61
                  replace q61 := eq_true q61
                  refine start_ (n := 17) (S := fun w' => True) (ds := [16]) (bm 17 0) (by kernel_rfl) rfl rfl trivial (fun hHeld => ?_); refine with_tabW filter_through.tab17 filter_through.bits17 (fun HT_ HW_ => ?_)
                  generalize wc.drew = w65 at HO_13 HB hHeld ⊢
                  refine zp 0 66 (bm 17 1) ?_
                  refine zp 1 67 (bm 17 3) ?_
                  refine zp 2 68 (bm 17 7) ?_
                  refine zp 3 69 (bm 17 15) ?_
                  refine zp 6 72 (bm 17 79) ?_
                  refine zp 7 73 (bm 17 207) ?_
                  refine zp 8 74 (bm 17 463) ?_
                  refine zp 9 75 (bm 17 975) ?_
                  refine zp 10 76 (bm 17 1999) ?_
                  refine zt 4 70 (bm 17 2015) rfl (by intro w' _; go_simp; with_reducible rfl) ?_
                  refine zp 5 71 (bm 17 2047) ?_
                  refine one_ (i := 11) (N := some 77) (bm 17 4095) rfl rfl (one_of HT_.out (by kernel_rfl)) (by decide) (fun K hK => ?_)
                  refine goes_ Try.func62 (by kernel_rfl) rfl #[.int .i64 a1, .int .i64 (wrap64 (bt a3 (ji20))), .int .i64 x16_13, .int .i64 (wrap64 (bt a4 (ji20)))] (by rfl) rfl rfl (by (try simp only [List.map_toArray, List.map_cons, List.map_nil]); first | done | (simp only [hji20]; rfl) | rfl | (simp only [List.length_drop, List.length_take]; rfl) | (simp only [ByteArray.size_extract, Nat.min_self]; done) | (simp only [ByteArray.size_extract, Nat.min_self]; rfl)) ?_
                  with_reducible refine (filter_foretold.calls kj13 a1 (wrap64 (bt a3 (ji20))) x16_13 (wrap64 (bt a4 (ji20))) t150 _ A62.out).mono ?_
                  rintro e w66 ⟨rfl, hb⟩
                  refine ⟨_, rfl, ?_⟩
                  have n0_ := Aside0.mk (Kd.R_below (oz HO_13) hb)
                  have n1_ := Aside0.mk (below_step (hz HB) hb)
                  clear HO_13
                  clear HB
                  have HO_13 := n0_
                  have HB := n1_
                  clear n0_ n1_
                  (try clear hb)
                  (try clear hk)
                  have p64 : 0 ≤ (x31_1 : Int) := of_decide_eq_true (by first | (with_reducible assumption) | assumption)
                  have q64 : (x31_1 : Int) < ((x13_1.length : Int) : Int) := of_decide_eq_true (by first | (with_reducible assumption) | assumption)
                  obtain ⟨go64, co64, eo64, gb64, gl64, cl64, HG64⟩ := Kd.R_form HO_13.out (by omega)
                  (first | cases eo64 | (injection eo64 with ea_ en_ ec_; (first | subst ea_ | (injection ea_ with ea_; subst ea_)); subst ec_; clear en_))
                  have GB64 := Aside0.mk gb64
                  have GG64 := Aside0.mk HG64
                  clear gb64 gl64 HG64
                  obtain ⟨hx64_0, hf64_0⟩ := Kd.R_celln 0 HO_13.out (x31_1 : Int) p64 q64
                  replace p64 := eq_true p64
                  replace q64 := eq_true q64
                  have HP67 := Kd.R_putn HO_13.out (x31_1 : Int) ((wrap64 ((wrap64 (bt a3 x31_1)) + (wrap64 (a2 * t150)))) % 256)
                  rw [← Ny151.out] at HP67
                  have HQ67 := Aside0.mk HP67
                  clear HP67
                  refine hK.out _ _ trivial (fun hHeld => ?_)
                  clear hK K
                  refine norm_ (a' := ?_) ?_ ?_
                  rotate_left
                  ·show Act.put _ (some 77) _ = _
                   simp only [Act.put, zq1, zq2, zq3, i64_w, i32_w]
                   rfl
                  refine zp 12 78 (bm 17 8191) ?_
                  refine zp 13 79 (bm 17 16383) ?_
                  refine zp 14 80 (bm 17 32767) ?_
                  refine zp 15 81 (bm 17 65535) ?_
                  refine last_ (i := 16) (N := none) (bm 17 131071) rfl rfl (one_of HT_.out (by kernel_rfl)) (by decide) (fun K hK => ?_)
                  refine skip_ (w1 := ?_) (by rfl) rfl ?_ ?_
                  rotate_left
                  ·go_simp
                   rfl
                  refine hK.out _ _ ?_
                  clear hK K
                  refine done_ (done_of HT_.out (by kernel_rfl)) ?_
                  try go_wp2
                  (try simp only [← hl13_1])
                  go_roundg kj13
                  case measure => have := HK1.out; have := HJ13.out; omega
                  case rel => exact ⟨(y151), (wrap64 (x31_1 + 1)), (by first | rfl | (simp; done) | (simp [*]; done)), H', ⟨by have := HK1.out; have := HJ13.out; omega⟩, ⟨by (try simp only [hl13_1]); (with_reducible repeat (first | apply Kd.R_alloc | apply Kd.R_drewN | apply Kd.R_drew)); exact HQ67.out⟩, ⟨by repeat (first | (with_reducible first | exact HB.out | apply below_alloc | apply pw_below_drewN | apply below_drew1 | refine below_set ?_ GB64.out) | exact HB.out)⟩⟩
                 ·rw [if_neg c63] at H
                  exact absurd H (by simp)
                ·rw [if_neg c60] at H
                 exact absurd H (by simp)
               ·rw [if_neg c59] at H
                exact absurd H (by simp)
              ·rw [if_neg c57] at H
               exact absurd H (by simp)
           ·rw [if_neg c22] at H
            exact absurd H (by simp)
          ·rw [if_neg c21] at H
           exact absurd H (by simp)
         ·rw [if_neg c19] at H
          have c19b0 : decide (a0 ≤ x31_1) = false := decide_eq_false c19
          clear c19
          by_cases c68 : 0 ≤ x31_1
          ·rw [if_pos c68] at H
           have c68b0 : decide (0 ≤ x31_1) = true := decide_eq_true c68
           clear c68
           by_cases c69 : x31_1 < (a3.size : Int)
           ·rw [if_pos c69] at H
            have c69b0 : decide (x31_1 < (a3.size : Int)) = true := decide_eq_true c69
            clear c69
            replace H := Option.bind_eq_some_iff.mp H
            obtain ⟨t152, A710, H⟩ := H
            replace H : (if x31_1 < (x13_1.length : Int) then (filter_through.l0 kj13 a0 a1 a2 a3 a4 (x13_1.set (x31_1 : Int).toNat ((wrap64 ((wrap64 (bt a3 x31_1)) + (wrap64 (a2 * t152)))) % 256)) (y140.length : Int) (wrap64 (x31_1 + 1))) else (none)) = some (r1, r2) := H
            have A71 := Aside0.mk A710
            clear A710
            by_cases c72 : x31_1 < (x13_1.length : Int)
            ·rw [if_pos c72] at H
             have c72b0 : decide (x31_1 < (x13_1.length : Int)) = true := decide_eq_true c72
             (try simp only [hl13_1] at c72b0)
             clear c72
             obtain ⟨y153, hy153⟩ : ∃ y_ : List Int, y_ = (x13_1.set (x31_1 : Int).toNat ((wrap64 ((wrap64 (bt a3 x31_1)) + (wrap64 (a2 * t152)))) % 256)) := ⟨_, rfl⟩
             replace H : (filter_through.l0 kj13 a0 a1 a2 a3 a4 y153 (y140.length : Int) (wrap64 (x31_1 + 1))) = some (r1, r2) := by first | (rw [hy153]; with_reducible exact H) | (have H2_ := (Option.bind_some _ _).symm.trans H; rw [hy153]; with_reducible exact H2_) | (have H2_ := (Option.bind_some _ _).symm.trans H; with_reducible exact H2_) | with_reducible exact H | (rw [hy153]; exact H) | exact H
             have Ny153 := Aside0.mk hy153
             clear hy153
             have H' := Aside0.mk H
             clear H
             try go_wp2
             have n0_ := Aside0.mk (Kd.R_drew HO_13.out)
             have n1_ := Aside0.mk (below_drew1 HB.out)
             clear HO_13
             clear HB
             have HO_13 := n0_
             have HB := n1_
             clear n0_ n1_
             have p70 : 0 ≤ (x31_1 : Int) := of_decide_eq_true (by first | (with_reducible assumption) | assumption)
             have q70 : x31_1 < (a3.size : Int) := of_decide_eq_true (by first | (with_reducible assumption) | assumption)
             have hx70 := bt_at a3 x31_1
             replace p70 := eq_true p70
             replace q70 := eq_true q70
             refine start_ (n := 17) (S := fun w' => True) (ds := [16]) (bm 17 0) (by kernel_rfl) rfl rfl trivial (fun hHeld => ?_); refine with_tabW filter_through.tab17 filter_through.bits17 (fun HT_ HW_ => ?_)
             generalize wc.drew = w74 at HO_13 HB hHeld ⊢
             refine zp 0 66 (bm 17 1) ?_
             refine zp 1 67 (bm 17 3) ?_
             refine zp 2 68 (bm 17 7) ?_
             refine zp 3 69 (bm 17 15) ?_
             refine zp 6 72 (bm 17 79) ?_
             refine zp 7 73 (bm 17 207) ?_
             refine zp 8 74 (bm 17 463) ?_
             refine zp 9 75 (bm 17 975) ?_
             refine zp 10 76 (bm 17 1999) ?_
             refine zt 4 70 (bm 17 2015) rfl (by intro w' _; go_simp; with_reducible rfl) ?_
             refine zp 5 71 (bm 17 2047) ?_
             refine one_ (i := 11) (N := some 77) (bm 17 4095) rfl rfl (one_of HT_.out (by kernel_rfl)) (by decide) (fun K hK => ?_)
             refine goes_ Try.func62 (by kernel_rfl) rfl #[.int .i64 a1, .int .i64 0, .int .i64 x16_13, .int .i64 0] (by rfl) rfl rfl (by (try simp only [List.map_toArray, List.map_cons, List.map_nil]); first | done | rfl | (simp only [List.length_drop, List.length_take]; rfl) | (simp only [ByteArray.size_extract, Nat.min_self]; done) | (simp only [ByteArray.size_extract, Nat.min_self]; rfl)) ?_
             with_reducible refine (filter_foretold.calls kj13 a1 0 x16_13 0 t152 _ A71.out).mono ?_
             rintro e w75 ⟨rfl, hb⟩
             refine ⟨_, rfl, ?_⟩
             have n0_ := Aside0.mk (Kd.R_below (oz HO_13) hb)
             have n1_ := Aside0.mk (below_step (hz HB) hb)
             clear HO_13
             clear HB
             have HO_13 := n0_
             have HB := n1_
             clear n0_ n1_
             (try clear hb)
             (try clear hk)
             have p73 : 0 ≤ (x31_1 : Int) := of_decide_eq_true (by first | (with_reducible assumption) | assumption)
             have q73 : (x31_1 : Int) < ((x13_1.length : Int) : Int) := of_decide_eq_true (by first | (with_reducible assumption) | assumption)
             obtain ⟨go73, co73, eo73, gb73, gl73, cl73, HG73⟩ := Kd.R_form HO_13.out (by omega)
             (first | cases eo73 | (injection eo73 with ea_ en_ ec_; (first | subst ea_ | (injection ea_ with ea_; subst ea_)); subst ec_; clear en_))
             have GB73 := Aside0.mk gb73
             have GG73 := Aside0.mk HG73
             clear gb73 gl73 HG73
             obtain ⟨hx73_0, hf73_0⟩ := Kd.R_celln 0 HO_13.out (x31_1 : Int) p73 q73
             replace p73 := eq_true p73
             replace q73 := eq_true q73
             have HP76 := Kd.R_putn HO_13.out (x31_1 : Int) ((wrap64 ((wrap64 (bt a3 x31_1)) + (wrap64 (a2 * t152)))) % 256)
             rw [← Ny153.out] at HP76
             have HQ76 := Aside0.mk HP76
             clear HP76
             refine hK.out _ _ trivial (fun hHeld => ?_)
             clear hK K
             refine norm_ (a' := ?_) ?_ ?_
             rotate_left
             ·show Act.put _ (some 77) _ = _
              simp only [Act.put, zq1, zq2, zq3, i64_w, i32_w]
              rfl
             refine zp 12 78 (bm 17 8191) ?_
             refine zp 13 79 (bm 17 16383) ?_
             refine zp 14 80 (bm 17 32767) ?_
             refine zp 15 81 (bm 17 65535) ?_
             refine last_ (i := 16) (N := none) (bm 17 131071) rfl rfl (one_of HT_.out (by kernel_rfl)) (by decide) (fun K hK => ?_)
             refine skip_ (w1 := ?_) (by rfl) rfl ?_ ?_
             rotate_left
             ·go_simp
              rfl
             refine hK.out _ _ ?_
             clear hK K
             refine done_ (done_of HT_.out (by kernel_rfl)) ?_
             try go_wp2
             (try simp only [← hl13_1])
             go_roundg kj13
             case measure => have := HK1.out; have := HJ13.out; omega
             case rel => exact ⟨(y153), (wrap64 (x31_1 + 1)), (by first | rfl | (simp; done) | (simp [*]; done)), H', ⟨by have := HK1.out; have := HJ13.out; omega⟩, ⟨by (try simp only [hl13_1]); (with_reducible repeat (first | apply Kd.R_alloc | apply Kd.R_drewN | apply Kd.R_drew)); exact HQ76.out⟩, ⟨by repeat (first | (with_reducible first | exact HB.out | apply below_alloc | apply pw_below_drewN | apply below_drew1 | refine below_set ?_ GB73.out) | exact HB.out)⟩⟩
            ·rw [if_neg c72] at H
             exact absurd H (by simp)
           ·rw [if_neg c69] at H
            exact absurd H (by simp)
          ·rw [if_neg c68] at H
           exact absurd H (by simp)
      ·rw [if_neg c13] at H
       have c13b0 : decide (x31_1 < (y140.length : Int)) = false := decide_eq_false c13
       (try simp only [hl13_1] at c13b0)
       clear c13
       simp only [Option.some.injEq, Prod.mk.injEq] at H
       obtain ⟨rfl, rfl⟩ := H
       have hcv77 := own_string (P := Try.prog) Try.underlying45 Try.underlying5 Try.underlying9 (Kd.own_of_R HO_13.out)
       go_wp2
       go_ret2
       exact ⟨by first | rfl | (simp [errW_none, errW_some] <;> rfl) | (simp [*, errW_none, errW_some] <;> rfl), by repeat (first | (with_reducible first | exact HB.out | apply below_alloc | apply pw_below_drewN | apply below_drew1) | exact HB.out)⟩
   ·rw [if_neg c9] at H
    exact absurd H (by simp)
  ·rw [if_neg c8] at H
   exact absurd H (by simp)
 ·rw [if_neg c7] at H
  have c7b0 : (t139 == 0) = false := beq_eq_false_iff_ne.mpr c7
  have c7b1 : (t139 != 0) = true := bne_iff_ne.mpr c7
  simp only [Option.some.injEq, Prod.mk.injEq] at H
  obtain ⟨rfl, rfl⟩ := H
  go_enter Try.func52, Try.ntmps52
  go_wp2_with (first | ((with_reducible refine gate_callee (f := 61) rfl ?_); refine gz 22 Try.func61 #[.int .i64 a0, .int .i64 a1, .string a3, .string a4] ?_; (with_reducible refine (filter_wrong.calls k a0 a1 a3 a4 t139 _ A6.out).mono ?_); rintro e w' ⟨rfl, ⟨nd, rfl⟩⟩; refine ⟨_, rfl, ?_⟩))
  go_ret2
  exact ⟨by first | rfl | (simp [errW_none, errW_some] <;> rfl) | (simp [*, errW_none, errW_some] <;> rfl), by repeat (first | (with_reducible first | exact HB.out | apply below_alloc | apply pw_below_drewN | apply below_drew1) | exact HB.out)⟩

end Go.Proofs.Ytejljcglbkjgkaa.PL12

namespace Go.Proofs.Ytejljcglbkjgkaa.PL12
open Go.RowKit Go.Proofs.YtejljcglbkjgkaaW.PrintWords Go.Proofs.YtejljcglbkjgkaaW.PrintLast Go.Proofs.YtejljcglbkjgkaaW.PrintMore
attribute [local go_sem] max2_int min2_int max_two min_two max_three min_three max_four min_four   -- for this text's walks alone
set_option linter.unusedVariables false
set_option linter.unusedSimpArgs false

def filter_Undo.f (k : Nat) (a0 : Int) (a1 : Int) (a2 : ByteArray) (a3 : ByteArray) : Option (ByteArray × Int) := (filter_through.f k a0 a1 1 a2 a3).bind fun bt154 => (some (bt154.1, bt154.2))
theorem filter_Undo.mono : ∀ a0 a1 a2 a3 k, LeO (filter_Undo.f k a0 a1 a2 a3) (filter_Undo.f (k + 1) a0 a1 a2 a3) := by
 intro a0 a1 a2 a3 k
 unfold filter_Undo.f
 repeat' first
   | (with_reducible exact filter_through.mono _ _ _ _ _ _)
   | (with_reducible exact LeO.refl _)
   | (with_reducible exact LeO.none _)
   | (with_reducible refine LeO.ite ?_ ?_)
   | (with_reducible refine LeO.bind ?_ (fun _ => ?_))
   | exact filter_through.mono _ _ _ _ _ _
   | exact LeO.none _
   | refine LeO.ite ?_ ?_
   | refine LeO.bind ?_ (fun _ => ?_)
set_option maxHeartbeats 40000000 in
set_option maxRecDepth 100000 in
theorem filter_Undo.calls (k : Nat) (a0 : Int) (a1 : Int) (a2 : ByteArray) (a3 : ByteArray) (r1 : ByteArray) (r2 : Int) (w : World) (h : filter_Undo.f k a0 a1 a2 a3 = some (r1, r2)) :
  Calls Try.prog 41 #[.int .i64 a0, .int .i64 a1, .string a2, .string a3] w fun e w' => e = .returned (.tuple #[.string r1, .int .i64 r2]) ∧ Below w.heap.size w w' := by
 have HB := Aside0.mk (Below.refl w.heap.size w)
 have H : ((filter_through.f k a0 a1 1 a2 a3).bind fun bt154 => (some (bt154.1, bt154.2))) = some (r1, r2) := h
 clear h
 replace H := Option.bind_eq_some_iff.mp H
 obtain ⟨⟨t154, t155⟩, A50, H⟩ := H
 replace H : (some (t154, t155)) = some (r1, r2) := H
 have A5 := Aside0.mk A50
 clear A50
 simp only [Option.some.injEq, Prod.mk.injEq] at H
 obtain ⟨rfl, rfl⟩ := H
 go_enter Try.func41, Try.ntmps41
 go_wp2_with (first | ((with_reducible refine gate_callee (f := 52) rfl ?_); refine gz 14 Try.func52 #[.int .i64 a0, .int .i64 a1, .int .i64 1, .string a2, .string a3] ?_; (with_reducible refine (filter_through.calls k a0 a1 1 a2 a3 t154 t155 _ A5.out).mono ?_); rintro e w6 ⟨rfl, hb⟩; refine ⟨_, rfl, ?_⟩; have n0_ := Aside0.mk (below_step (hz HB) hb); clear HB; have HB := n0_; clear n0_; (try clear hb); (try clear hb2); (try clear hk); (try clear hi)))
 go_ret2
 exact ⟨by first | rfl | (simp [errW_none, errW_some] <;> rfl) | (simp [*, errW_none, errW_some] <;> rfl), by repeat (first | (with_reducible first | exact HB.out | apply below_alloc | apply pw_below_drewN | apply below_drew1) | exact HB.out)⟩

def pixel_bpp.f (k : Nat) (a0_0 : Int) (a0_1 : Int) (a0_2 : Int) (a0_3 : Int) (a0_4 : Int) : Option (Int) := (head_Samples.f k a0_3).bind fun t157 => (some (mx 1 ((wrap64 (a0_2 * t157)) / 8)))
theorem pixel_bpp.mono : ∀ a0 a1 a2 a3 a4 k, LeO (pixel_bpp.f k a0 a1 a2 a3 a4) (pixel_bpp.f (k + 1) a0 a1 a2 a3 a4) := by
 intro a0 a1 a2 a3 a4 k
 unfold pixel_bpp.f
 repeat' first
   | (with_reducible exact head_Samples.mono _ _)
   | (with_reducible exact LeO.refl _)
   | (with_reducible exact LeO.none _)
   | (with_reducible refine LeO.ite ?_ ?_)
   | (with_reducible refine LeO.bind ?_ (fun _ => ?_))
   | exact head_Samples.mono _ _
   | exact LeO.none _
   | refine LeO.ite ?_ ?_
   | refine LeO.bind ?_ (fun _ => ?_)
def pixel_bpp.T1 : Bool × List (List Nat × List Nat) := (true, [([], []), ([0], [0]), ([], []), ([2], [2]), ([3], [3]), ([1, 4], [1, 4]), ([5], [5]), ([6], [6]), ([7, 4, 0, 1, 2, 3, 4, 5, 6, 7], [7])])
def pixel_bpp.B1 : List Nat := [0, 1, 0, 4, 12, 31, 63, 127, 255]
theorem pixel_bpp.tab1 : rtab .any (opsOf Try.f42 1) = pixel_bpp.T1 := by kernel_rfl
theorem pixel_bpp.bits1 : waitsOk pixel_bpp.T1.2 pixel_bpp.B1 = true := by kernel_rfl
set_option maxHeartbeats 40000000 in
set_option maxRecDepth 100000 in
theorem pixel_bpp.calls (k : Nat) (a0_0 : Int) (a0_1 : Int) (a0_2 : Int) (a0_3 : Int) (a0_4 : Int) (r : Int) (w : World) (h : pixel_bpp.f k a0_0 a0_1 a0_2 a0_3 a0_4 = some r) :
  Calls Try.prog 42 #[.agg #[.int .i64 a0_0, .int .i64 a0_1, .int .i64 a0_2, .int .i64 a0_3, .int .i64 a0_4]] w fun e w' => e = .returned (.int .i64 r) ∧ Below w.heap.size w w' := by
 have hu29 := Try.underlying29
 have HB := Aside0.mk (Below.refl w.heap.size w)
 have H : ((head_Samples.f k a0_3).bind fun t157 => (some (mx 1 ((wrap64 (a0_2 * t157)) / 8)))) = some r := h
 clear h
 replace H := Option.bind_eq_some_iff.mp H
 obtain ⟨t157, A20, H⟩ := H
 replace H : (some (mx 1 ((wrap64 (a0_2 * t157)) / 8))) = some r := H
 have A2 := Aside0.mk A20
 clear A20
 obtain ⟨ji3, hji3⟩ : ∃ j_ : Int, (mx 1 ((wrap64 (a0_2 * t157)) / 8)) = j_ := ⟨_, rfl⟩
 replace H : (some ji3) = some r := by first | (rw [hji3] at H; exact H) | (simp only [hji3] at H ⊢; exact H)
 (try rw [hji3] at A2)
 (try (have hji3l : 1 ≤ ji3 := by (rw [← hji3]; unfold mx; (repeat' split) <;> omega)))
 (try (have hji3m : 0 ≤ ji3 := by omega))
 have hji3_ : (if 1 < ((wrap64 (a0_2 * t157)) / 8) then ((wrap64 (a0_2 * t157)) / 8) else 1) = ji3 := hji3
 obtain rfl := Option.some.inj H
 go_enter Try.func42, Try.ntmps42
 try go_wp2_with (first | ((with_reducible refine gate_dst (N := 1) rfl ?_); refine box_event ?hg (N := 1) ?hd (cs := #[.int .i64 a0_0, .int .i64 a0_1, .int .i64 a0_2, .int .i64 a0_3, .int .i64 a0_4]) (t := 29) ?hr ?_; (case hd => rfl); (case hg => rfl); (case hr => first | (go_simp; done) | (go_simp; rfl)); intro gb156 hg w4 hbox hb; have n0_ := Aside0.mk (below_step (hz HB) hb); have n1_ := Aside0.mk (hbox); have n2_ := Aside0.mk ((by rw [hg]; exact (below_size (hz HB)) : w.heap.size ≤ gb156)); have n3_ := Aside0.mk ((by rw [hg]; exact (below_size (hz HB)) : w.heap.size ≤ gb156)); clear HB; have HB := n0_; have BK156 := n1_; have GW156 := n2_; have GE156 := n3_; clear n0_ n1_ n2_ n3_; clear hb hbox hg))
 have n0_ := Aside0.mk (blk_drew BK156.out)
 have n1_ := Aside0.mk (below_drew1 HB.out)
 clear BK156
 clear HB
 have BK156 := n0_
 have HB := n1_
 clear n0_ n1_
 refine start_ (n := 9) (S := fun w' => w'.cell? ⟨gb156, 0, none⟩ = some (.int .i64 a0_0) ∧ w'.cell? ⟨gb156, 1, none⟩ = some (.int .i64 a0_1) ∧ w'.cell? ⟨gb156, 2, none⟩ = some (.int .i64 a0_2) ∧ w'.cell? ⟨gb156, 3, none⟩ = some (.int .i64 a0_3) ∧ w'.cell? ⟨gb156, 4, none⟩ = some (.int .i64 a0_4)) (ds := []) (bm 9 0) (by kernel_rfl) rfl rfl ⟨(blk_cell BK156.out 0).trans rfl, (blk_cell BK156.out 1).trans rfl, (blk_cell BK156.out 2).trans rfl, (blk_cell BK156.out 3).trans rfl, (blk_cell BK156.out 4).trans rfl⟩ (fun hHeld => ?_); refine with_tabW pixel_bpp.tab1 pixel_bpp.bits1 (fun HT_ HW_ => ?_)
 generalize w4.drew = w5 at BK156 HB hHeld ⊢
 refine zp 0 3 (bm 9 1) ?_
 refine zp 2 5 (bm 9 5) ?_
 refine zt 1 4 (bm 9 7) rfl (by rintro w' ⟨s0, s1, s2, s3, s4⟩; go_simp; with_reducible rfl) ?_
 refine zt 3 6 (bm 9 15) rfl (by rintro w' ⟨s0, s1, s2, s3, s4⟩; go_simp; with_reducible rfl) ?_
 refine one_ (i := 4) (N := some 7) (bm 9 31) rfl rfl (one_of HT_.out (by kernel_rfl)) (by decide) (fun K hK => ?_)
 refine goes_ Try.func54 (by kernel_rfl) rfl #[.int .i64 a0_3] (by rfl) rfl rfl (by (try simp only [List.map_toArray, List.map_cons, List.map_nil]); first | done | rfl | (simp only [List.length_drop, List.length_take]; rfl) | (simp only [ByteArray.size_extract, Nat.min_self]; done) | (simp only [ByteArray.size_extract, Nat.min_self]; rfl)) ?_
 with_reducible refine (head_Samples.calls k a0_3 t157 _ A2.out).mono ?_
 rintro e w6 ⟨rfl, hb⟩
 refine ⟨_, rfl, ?_⟩
 have n0_ := Aside0.mk (blk_below (g := gb156) (o := .cells #[.int .i64 a0_0, .int .i64 a0_1, .int .i64 a0_2, .int .i64 a0_3, .int .i64 a0_4] 29 (0, 0)) (kz BK156) hb)
 have n1_ := Aside0.mk (below_step (hz HB) hb)
 clear BK156
 clear HB
 have BK156 := n0_
 have HB := n1_
 clear n0_ n1_
 (try clear hb)
 refine hK.out _ _ ⟨(blk_cell BK156.out 0).trans rfl, (blk_cell BK156.out 1).trans rfl, (blk_cell BK156.out 2).trans rfl, (blk_cell BK156.out 3).trans rfl, (blk_cell BK156.out 4).trans rfl⟩ (fun hHeld => ?_)
 clear hK K
 refine norm_ (a' := ?_) ?_ ?_
 rotate_left
 ·show Act.put _ (some 7) _ = _
  simp only [Act.put, zq1, zq2, zq3, i64_w, i32_w]
  rfl
 refine zp 5 8 (bm 9 63) ?_
 refine zp 6 9 (bm 9 127) ?_
 refine zp 7 10 (bm 9 255) ?_
 refine zp 8 2 (bm 9 511) ?_
 refine done_ (done_of HT_.out (by kernel_rfl)) ?_
 try go_wp2
 go_ret
 exact ⟨by first | rfl | (simp [errW_none, errW_some] <;> rfl) | (simp only [← hji3]; first | rfl | (simp [errW_none, errW_some] <;> rfl)) | (simp [*, errW_none, errW_some] <;> rfl), by repeat (first | (with_reducible first | exact HB.out | apply below_alloc | apply pw_below_drewN | apply below_drew1 | refine below_set ?_ GE156.out) | exact HB.out)⟩

def samples_known.f (k : Nat) (a0 : Int) : Option (Bool) := (slices_Contains_int_int.f k (([1, 2, 4, 8, 16] : List Int)) a0).bind fun t161 => (some t161)
theorem samples_known.mono : ∀ a0 k, LeO (samples_known.f k a0) (samples_known.f (k + 1) a0) := by
 intro a0 k
 unfold samples_known.f
 repeat' first
   | (with_reducible exact slices_Contains_int_int.mono _ _ _)
   | (with_reducible exact LeO.refl _)
   | (with_reducible exact LeO.none _)
   | (with_reducible refine LeO.ite ?_ ?_)
   | (with_reducible refine LeO.bind ?_ (fun _ => ?_))
   | exact slices_Contains_int_int.mono _ _ _
   | exact LeO.none _
   | refine LeO.ite ?_ ?_
   | refine LeO.bind ?_ (fun _ => ?_)
set_option maxHeartbeats 40000000 in
set_option maxRecDepth 100000 in
theorem samples_known.calls (k : Nat) (a0 : Int) (r : Bool) (w : World) (h : samples_known.f k a0 = some r) :
  Calls Try.prog 63 #[.int .i64 a0] w fun e w' => e = .returned (.bool r) ∧ Below w.heap.size w w' := by
 have HB := Aside0.mk (Below.refl w.heap.size w)
 have H : ((slices_Contains_int_int.f k (([1, 2, 4, 8, 16] : List Int)) a0).bind fun t161 => (some t161)) = some r := h
 clear h
 obtain ⟨y158, hy158⟩ : ∃ y_ : List Int, y_ = (([1, 2, 4, 8, 16] : List Int)) := ⟨_, rfl⟩
 replace H : ((slices_Contains_int_int.f k y158 a0).bind fun t161 => (some t161)) = some r := by first | (rw [hy158]; with_reducible exact H) | (have H2_ := (Option.bind_some _ _).symm.trans H; rw [hy158]; with_reducible exact H2_) | (have H2_ := (Option.bind_some _ _).symm.trans H; with_reducible exact H2_) | with_reducible exact H | (rw [hy158]; exact H) | exact H
 have Ny158 := Aside0.mk hy158
 clear hy158
 replace H := Option.bind_eq_some_iff.mp H
 obtain ⟨t161, A20, H⟩ := H
 replace H : (some t161) = some r := H
 have A2 := Aside0.mk A20
 clear A20
 obtain rfl := Option.some.inj H
 go_enter Try.func63, Try.ntmps63
 go_wp2_with (first | ((with_reducible refine gate_dst (N := 3) rfl ?_); refine Kd.R_lit (Kd.int .i64) _ 3 ?hg (N := 3) ?hd (xs := ([1, 2, 4, 8, 16] : List Int)) (inner := [.int .i64 1, .int .i64 2, .int .i64 4, .int .i64 8, .int .i64 16]) (ok := fun _ => True) (okp := fun _ => True) ?hr ?hp (fun _ hk => hk) trivial (Below.refl _ _) (Nat.le_refl _) (by simp) ?_; (case hd => rfl); (case hg => rfl); (case hr => first | (go_simp; done) | (go_simp; rfl)); (case hp => exact (Reps.one (show Kd.M (Kd.int .i64) _ _ _ 1 [.int .i64 1] from rfl) (Reps.one (show Kd.M (Kd.int .i64) _ _ _ 2 [.int .i64 2] from rfl) (Reps.one (show Kd.M (Kd.int .i64) _ _ _ 4 [.int .i64 4] from rfl) (Reps.one (show Kd.M (Kd.int .i64) _ _ _ 8 [.int .i64 8] from rfl) (Reps.one (show Kd.M (Kd.int .i64) _ _ _ 16 [.int .i64 16] from rfl) (Reps.none _ _))))))); intro v159 w3 ho4 hb hg_ hnew_; clear hg_ hnew_; (first | rw [← Ny158.out] at ho4 | (simp only [Int.reduceToNat] at ho4; rw [← Ny158.out] at ho4)); have n0_ := Aside0.mk (Kd.R_lower ho4 (below_size (hz HB))); have n1_ := Aside0.mk (below_step (hz HB) hb); clear HB; have HO160 := n0_; have HB := n1_; clear n0_ n1_; clear hb ho4; obtain ⟨Ao5, co5, eo5⟩ := Kd.R_slice HO160.out; subst eo5) | ((with_reducible refine gate_callee (f := 37) rfl ?_); refine gz 5 Try.func37 #[.slice Ao5 y158.length co5, .int .i64 a0] ?_; (with_reducible refine (slices_Contains_int_int.calls k _ _ y158 a0 t161 _ ?side1 ?side2 A2.out).mono ?_); (case side1 => repeat (first | exact (Kd.R_reads' HO160.out).2.2 | (with_reducible refine Kd.C_alloc ?_ _) | (with_reducible refine Kd.C_drewN ?_ _) | (with_reducible refine Kd.C_drew ?_))); (case side2 => exact (Kd.R_reads' HO160.out).2.1); rintro e w' ⟨rfl, ⟨nd, rfl⟩⟩; refine ⟨_, rfl, ?_⟩))
 go_ret
 exact ⟨by first | rfl | (simp [errW_none, errW_some] <;> rfl) | (simp [*, errW_none, errW_some] <;> rfl), by repeat (first | (with_reducible first | exact HB.out | apply below_alloc | apply pw_below_drewN | apply below_drew1) | exact HB.out)⟩

end Go.Proofs.Ytejljcglbkjgkaa.PL12
