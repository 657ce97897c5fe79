/- Printed for this claim by a program of this session over the kit's print program: the Go functions as Lean functions, and proofs that the calls come to these answers. No conditions. -/
import Derived.Test.YtejljcglbkjgkaaSH
import Derived.Test.YtejljcglbkjgkaaSPL12x3
import Derived.Test.YtejljcglbkjgkaaSPL12x10
namespace Go.Proofs.Ytejljcglbkjgkaa.PL12
open Go.RowKit Go.Proofs.YtejljcglbkjgkaaW.PrintWords Go.Proofs.YtejljcglbkjgkaaW.PrintLast Go.Proofs.YtejljcglbkjgkaaW.PrintMore
attribute [local go_sem] max2_int min2_int max_two min_two max_three min_three max_four min_four   -- for this text's walks alone
set_option linter.unusedVariables false
set_option linter.unusedSimpArgs false

mutual
def samples_Unpack.j0 : Nat → ByteArray → Int → Int → Bool → Option (List Int × Int)
 | 0, _, _, _, _ => none
 | k + 1, x0, x1, x2, x11 => if x11 = true then (some (([] : List Int), 1)) else (if (wrap64 ((x0.size : Int) * 8)) < (wrap64 (x2 * x1)) then (some (([] : List Int), 30)) else (if 0 ≤ x2 then (if (x2 : Int).toNat ≤ 35184372088832 then ((some (List.replicate (x2 : Int).toNat 0 : List Int)).bind fun y163 => (samples_Unpack.l0 k x0 x1 y163 (y163.length : Int) 0)) else (none)) else (none)))
def samples_Unpack.l0 : Nat → ByteArray → Int → List Int → Int → Int → Option (List Int × Int)
 | 0, _, _, _, _, _ => none
 | k + 1, x0, x1, x8, x34, x35 => if x35 < x34 then (if x1 = 16 then (if 0 ≤ (wrap64 (2 * x35)) then (if (wrap64 (2 * x35)) < (x0.size : Int) then (if 0 ≤ (wrap64 ((wrap64 (2 * x35)) + 1)) then (if (wrap64 ((wrap64 (2 * x35)) + 1)) < (x0.size : Int) then (if 0 ≤ x35 then (if x35 < (x8.length : Int) then (samples_Unpack.l0 k x0 x1 (x8.set (x35 : Int).toNat (Go.bits .or .i64 (wrap64 ((wrap64 (bt x0 (wrap64 (2 * x35)))) * 256)) (wrap64 (bt x0 (wrap64 ((wrap64 (2 * x35)) + 1)))))) x34 (wrap64 (x35 + 1))) else (none)) else (none)) else (none)) else (none)) else (none)) else (none)) else (if 0 ≤ (wrap64 (Int.tdiv (wrap64 (x35 * x1)) 8)) then (if (wrap64 (Int.tdiv (wrap64 (x35 * x1)) 8)) < (x0.size : Int) then (if 0 ≤ (wrap64 ((wrap64 (8 - x1)) - (Int.tmod (wrap64 (x35 * x1)) 8))) then (if 0 ≤ x1 then (if 0 ≤ x35 then (if x35 < (x8.length : Int) then (samples_Unpack.l0 k x0 x1 (x8.set (x35 : Int).toNat (Go.bits .and .i64 (shr .i64 (wrap64 (bt x0 (wrap64 (Int.tdiv (wrap64 (x35 * x1)) 8)))) (wrap64 ((wrap64 (8 - x1)) - (Int.tmod (wrap64 (x35 * x1)) 8)))) (wrap64 ((shl .i64 1 x1) - 1)))) x34 (wrap64 (x35 + 1))) else (none)) else (none)) else (none)) else (none)) else (none)) else (none))) else (some (x8, 0))
end
def samples_Unpack.f (k : Nat) (a0 : ByteArray) (a1 : Int) (a2 : Int) : Option (List Int × Int) := (samples_known.f k a1).bind fun t162 => (if t162 = true then (if a2 < 0 then (samples_Unpack.j0 k a0 a1 a2 true) else (samples_Unpack.j0 k a0 a1 a2 (decide (a2 > 4096)))) else (samples_Unpack.j0 k a0 a1 a2 true))
theorem samples_Unpack.mono_l : ∀ k, (∀ y0 y1 y2 y3, LeO (samples_Unpack.j0 k y0 y1 y2 y3) (samples_Unpack.j0 (k + 1) y0 y1 y2 y3)) ∧ (∀ y0 y1 y2 y3 y4, LeO (samples_Unpack.l0 k y0 y1 y2 y3 y4) (samples_Unpack.l0 (k + 1) y0 y1 y2 y3 y4))
 | 0 => ⟨fun _ _ _ _ r h => by simp [samples_Unpack.j0] at h, fun _ _ _ _ _ r h => by simp [samples_Unpack.l0] at h⟩
 | k + 1 => by
  obtain ⟨ih0, ih1⟩ := samples_Unpack.mono_l k
  refine ⟨?_, ?_⟩
  ·intro y0 y1 y2 y3
   unfold samples_Unpack.j0
   repeat' first
   | (with_reducible exact ih0 _ _ _ _)
   | (with_reducible exact ih1 _ _ _ _ _)
   | (with_reducible exact samples_known.mono _ _)
   | (with_reducible exact LeO.refl _)
   | (with_reducible exact LeO.none _)
   | (with_reducible refine LeO.ite ?_ ?_)
   | (with_reducible refine LeO.bind ?_ (fun _ => ?_))
   | exact ih0 _ _ _ _
   | exact ih1 _ _ _ _ _
   | exact samples_known.mono _ _
   | exact LeO.none _
   | refine LeO.ite ?_ ?_
   | refine LeO.bind ?_ (fun _ => ?_)
  ·intro y0 y1 y2 y3 y4
   unfold samples_Unpack.l0
   repeat' first
   | (with_reducible exact ih0 _ _ _ _)
   | (with_reducible exact ih1 _ _ _ _ _)
   | (with_reducible exact samples_known.mono _ _)
   | (with_reducible exact LeO.refl _)
   | (with_reducible exact LeO.none _)
   | (with_reducible refine LeO.ite ?_ ?_)
   | (with_reducible refine LeO.bind ?_ (fun _ => ?_))
   | exact ih0 _ _ _ _
   | exact ih1 _ _ _ _ _
   | exact samples_known.mono _ _
   | exact LeO.none _
   | refine LeO.ite ?_ ?_
   | refine LeO.bind ?_ (fun _ => ?_)
theorem samples_Unpack.mono : ∀ a0 a1 a2 k, LeO (samples_Unpack.f k a0 a1 a2) (samples_Unpack.f (k + 1) a0 a1 a2) := by
 intro a0 a1 a2 k
 obtain ⟨ih0, ih1⟩ := samples_Unpack.mono_l k
 unfold samples_Unpack.f
 repeat' first
   | (with_reducible exact ih0 _ _ _ _)
   | (with_reducible exact ih1 _ _ _ _ _)
   | (with_reducible exact samples_known.mono _ _)
   | (with_reducible exact LeO.refl _)
   | (with_reducible exact LeO.none _)
   | (with_reducible refine LeO.ite ?_ ?_)
   | (with_reducible refine LeO.bind ?_ (fun _ => ?_))
   | exact ih0 _ _ _ _
   | exact ih1 _ _ _ _ _
   | exact samples_known.mono _ _
   | exact LeO.none _
   | refine LeO.ite ?_ ?_
   | refine LeO.bind ?_ (fun _ => ?_)
def samples_Unpack.T10 : Bool × List (List Nat × List Nat) := (true, [([], []), ([], []), ([], []), ([], []), ([3], [3]), ([2, 4], [2, 4]), ([5], [5]), ([6], [6]), ([], []), ([], []), ([9], [9]), ([10], [10]), ([8, 11], [8, 11]), ([12], [12]), ([7, 13], [7, 13]), ([0, 1, 0, 1, 2, 3, 4, 5, 6, 7, 8, 9, 10, 11, 12, 13, 14], [0, 1]), ([15, 14, 0, 1, 2, 3, 4, 5, 6, 7, 8, 9, 10, 11, 12, 13, 14], [14, 15])])
def samples_Unpack.B10 : List Nat := [0, 0, 0, 0, 8, 28, 60, 124, 0, 0, 512, 1536, 3840, 7936, 16380, 32767, 65535]
theorem samples_Unpack.tab10 : rtab .any (opsOf Try.f58 10) = samples_Unpack.T10 := by kernel_rfl
theorem samples_Unpack.bits10 : waitsOk samples_Unpack.T10.2 samples_Unpack.B10 = true := by kernel_rfl
def samples_Unpack.T12 : Bool × List (List Nat × List Nat) := (true, [([], []), ([], []), ([], []), ([], []), ([3], [3]), ([2, 4], [2, 4]), ([5], [5]), ([], []), ([7], [7]), ([], []), ([9], [9]), ([8, 10], [8, 10]), ([6, 11], [6, 11]), ([], []), ([13], [13]), ([14], [14]), ([12, 15], [12, 15]), ([0, 1, 0, 1, 2, 3, 4, 5, 6, 7, 8, 9, 10, 11, 12, 13, 14, 15, 16], [0, 1]), ([17, 16, 0, 1, 2, 3, 4, 5, 6, 7, 8, 9, 10, 11, 12, 13, 14, 15, 16], [16, 17])])
def samples_Unpack.B12 : List Nat := [0, 0, 0, 0, 8, 28, 60, 0, 128, 0, 512, 1920, 4092, 0, 8192, 24576, 65532, 131071, 262143]
theorem samples_Unpack.tab12 : rtab .any (opsOf Try.f58 12) = samples_Unpack.T12 := by kernel_rfl
theorem samples_Unpack.bits12 : waitsOk samples_Unpack.T12.2 samples_Unpack.B12 = true := by kernel_rfl
set_option maxHeartbeats 40000000 in
set_option maxRecDepth 100000 in
theorem samples_Unpack.calls (k : Nat) (a0 : ByteArray) (a1 : Int) (a2 : Int) (r1 : List Int) (r2 : Int) (w : World) (h : samples_Unpack.f k a0 a1 a2 = some (r1, r2)) :
  Calls Try.prog 58 #[.string a0, .int .i64 a1, .int .i64 a2] w fun e w' => ∃ v0_ : Value, e = .returned (.tuple #[v0_, .int .i64 r2]) ∧ Kd.R (Kd.int .i64) 3 w' w.heap.size (fun _ => True) v0_ r1 ∧ Below w.heap.size w w' := by
 have HB := Aside0.mk (Below.refl w.heap.size w)
 have H : ((samples_known.f k a1).bind fun t162 => (if t162 = true then (if a2 < 0 then (samples_Unpack.j0 k a0 a1 a2 true) else (samples_Unpack.j0 k a0 a1 a2 (decide (a2 > 4096)))) else (samples_Unpack.j0 k a0 a1 a2 true))) = some (r1, r2) := h
 clear h
 have HC4 := Aside0.mk H
 clear H
 go_enter Try.func58, Try.ntmps58
 go_upto_region 1 with (fail)
 go_cut [11] (fun v11 wc => ∃ (kq : Nat) (x11_3 : Bool), v11 = .bool x11_3 ∧ Aside0 (samples_Unpack.j0 kq a0 a1 a2 x11_3 = some (r1, r2)) ∧ Aside0 (kq ≤ k) ∧ Aside0 (Below w.heap.size w wc))
 case first =>
  have H := HC4.out
  clear HC4
  replace H := Option.bind_eq_some_iff.mp H
  obtain ⟨t162, A50, H⟩ := H
  replace H : (if t162 = true then (if a2 < 0 then (samples_Unpack.j0 k a0 a1 a2 true) else (samples_Unpack.j0 k a0 a1 a2 (decide (a2 > 4096)))) else (samples_Unpack.j0 k a0 a1 a2 true)) = some (r1, r2) := H
  have A5 := Aside0.mk A50
  clear A50
  by_cases c6 : t162 = true
  ·subst c6
   have H1 : (if a2 < 0 then (samples_Unpack.j0 k a0 a1 a2 true) else (samples_Unpack.j0 k a0 a1 a2 (decide (a2 > 4096)))) = some (r1, r2) := by rw [if_pos rfl] at H; exact H
   clear H
   have H := H1
   clear H1
   by_cases c7 : a2 < 0
   ·rw [if_pos c7] at H
    have c7b0 : decide (a2 < 0) = true := decide_eq_true c7
    clear c7
    (first | rw [c7b0] | (simp only [i64_w, i32_w]; rw [c7b0]) | skip)
    have H' := Aside0.mk H
    clear H
    go_wp2_with (first | ((with_reducible refine gate_callee (f := 63) rfl ?_); refine gz 13 Try.func63 #[.int .i64 a1] ?_; (with_reducible refine (samples_known.calls k a1 true _ A5.out).mono ?_); rintro e w8 ⟨rfl, hb⟩; refine ⟨_, rfl, ?_⟩; have n0_ := Aside0.mk (below_step (hz HB) hb); clear HB; have HB := n0_; clear n0_; (try clear hb); (try clear hb2); (try clear hk); (try clear hi)))
    go_meet
    case rel => exact ⟨_, (true), (by first | rfl | (simp; done) | (simp [*]; done)), H', ⟨by first | omega | exact Nat.le_refl _⟩, ⟨hz HB⟩⟩
   ·rw [if_neg c7] at H
    have c7b0 : decide (a2 < 0) = false := decide_eq_false c7
    clear c7
    (first | rw [c7b0] | (simp only [i64_w, i32_w]; rw [c7b0]) | skip)
    have H' := Aside0.mk H
    clear H
    go_wp2_with (first | ((with_reducible refine gate_callee (f := 63) rfl ?_); refine gz 13 Try.func63 #[.int .i64 a1] ?_; (with_reducible refine (samples_known.calls k a1 true _ A5.out).mono ?_); rintro e w9 ⟨rfl, hb⟩; refine ⟨_, rfl, ?_⟩; have n0_ := Aside0.mk (below_step (hz HB) hb); clear HB; have HB := n0_; clear n0_; (try clear hb); (try clear hb2); (try clear hk); (try clear hi)))
    go_meet
    case rel => exact ⟨_, (decide (a2 > 4096)), (by first | rfl | (simp; done) | (simp [*]; done)), H', ⟨by first | omega | exact Nat.le_refl _⟩, ⟨hz HB⟩⟩
  ·replace c6 := Bool.eq_false_iff.mpr c6
   subst c6
   have H1 : (samples_Unpack.j0 k a0 a1 a2 true) = some (r1, r2) := by rw [if_neg (show ¬ (false = true) by decide)] at H; exact H
   clear H
   have H := H1
   clear H1
   have H' := Aside0.mk H
   clear H
   go_wp2_with (first | ((with_reducible refine gate_callee (f := 63) rfl ?_); refine gz 13 Try.func63 #[.int .i64 a1] ?_; (with_reducible refine (samples_known.calls k a1 false _ A5.out).mono ?_); rintro e w10 ⟨rfl, hb⟩; refine ⟨_, rfl, ?_⟩; have n0_ := Aside0.mk (below_step (hz HB) hb); clear HB; have HB := n0_; clear n0_; (try clear hb); (try clear hb2); (try clear hk); (try clear hi)))
   go_meet
   case rel => exact ⟨_, (true), (by first | rfl | (simp; done) | (simp [*]; done)), H', ⟨by first | omega | exact Nat.le_refl _⟩, ⟨hz HB⟩⟩
 case rest =>
  clear HC4
  obtain ⟨kq, x11_3, rfl, HA, HJ3, HB⟩ := hcut
  cases kq with
  | zero => exact absurd HA.out (by simp [samples_Unpack.j0])
  | succ kj3 =>
   have H := HA.out
   clear HA
   simp only [samples_Unpack.j0] at H
   by_cases c11 : x11_3 = true
   ·subst c11
    have H1 : (some (([] : List Int), 1)) = some (r1, r2) := by rw [if_pos rfl] at H; exact H
    clear H
    have H := H1
    clear H1
    simp only [Option.some.injEq, Prod.mk.injEq] at H
    obtain ⟨rfl, rfl⟩ := H
    go_wp2
    go_ret2
    exact ⟨_, by first | rfl | (simp [errW_none, errW_some] <;> rfl) | (simp [*, errW_none, errW_some] <;> rfl), by first | exact Kd.R_nil _ _ _ _ _ | exact Kd.N_nil _ _ _ _ _ | exact Kd.V_nil _ _ _ _ _ | exact Kd.Q_nil _ _ _ _ _ | exact Kd.S_nil _ _ _ _ _, by repeat (first | (with_reducible first | exact HB.out | apply below_alloc | apply pw_below_drewN | apply below_drew1) | exact HB.out)⟩
   ·replace c11 := Bool.eq_false_iff.mpr c11
    subst c11
    have H1 : (if (wrap64 ((a0.size : Int) * 8)) < (wrap64 (a2 * a1)) then (some (([] : List Int), 30)) else (if 0 ≤ a2 then (if (a2 : Int).toNat ≤ 35184372088832 then ((some (List.replicate (a2 : Int).toNat 0 : List Int)).bind fun y163 => (samples_Unpack.l0 kj3 a0 a1 y163 (y163.length : Int) 0)) else (none)) else (none))) = some (r1, r2) := by rw [if_neg (show ¬ (false = true) by decide)] at H; exact H
    clear H
    have H := H1
    clear H1
    by_cases c12 : (wrap64 ((a0.size : Int) * 8)) < (wrap64 (a2 * a1))
    ·rw [if_pos c12] at H
     have c12b0 : decide ((wrap64 ((a0.size : Int) * 8)) < (wrap64 (a2 * a1))) = true := decide_eq_true c12
     clear c12
     simp only [Option.some.injEq, Prod.mk.injEq] at H
     obtain ⟨rfl, rfl⟩ := H
     go_wp2
     go_ret2
     exact ⟨_, by first | rfl | (simp [errW_none, errW_some] <;> rfl) | (simp [*, errW_none, errW_some] <;> rfl), by first | exact Kd.R_nil _ _ _ _ _ | exact Kd.N_nil _ _ _ _ _ | exact Kd.V_nil _ _ _ _ _ | exact Kd.Q_nil _ _ _ _ _ | exact Kd.S_nil _ _ _ _ _, by repeat (first | (with_reducible first | exact HB.out | apply below_alloc | apply pw_below_drewN | apply below_drew1) | exact HB.out)⟩
    ·rw [if_neg c12] at H
     have c12b0 : decide ((wrap64 ((a0.size : Int) * 8)) < (wrap64 (a2 * a1))) = false := decide_eq_false c12
     clear c12
     by_cases c13 : 0 ≤ a2
     ·rw [if_pos c13] at H
      have c13b0 := eq_true c13
      have c13b1 : decide (0 ≤ a2) = true := decide_eq_true c13
      clear c13
      by_cases c14 : (a2 : Int).toNat ≤ 35184372088832
      ·rw [if_pos c14] at H
       have c14b0 := eq_true c14
       have c14b1 : decide ((a2 : Int).toNat ≤ 35184372088832) = true := decide_eq_true c14
       clear c14
       obtain ⟨y163, hy163⟩ : ∃ y_ : List Int, y_ = (List.replicate (a2 : Int).toNat 0) := ⟨_, rfl⟩
       replace H : (samples_Unpack.l0 kj3 a0 a1 y163 (y163.length : Int) 0) = some (r1, r2) := by first | (rw [hy163]; with_reducible exact H) | (have H2_ := (Option.bind_some _ _).symm.trans H; rw [hy163]; with_reducible exact H2_) | (have H2_ := (Option.bind_some _ _).symm.trans H; with_reducible exact H2_) | with_reducible exact H | (rw [hy163]; exact H) | exact H
       have Ny163 := Aside0.mk hy163
       clear hy163
       have H' := Aside0.mk H
       clear H
       go_wp2_with (first | ((with_reducible refine gate_dst (N := 32) rfl ?_); refine Kd.R_make (Kd.int .i64) _ 3 rfl (N := 32) rfl 37 _ _ rfl a2 rfl rfl Try.underlying37 (.int .i64 0) 8 info3 rfl (by decide) (by omega) 0 (ok := fun _ => True) (okp := fun _ => True) rfl (fun _ hk => hk) trivial (of_decide_eq_true (by first | (with_reducible assumption) | assumption)) (Nat.le_trans (Nat.mul_le_mul_right _ (of_decide_eq_true (by first | (with_reducible assumption) | assumption) : a2.toNat ≤ 35184372088832)) (by omega)) (Below.refl _ _) (Nat.le_refl _) ?_; intro v164 w15 ho16 hb hg_ hnew_; clear hg_ hnew_; (first | rw [← Ny163.out] at ho16 | (simp only [Int.reduceToNat] at ho16; rw [← Ny163.out] at ho16)); have n0_ := Aside0.mk (Kd.R_lower ho16 (below_size (hz HB))); have n1_ := Aside0.mk (below_step (hz HB) hb); clear HB; have HO165 := n0_; have HB := n1_; clear n0_ n1_; clear hb ho16; obtain ⟨Ao17, co17, eo17⟩ := Kd.R_slice HO165.out; subst eo17))
       go_loopg [35] kj3 (fun kq v35 w' => ∃ (x8_2 : List Int) (x35_2 : Int), v35 = .int .i64 x35_2 ∧ Aside0 (samples_Unpack.l0 kq a0 a1 x8_2 (y163.length : Int) x35_2 = some (r1, r2)) ∧ Aside0 (kq ≤ kj3) ∧ Aside0 (Kd.R (Kd.int .i64) 3 w' w.heap.size (fun _ => True) (.slice Ao17 y163.length co17) x8_2) ∧ Aside0 (Below w.heap.size w w'))
       case atStart => exact ⟨(y163), (0), (by first | rfl | (simp; done) | (simp [*]; done)), H', ⟨Nat.le_refl _⟩, ⟨oz HO165⟩, ⟨hz HB⟩⟩
       case round =>
        clear H'
        try clear c11
        try clear c12
        try clear c12b0
        try clear c13
        try clear c13b0
        try clear c13b1
        try clear c14
        try clear c14b0
        try clear c14b1
        obtain ⟨x8_2, x35_2, rfl, HA, HK2, HO_8, HB⟩ := hrel
        have hl8_2 := (Kd.R_reads' HO_8.out).1
        rw [hl8_2] at HO_8
        (try simp only [hl8_2])
        cases gk with
        | zero => exact absurd HA.out (by simp [samples_Unpack.l0])
        | succ k2 =>
         have H := HA.out
         clear HA
         simp only [samples_Unpack.l0] at H
         by_cases c18 : x35_2 < (y163.length : Int)
         ·rw [if_pos c18] at H
          have c18b0 : decide (x35_2 < (y163.length : Int)) = true := decide_eq_true c18
          (try simp only [hl8_2] at c18b0)
          clear c18
          by_cases c19 : a1 = 16
          ·rw [if_pos c19] at H
           have c19b0 : (a1 == 16) = true := beq_iff_eq.mpr c19
           have c19b1 : (a1 != 16) = false := bne_eq_false_iff_eq.mpr c19
           clear c19
           obtain ⟨ji20, hji20⟩ : ∃ j_ : Int, (wrap64 (2 * x35_2)) = j_ := ⟨_, rfl⟩
           replace H : (if 0 ≤ (ji20) then (if (ji20) < (a0.size : Int) then (if 0 ≤ (wrap64 ((ji20) + 1)) then (if (wrap64 ((ji20) + 1)) < (a0.size : Int) then (if 0 ≤ x35_2 then (if x35_2 < (x8_2.length : Int) then (samples_Unpack.l0 k2 a0 a1 (x8_2.set (x35_2 : Int).toNat (Go.bits .or .i64 (wrap64 ((wrap64 (bt a0 (ji20))) * 256)) (wrap64 (bt a0 (wrap64 ((ji20) + 1)))))) (y163.length : Int) (wrap64 (x35_2 + 1))) else (none)) else (none)) else (none)) else (none)) else (none)) else (none)) = some (r1, r2) := by first | (rw [hji20] at H; exact H) | (simp only [hji20] at H ⊢; exact H)
           have hji20w : (IntKind.i64.wrap (2 * x35_2)) = ji20 := (i64_w _).trans hji20
           by_cases c21 : 0 ≤ (ji20)
           ·rw [if_pos c21] at H
            have c21b0 : decide (0 ≤ (ji20)) = true := decide_eq_true c21
            clear c21
            by_cases c22 : (ji20) < (a0.size : Int)
            ·rw [if_pos c22] at H
             have c22b0 : decide ((ji20) < (a0.size : Int)) = true := decide_eq_true c22
             clear c22
             obtain ⟨ji24, hji24⟩ : ∃ j_ : Int, (wrap64 ((ji20) + 1)) = j_ := ⟨_, rfl⟩
             replace H : (if 0 ≤ (ji24) then (if (ji24) < (a0.size : Int) then (if 0 ≤ x35_2 then (if x35_2 < (x8_2.length : Int) then (samples_Unpack.l0 k2 a0 a1 (x8_2.set (x35_2 : Int).toNat (Go.bits .or .i64 (wrap64 ((wrap64 (bt a0 (ji20))) * 256)) (wrap64 (bt a0 (ji24))))) (y163.length : Int) (wrap64 (x35_2 + 1))) else (none)) else (none)) else (none)) else (none)) = some (r1, r2) := by first | (rw [hji24] at H; exact H) | (simp only [hji24] at H ⊢; exact H)
             have hji24w : (IntKind.i64.wrap ((ji20) + 1)) = ji24 := (i64_w _).trans hji24
             by_cases c25 : 0 ≤ (ji24)
             ·rw [if_pos c25] at H
              have c25b0 : decide (0 ≤ (ji24)) = true := decide_eq_true c25
              clear c25
              by_cases c26 : (ji24) < (a0.size : Int)
              ·rw [if_pos c26] at H
               have c26b0 : decide ((ji24) < (a0.size : Int)) = true := decide_eq_true c26
               clear c26
               by_cases c28 : 0 ≤ x35_2
               ·rw [if_pos c28] at H
                have c28b0 : decide (0 ≤ x35_2) = true := decide_eq_true c28
                clear c28
                by_cases c29 : x35_2 < (x8_2.length : Int)
                ·rw [if_pos c29] at H
                 have c29b0 : decide (x35_2 < (x8_2.length : Int)) = true := decide_eq_true c29
                 (try simp only [hl8_2] at c29b0)
                 clear c29
                 obtain ⟨y166, hy166⟩ : ∃ y_ : List Int, y_ = (x8_2.set (x35_2 : Int).toNat (Go.bits .or .i64 (wrap64 ((wrap64 (bt a0 (ji20))) * 256)) (wrap64 (bt a0 (ji24))))) := ⟨_, rfl⟩
                 replace H : (samples_Unpack.l0 k2 a0 a1 y166 (y163.length : Int) (wrap64 (x35_2 + 1))) = some (r1, r2) := by first | (rw [hy166]; with_reducible exact H) | (have H2_ := (Option.bind_some _ _).symm.trans H; rw [hy166]; with_reducible exact H2_) | (have H2_ := (Option.bind_some _ _).symm.trans H; with_reducible exact H2_) | with_reducible exact H | (rw [hy166]; exact H) | exact H
                 have Ny166 := Aside0.mk hy166
                 clear hy166
                 have H' := Aside0.mk H
                 clear H
                 try go_wp2
                 have n0_ := Aside0.mk (Kd.R_drew HO_8.out)
                 have n1_ := Aside0.mk (below_drew1 HB.out)
                 clear HO_8
                 clear HB
                 have HO_8 := n0_
                 have HB := n1_
                 clear n0_ n1_
                 have p23 : 0 ≤ ((ji20) : Int) := of_decide_eq_true (by first | (with_reducible assumption) | assumption)
                 have q23 : (ji20) < (a0.size : Int) := of_decide_eq_true (by first | (with_reducible assumption) | assumption)
                 have hx23 := bt_at a0 (ji20)
                 replace p23 := eq_true p23
                 replace q23 := eq_true q23
                 have p27 : 0 ≤ ((ji24) : Int) := of_decide_eq_true (by first | (with_reducible assumption) | assumption)
                 have q27 : (ji24) < (a0.size : Int) := of_decide_eq_true (by first | (with_reducible assumption) | assumption)
                 have hx27 := bt_at a0 (ji24)
                 replace p27 := eq_true p27
                 replace q27 := eq_true q27
                 have p30 : 0 ≤ (x35_2 : Int) := of_decide_eq_true (by first | (with_reducible assumption) | assumption)
                 have q30 : (x35_2 : Int) < ((x8_2.length : Int) : Int) := of_decide_eq_true (by first | (with_reducible assumption) | assumption)
                 obtain ⟨go30, co30, eo30, gb30, gl30, cl30, HG30⟩ := Kd.R_form HO_8.out (by omega)
                 (first | cases eo30 | (injection eo30 with ea_ en_ ec_; (first | subst ea_ | (injection ea_ with ea_; subst ea_)); subst ec_; clear en_))
                 have GB30 := Aside0.mk gb30
                 have GG30 := Aside0.mk HG30
                 clear gb30 gl30 HG30
                 obtain ⟨hx30_0, hf30_0⟩ := Kd.R_celln 0 HO_8.out (x35_2 : Int) p30 q30
                 replace p30 := eq_true p30
                 replace q30 := eq_true q30
                 have HP32 := Kd.R_putn HO_8.out (x35_2 : Int) (Go.bits .or .i64 (wrap64 ((wrap64 (bt a0 (ji20))) * 256)) (wrap64 (bt a0 (ji24))))
                 rw [← Ny166.out] at HP32
                 have HQ32 := Aside0.mk HP32
                 clear HP32
                 refine start_ (n := 17) (S := fun w' => True) (ds := [16]) (bm 17 0) (by kernel_rfl) rfl rfl trivial (fun hHeld => ?_); refine with_tabW samples_Unpack.tab10 samples_Unpack.bits10 (fun HT_ HW_ => ?_)
                 generalize wr.drew = w31 at HO_8 HB GG30 HQ32 hf30_0 hx30_0 hHeld ⊢
                 refine zp 0 40 (bm 17 1) ?_
                 refine zp 1 41 (bm 17 3) ?_
                 refine zp 2 42 (bm 17 7) ?_
                 refine zp 3 43 (bm 17 15) ?_
                 refine zp 4 44 (bm 17 31) ?_
                 refine zp 8 48 (bm 17 287) ?_
                 refine zp 9 49 (bm 17 799) ?_
                 refine zp 10 50 (bm 17 1823) ?_
                 refine zp 11 51 (bm 17 3871) ?_
                 refine zt 5 45 (bm 17 3903) rfl (by intro w' _; go_simp; with_reducible rfl) ?_
                 refine zp 6 46 (bm 17 3967) ?_
                 refine zp 7 47 (bm 17 4095) ?_
                 refine zt 12 52 (bm 17 8191) rfl (by intro w' _; go_simp; with_reducible rfl) ?_
                 refine zp 13 53 (bm 17 16383) ?_
                 refine zp 14 54 (bm 17 32767) ?_
                 refine zp 15 55 (bm 17 65535) ?_
                 refine last_ (i := 16) (N := none) (bm 17 131071) rfl rfl (one_of HT_.out (by kernel_rfl)) (by decide) (fun K hK => ?_)
                 refine skip_ (w1 := ?_) (by rfl) rfl ?_ ?_
                 rotate_left
                 ·go_simp
                  rfl
                 refine hK.out _ _ ?_
                 clear hK K
                 refine done_ (done_of HT_.out (by kernel_rfl)) ?_
                 try go_wp2
                 (try simp only [← hl8_2])
                 go_roundg k2
                 case measure => have := HJ3.out; have := HK2.out; omega
                 case rel => exact ⟨(y166), (wrap64 (x35_2 + 1)), (by first | rfl | (simp; done) | (simp [*]; done)), H', ⟨by have := HJ3.out; have := HK2.out; omega⟩, ⟨by (try simp only [hl8_2]); (with_reducible repeat (first | apply Kd.R_alloc | apply Kd.R_drewN | apply Kd.R_drew)); exact HQ32.out⟩, ⟨by repeat (first | (with_reducible first | exact HB.out | apply below_alloc | apply pw_below_drewN | apply below_drew1 | refine below_set ?_ GB30.out) | exact HB.out)⟩⟩
                ·rw [if_neg c29] at H
                 exact absurd H (by simp)
               ·rw [if_neg c28] at H
                exact absurd H (by simp)
              ·rw [if_neg c26] at H
               exact absurd H (by simp)
             ·rw [if_neg c25] at H
              exact absurd H (by simp)
            ·rw [if_neg c22] at H
             exact absurd H (by simp)
           ·rw [if_neg c21] at H
            exact absurd H (by simp)
          ·rw [if_neg c19] at H
           have c19b0 : (a1 == 16) = false := beq_eq_false_iff_ne.mpr c19
           have c19b1 : (a1 != 16) = true := bne_iff_ne.mpr c19
           obtain ⟨ji33, hji33⟩ : ∃ j_ : Int, (wrap64 (Int.tdiv (wrap64 (x35_2 * a1)) 8)) = j_ := ⟨_, rfl⟩
           replace H : (if 0 ≤ (ji33) then (if (ji33) < (a0.size : Int) then (if 0 ≤ (wrap64 ((wrap64 (8 - a1)) - (Int.tmod (wrap64 (x35_2 * a1)) 8))) then (if 0 ≤ a1 then (if 0 ≤ x35_2 then (if x35_2 < (x8_2.length : Int) then (samples_Unpack.l0 k2 a0 a1 (x8_2.set (x35_2 : Int).toNat (Go.bits .and .i64 (shr .i64 (wrap64 (bt a0 (ji33))) (wrap64 ((wrap64 (8 - a1)) - (Int.tmod (wrap64 (x35_2 * a1)) 8)))) (wrap64 ((shl .i64 1 a1) - 1)))) (y163.length : Int) (wrap64 (x35_2 + 1))) else (none)) else (none)) else (none)) else (none)) else (none)) else (none)) = some (r1, r2) := by first | (rw [hji33] at H; exact H) | (simp only [hji33] at H ⊢; exact H)
           have hji33w : (IntKind.i64.wrap (Int.tdiv (wrap64 (x35_2 * a1)) 8)) = ji33 := (i64_w _).trans hji33
           by_cases c34 : 0 ≤ (ji33)
           ·rw [if_pos c34] at H
            have c34b0 : decide (0 ≤ (ji33)) = true := decide_eq_true c34
            clear c34
            by_cases c35 : (ji33) < (a0.size : Int)
            ·rw [if_pos c35] at H
             have c35b0 : decide ((ji33) < (a0.size : Int)) = true := decide_eq_true c35
             clear c35
             obtain ⟨ji37, hji37⟩ : ∃ j_ : Int, (wrap64 ((wrap64 (8 - a1)) - (Int.tmod (wrap64 (x35_2 * a1)) 8))) = j_ := ⟨_, rfl⟩
             replace H : (if 0 ≤ (ji37) then (if 0 ≤ a1 then (if 0 ≤ x35_2 then (if x35_2 < (x8_2.length : Int) then (samples_Unpack.l0 k2 a0 a1 (x8_2.set (x35_2 : Int).toNat (Go.bits .and .i64 (shr .i64 (wrap64 (bt a0 (ji33))) (ji37)) (wrap64 ((shl .i64 1 a1) - 1)))) (y163.length : Int) (wrap64 (x35_2 + 1))) else (none)) else (none)) else (none)) else (none)) = some (r1, r2) := by first | (rw [hji37] at H; exact H) | (simp only [hji37] at H ⊢; exact H)
             have hji37w : (IntKind.i64.wrap ((wrap64 (8 - a1)) - (Int.tmod (wrap64 (x35_2 * a1)) 8))) = ji37 := (i64_w _).trans hji37
             by_cases c38 : 0 ≤ (ji37)
             ·rw [if_pos c38] at H
              have c38b0 := eq_true c38
              have c38b1 : decide (0 ≤ (ji37)) = true := decide_eq_true c38
              clear c38
              obtain ⟨ji39, hji39⟩ : ∃ j_ : Int, (shr .i64 (wrap64 (bt a0 (ji33))) (ji37)) = j_ := ⟨_, rfl⟩
              replace H : (if 0 ≤ a1 then (if 0 ≤ x35_2 then (if x35_2 < (x8_2.length : Int) then (samples_Unpack.l0 k2 a0 a1 (x8_2.set (x35_2 : Int).toNat (Go.bits .and .i64 (ji39) (wrap64 ((shl .i64 1 a1) - 1)))) (y163.length : Int) (wrap64 (x35_2 + 1))) else (none)) else (none)) else (none)) = some (r1, r2) := by first | (rw [hji39] at H; exact H) | (simp only [hji39] at H ⊢; exact H)
              have hji39_ : ((wrap64 (bt a0 (ji33))) / 2 ^ min (ji37).toNat 64) = ji39 := hji39
              have hji39z : (ji37) ≤ 64 → ((wrap64 (bt a0 (ji33))) / 2 ^ (ji37).toNat) = ji39 := shr_small hji39
              by_cases c40 : 0 ≤ a1
              ·rw [if_pos c40] at H
               have c40b0 := eq_true c40
               have c40b1 : decide (0 ≤ a1) = true := decide_eq_true c40
               clear c40
               obtain ⟨ji41, hji41⟩ : ∃ j_ : Int, (shl .i64 1 a1) = j_ := ⟨_, rfl⟩
               replace H : (if 0 ≤ x35_2 then (if x35_2 < (x8_2.length : Int) then (samples_Unpack.l0 k2 a0 a1 (x8_2.set (x35_2 : Int).toNat (Go.bits .and .i64 (ji39) (wrap64 ((ji41) - 1)))) (y163.length : Int) (wrap64 (x35_2 + 1))) else (none)) else (none)) = some (r1, r2) := by first | (rw [hji41] at H; exact H) | (simp only [hji41] at H ⊢; exact H)
               have hji41_ : (IntKind.i64.wrap (1 * 2 ^ min a1.toNat 64)) = ji41 := hji41
               have hji41z : a1 ≤ 64 → (IntKind.i64.wrap (1 * 2 ^ a1.toNat)) = ji41 := shl_small hji41
               have hji41u : (IntKind.i64.wrap (2 ^ min a1.toNat 64)) = ji41 := by have h_ := hji41_; rw [Int.one_mul] at h_; exact h_
               have hji41v : a1 ≤ 64 → (IntKind.i64.wrap (2 ^ a1.toNat)) = ji41 := fun hle_ => by have h_ := hji41z hle_; rw [Int.one_mul] at h_; exact h_
               have hji41y : (wrap64 (1 * 2 ^ min a1.toNat 64)) = ji41 := (i64_w _).symm.trans hji41_
               have hji41x : a1 ≤ 64 → (wrap64 (1 * 2 ^ a1.toNat)) = ji41 := fun h_ => (i64_w _).symm.trans (hji41z h_)
               by_cases c42 : 0 ≤ x35_2
               ·rw [if_pos c42] at H
                have c42b0 : decide (0 ≤ x35_2) = true := decide_eq_true c42
                clear c42
                by_cases c43 : x35_2 < (x8_2.length : Int)
                ·rw [if_pos c43] at H
                 have c43b0 : decide (x35_2 < (x8_2.length : Int)) = true := decide_eq_true c43
                 (try simp only [hl8_2] at c43b0)
                 clear c43
                 obtain ⟨y167, hy167⟩ : ∃ y_ : List Int, y_ = (x8_2.set (x35_2 : Int).toNat (Go.bits .and .i64 (ji39) (wrap64 ((ji41) - 1)))) := ⟨_, rfl⟩
                 replace H : (samples_Unpack.l0 k2 a0 a1 y167 (y163.length : Int) (wrap64 (x35_2 + 1))) = some (r1, r2) := by first | (rw [hy167]; with_reducible exact H) | (have H2_ := (Option.bind_some _ _).symm.trans H; rw [hy167]; with_reducible exact H2_) | (have H2_ := (Option.bind_some _ _).symm.trans H; with_reducible exact H2_) | with_reducible exact H | (rw [hy167]; exact H) | exact H
                 have Ny167 := Aside0.mk hy167
                 clear hy167
                 have H' := Aside0.mk H
                 clear H
                 try go_wp2
                 have n0_ := Aside0.mk (Kd.R_drew HO_8.out)
                 have n1_ := Aside0.mk (below_drew1 HB.out)
                 clear HO_8
                 clear HB
                 have HO_8 := n0_
                 have HB := n1_
                 clear n0_ n1_
                 have p36 : 0 ≤ ((ji33) : Int) := of_decide_eq_true (by first | (with_reducible assumption) | assumption)
                 have q36 : (ji33) < (a0.size : Int) := of_decide_eq_true (by first | (with_reducible assumption) | assumption)
                 have hx36 := bt_at a0 (ji33)
                 replace p36 := eq_true p36
                 replace q36 := eq_true q36
                 have p44 : 0 ≤ (x35_2 : Int) := of_decide_eq_true (by first | (with_reducible assumption) | assumption)
                 have q44 : (x35_2 : Int) < ((x8_2.length : Int) : Int) := of_decide_eq_true (by first | (with_reducible assumption) | assumption)
                 obtain ⟨go44, co44, eo44, gb44, gl44, cl44, HG44⟩ := Kd.R_form HO_8.out (by omega)
                 (first | cases eo44 | (injection eo44 with ea_ en_ ec_; (first | subst ea_ | (injection ea_ with ea_; subst ea_)); subst ec_; clear en_))
                 have GB44 := Aside0.mk gb44
                 have GG44 := Aside0.mk HG44
                 clear gb44 gl44 HG44
                 obtain ⟨hx44_0, hf44_0⟩ := Kd.R_celln 0 HO_8.out (x35_2 : Int) p44 q44
                 replace p44 := eq_true p44
                 replace q44 := eq_true q44
                 have HP46 := Kd.R_putn HO_8.out (x35_2 : Int) (Go.bits .and .i64 (ji39) (wrap64 ((ji41) - 1)))
                 rw [← Ny167.out] at HP46
                 have HQ46 := Aside0.mk HP46
                 clear HP46
                 refine start_ (n := 19) (S := fun w' => True) (ds := [18]) (bm 19 0) (by kernel_rfl) rfl rfl trivial (fun hHeld => ?_); refine with_tabW samples_Unpack.tab12 samples_Unpack.bits12 (fun HT_ HW_ => ?_)
                 generalize wr.drew = w45 at HO_8 HB GG44 HQ46 hf44_0 hx44_0 hHeld ⊢
                 refine zp 0 59 (bm 19 1) ?_
                 refine zp 1 60 (bm 19 3) ?_
                 refine zp 2 61 (bm 19 7) ?_
                 refine zp 3 62 (bm 19 15) ?_
                 refine zp 4 63 (bm 19 31) ?_
                 refine zp 7 66 (bm 19 159) ?_
                 refine zp 8 67 (bm 19 415) ?_
                 refine zp 9 68 (bm 19 927) ?_
                 refine zp 10 69 (bm 19 1951) ?_
                 refine zp 11 70 (bm 19 3999) ?_
                 refine zp 13 72 (bm 19 12191) ?_
                 refine zp 14 73 (bm 19 28575) ?_
                 refine zp 15 74 (bm 19 61343) ?_
                 refine zt 5 64 (bm 19 61375) rfl (by intro w' _; go_simp; with_reducible rfl) ?_
                 refine zp 6 65 (bm 19 61439) ?_
                 refine zp 12 71 (bm 19 65535) ?_
                 refine zp 16 75 (bm 19 131071) ?_
                 refine zp 17 76 (bm 19 262143) ?_
                 refine last_ (i := 18) (N := none) (bm 19 524287) rfl rfl (one_of HT_.out (by kernel_rfl)) (by decide) (fun K hK => ?_)
                 refine skip_ (w1 := ?_) (by rfl) rfl ?_ ?_
                 rotate_left
                 ·go_simp
                  rfl
                 refine hK.out _ _ ?_
                 clear hK K
                 refine done_ (done_of HT_.out (by kernel_rfl)) ?_
                 try go_wp2
                 (try simp only [← hl8_2])
                 go_roundg k2
                 case measure => have := HJ3.out; have := HK2.out; omega
                 case rel => exact ⟨(y167), (wrap64 (x35_2 + 1)), (by first | rfl | (simp; done) | (simp [*]; done)), H', ⟨by have := HJ3.out; have := HK2.out; omega⟩, ⟨by (try simp only [hl8_2]); (with_reducible repeat (first | apply Kd.R_alloc | apply Kd.R_drewN | apply Kd.R_drew)); exact HQ46.out⟩, ⟨by repeat (first | (with_reducible first | exact HB.out | apply below_alloc | apply pw_below_drewN | apply below_drew1 | refine below_set ?_ GB44.out) | exact HB.out)⟩⟩
                ·rw [if_neg c43] at H
                 exact absurd H (by simp)
               ·rw [if_neg c42] at H
                exact absurd H (by simp)
              ·rw [if_neg c40] at H
               exact absurd H (by simp)
             ·rw [if_neg c38] at H
              exact absurd H (by simp)
            ·rw [if_neg c35] at H
             exact absurd H (by simp)
           ·rw [if_neg c34] at H
            exact absurd H (by simp)
         ·rw [if_neg c18] at H
          have c18b0 : decide (x35_2 < (y163.length : Int)) = false := decide_eq_false c18
          (try simp only [hl8_2] at c18b0)
          clear c18
          simp only [Option.some.injEq, Prod.mk.injEq] at H
          obtain ⟨rfl, rfl⟩ := H
          go_wp2
          go_ret2
          exact ⟨_, by first | rfl | (simp [errW_none, errW_some] <;> rfl) | (simp [*, errW_none, errW_some] <;> rfl), by (with_reducible repeat (first | apply Kd.R_alloc | apply Kd.R_drewN | apply Kd.R_drew)); exact HO_8.out, by repeat (first | (with_reducible first | exact HB.out | apply below_alloc | apply pw_below_drewN | apply below_drew1) | exact HB.out)⟩
      ·rw [if_neg c14] at H
       exact absurd H (by simp)
     ·rw [if_neg c13] at H
      exact absurd H (by simp)

end Go.Proofs.Ytejljcglbkjgkaa.PL12

namespace Go.Proofs.Ytejljcglbkjgkaa.PL12
open Go.RowKit Go.Proofs.YtejljcglbkjgkaaW.PrintWords Go.Proofs.YtejljcglbkjgkaaW.PrintLast Go.Proofs.YtejljcglbkjgkaaW.PrintMore
attribute [local go_sem] max2_int min2_int max_two min_two max_three min_three max_four min_four   -- for this text's walks alone
set_option linter.unusedVariables false
set_option linter.unusedSimpArgs false

-- NOT PRINTED: function 71 (slices_IndexFunc_int_int)

def pbad (d v : Int) : Bool := decide (v < 0) || decide (v ≥ 2 ^ d.toNat)
theorem samples_Pixel_bad.calls (g : Nat) (v s0 s1 s2 s3 s4 : Int) (s5 s6 : ByteArray) (s7 : Bool) (w : World) (hd : s2 = 1 ∨ s2 = 2 ∨ s2 = 4 ∨ s2 = 8 ∨ s2 = 16)
  (hb : w.heap[g]? = some (.cells #[.int .i64 s0, .int .i64 s1, .int .i64 s2, .int .i64 s3, .int .i64 s4, .string s5, .string s6, .bool s7] 31 (0, 0))) :
  Calls Try.prog 65 #[.int .i64 v, .pointer (some ⟨g, 0, none⟩)] w fun e w' => e = .returned (.bool (pbad s2 v)) ∧ w = w' := by
 have hc := (blk_cell hb 2).trans rfl
 unfold pbad
 by_cases h0 : v < 0
 ·have h0b : decide (v < 0) = true := decide_eq_true h0
  rw [h0b, Bool.true_or]
  clear hb hd h0
  go_enter Try.func65, Try.ntmps65
  go_wp2
  go_ret
  exact ⟨rfl, rfl⟩
 ·have h0b : decide (v < 0) = false := decide_eq_false h0
  rw [h0b, Bool.false_or]
  clear h0 hb
  rcases hd with rfl | rfl | rfl | rfl | rfl
  all_goals
   go_enter Try.func65, Try.ntmps65
   go_wp2
   go_ret
   exact ⟨by first | rfl | (simp; done), rfl⟩
def pbadIdx : Nat → Int → List Int → Int → Option Int
 | 0, _, _, _ => none
 | k + 1, d, l, i => if i < (l.length : Int) then (if 0 ≤ i then (if pbad d (rd l i) = true then some i else pbadIdx k d l (wrap64 (i + 1))) else none) else some (-1)
theorem pbadIdx_mono : ∀ (k : Nat) (d : Int) (l : List Int) (i : Int), LeO (pbadIdx k d l i) (pbadIdx (k + 1) d l i)
 | 0 => fun _ _ _ r h => by simp [pbadIdx] at h
 | k + 1 => by
  intro d l i
  unfold pbadIdx
  refine LeO.ite (LeO.ite (LeO.ite (LeO.refl _) (pbadIdx_mono k _ _ _)) (LeO.refl _)) (LeO.refl _)
set_option maxHeartbeats 8000000 in
set_option maxRecDepth 100000 in
theorem samples_Pixel_badIndex.calls (k : Nat) (A : Option Addr) (c : Nat) (l : List Int) (g : Nat) (s0 s1 s2 s3 s4 : Int) (s5 s6 : ByteArray) (s7 : Bool) (r : Int) (w : World) (hd : s2 = 1 ∨ s2 = 2 ∨ s2 = 4 ∨ s2 = 8 ∨ s2 = 16)
  (hr : Kd.C (Kd.int .i64) w A l.length l) (hl : l.length ≤ c)
  (hb : w.heap[g]? = some (.cells #[.int .i64 s0, .int .i64 s1, .int .i64 s2, .int .i64 s3, .int .i64 s4, .string s5, .string s6, .bool s7] 31 (0, 0))) (h : pbadIdx k s2 l 0 = some r) :
  Calls Try.prog 71 #[.slice A l.length c, .func (.func 65) #[] #[.pointer (some ⟨g, 0, none⟩)]] w fun e w' => e = .returned (.int .i64 r) ∧ Drawn0 w w' := by
 have HR0 := Aside0.mk hr
 have HC0 := Aside0.mk hl
 have HBX := Aside0.mk hb
 have HD := Aside0.mk hd
 have H' := Aside0.mk h
 clear hr hl hb hd h
 go_enter Try.func71, Try.ntmps71
 go_wp2
 go_loopg [8] k (fun kq v8 w' => ∃ (x8_1 : Int), v8 = .int .i64 x8_1 ∧ Aside0 (pbadIdx kq s2 l x8_1 = some r) ∧ Aside0 (kq ≤ k) ∧ Drawn0 w w')
 case atStart => exact ⟨(0), (by first | rfl | (simp; done) | (simp [*]; done)), H', ⟨Nat.le_refl _⟩, by repeat (first | exact Drawn0.refl _ | apply Drawn0.step)⟩
 case round =>
  clear H'
  obtain ⟨x8_1, rfl, HA, HK1, ⟨m1, rfl⟩⟩ := hrel
  cases gk with
  | zero => exact absurd HA.out (by simp [pbadIdx])
  | succ k1 =>
   have H := HA.out
   clear HA
   simp only [pbadIdx] at H
   by_cases c3 : x8_1 < (l.length : Int)
   ·rw [if_pos c3] at H
    have c3b0 : decide (x8_1 < (l.length : Int)) = true := decide_eq_true c3
    by_cases c4 : 0 ≤ x8_1
    ·rw [if_pos c4] at H
     have p101 : 0 ≤ (x8_1 : Int) := c4
     have q101 : x8_1 < (l.length : Int) := c3
     clear c3
     have c4b0 : decide (0 ≤ x8_1) = true := decide_eq_true c4
     clear c4
     obtain ⟨ad101, e101, hx101_0⟩ := Kd.at_int HR0.out x8_1 p101 q101
     cases e101
     replace p101 := eq_true p101
     replace q101 := eq_true q101
     have cl := Aside0.mk (samples_Pixel_bad.calls g (rd l x8_1) s0 s1 s2 s3 s4 s5 s6 s7 (w.drewN m1) HD.out (by exact HBX.out))
     by_cases c6 : pbad s2 (rd l x8_1) = true
     ·rw [if_pos c6] at H
      rw [c6] at cl
      clear c6
      obtain rfl := Option.some.inj H
      go_wp2_with (go_at_call 65; refine cl.out.mono ?_; rintro e w' ⟨rfl, rfl⟩)
      go_ret
      exact ⟨by first | rfl | (simp; done) | (simp [*]; done), by repeat (first | exact Drawn0.refl _ | apply Drawn0.step)⟩
     ·rw [if_neg c6] at H
      rw [Bool.eq_false_iff.mpr c6] at cl
      clear c6
      have H' := Aside0.mk H
      clear H
      go_wp2_with (go_at_call 65; refine cl.out.mono ?_; rintro e w' ⟨rfl, rfl⟩)
      go_roundg k1
      case measure => have := HK1.out; omega
      case rel => exact ⟨(wrap64 (x8_1 + 1)), (by first | rfl | (simp; done) | (simp [*]; done)), H', ⟨by have := HK1.out; omega⟩, by repeat (first | exact Drawn0.refl _ | apply Drawn0.step)⟩
    ·rw [if_neg c4] at H
     exact absurd H (by simp)
   ·rw [if_neg c3] at H
    have c3b0 : decide (x8_1 < (l.length : Int)) = false := decide_eq_false c3
    clear c3
    obtain rfl := Option.some.inj H
    go_wp2
    go_ret
    exact ⟨by first | rfl | (simp; done) | (simp [*]; done), by repeat (first | exact Drawn0.refl _ | apply Drawn0.step)⟩
def slices_ContainsFunc_int_int.f (k : Nat) (l : List Int) (s0 s1 s2 s3 s4 : Int) (s5 s6 : ByteArray) (s7 : Bool) : Option Bool := if s2 = 1 ∨ s2 = 2 ∨ s2 = 4 ∨ s2 = 8 ∨ s2 = 16 then (pbadIdx k s2 l 0).bind fun t => some (decide (t ≥ 0)) else none
theorem slices_ContainsFunc_int_int.mono : ∀ (l : List Int) (s0 s1 s2 s3 s4 : Int) (s5 s6 : ByteArray) (s7 : Bool) k, LeO (slices_ContainsFunc_int_int.f k l s0 s1 s2 s3 s4 s5 s6 s7) (slices_ContainsFunc_int_int.f (k + 1) l s0 s1 s2 s3 s4 s5 s6 s7) := by
 intro l s0 s1 s2 s3 s4 s5 s6 s7 k
 unfold slices_ContainsFunc_int_int.f
 exact LeO.ite (LeO.bind (pbadIdx_mono _ _ _ _) (fun _ => LeO.refl _)) (LeO.refl _)
set_option maxHeartbeats 8000000 in
set_option maxRecDepth 100000 in
theorem slices_ContainsFunc_int_int.calls (k : Nat) (A : Option Addr) (c : Nat) (l : List Int) (g : Nat) (s0 s1 s2 s3 s4 : Int) (s5 s6 : ByteArray) (s7 : Bool) (r : Bool) (w : World) (hr : Kd.C (Kd.int .i64) w A l.length l) (hl : l.length ≤ c)
  (hb : w.heap[g]? = some (.cells #[.int .i64 s0, .int .i64 s1, .int .i64 s2, .int .i64 s3, .int .i64 s4, .string s5, .string s6, .bool s7] 31 (0, 0))) (h : slices_ContainsFunc_int_int.f k l s0 s1 s2 s3 s4 s5 s6 s7 = some r) :
  Calls Try.prog 64 #[.slice A l.length c, .func (.func 65) #[] #[.pointer (some ⟨g, 0, none⟩)]] w fun e w' => e = .returned (.bool r) ∧ Drawn0 w w' := by
 unfold slices_ContainsFunc_int_int.f at h
 by_cases hd : s2 = 1 ∨ s2 = 2 ∨ s2 = 4 ∨ s2 = 8 ∨ s2 = 16
 ·rw [if_pos hd] at h
  obtain ⟨t, ht, h2⟩ := Option.bind_eq_some_iff.mp h
  obtain rfl := Option.some.inj h2
  have cl := Aside0.mk (samples_Pixel_badIndex.calls k A c l g s0 s1 s2 s3 s4 s5 s6 s7 t w hd hr hl hb ht)
  clear h2 h hr hl hb hd ht
  go_enter Try.func64, Try.ntmps64
  go_wp2_with (go_at_call 71; refine cl.out.mono ?_; rintro e w' ⟨rfl, ⟨nd, rfl⟩⟩)
  go_ret
  exact ⟨by first | rfl | (simp; done) | (simp [*]; done), by repeat (first | exact Drawn0.refl _ | apply Drawn0.step)⟩
 ·rw [if_neg hd] at h
  exact absurd h (by simp)

def samples_Wide.f (k : Nat) (a0 : Int) (a1 : Int) : Option (Int) := (samples_known.f k a1).bind fun t168 => (if t168 = true then (if 0 ≤ a1 then (if (wrap64 ((shl .i64 1 a1) - 1)) = 0 then (none) else (some (wrap64 ((Go.bits .and .i64 a0 (wrap64 ((shl .i64 1 a1) - 1))) * (wrap64 (Int.tdiv 65535 (wrap64 ((shl .i64 1 a1) - 1)))))))) else (none)) else (some 0))
theorem samples_Wide.mono : ∀ a0 a1 k, LeO (samples_Wide.f k a0 a1) (samples_Wide.f (k + 1) a0 a1) := by
 intro a0 a1 k
 unfold samples_Wide.f
 repeat' first
   | (with_reducible exact samples_known.mono _ _)
   | (with_reducible exact LeO.refl _)
   | (with_reducible exact LeO.none _)
   | (with_reducible refine LeO.ite ?_ ?_)
   | (with_reducible refine LeO.bind ?_ (fun _ => ?_))
   | exact samples_known.mono _ _
   | exact LeO.none _
   | refine LeO.ite ?_ ?_
   | refine LeO.bind ?_ (fun _ => ?_)
set_option maxHeartbeats 40000000 in
set_option maxRecDepth 100000 in
theorem samples_Wide.calls (k : Nat) (a0 : Int) (a1 : Int) (r : Int) (w : World) (h : samples_Wide.f k a0 a1 = some r) :
  Calls Try.prog 67 #[.int .i64 a0, .int .i64 a1] w fun e w' => e = .returned (.int .i64 r) ∧ Below w.heap.size w w' := by
 have HB := Aside0.mk (Below.refl w.heap.size w)
 have H : ((samples_known.f k a1).bind fun t168 => (if t168 = true then (if 0 ≤ a1 then (if (wrap64 ((shl .i64 1 a1) - 1)) = 0 then (none) else (some (wrap64 ((Go.bits .and .i64 a0 (wrap64 ((shl .i64 1 a1) - 1))) * (wrap64 (Int.tdiv 65535 (wrap64 ((shl .i64 1 a1) - 1)))))))) else (none)) else (some 0))) = some r := h
 clear h
 replace H := Option.bind_eq_some_iff.mp H
 obtain ⟨t168, A30, H⟩ := H
 replace H : (if t168 = true then (if 0 ≤ a1 then (if (wrap64 ((shl .i64 1 a1) - 1)) = 0 then (none) else (some (wrap64 ((Go.bits .and .i64 a0 (wrap64 ((shl .i64 1 a1) - 1))) * (wrap64 (Int.tdiv 65535 (wrap64 ((shl .i64 1 a1) - 1)))))))) else (none)) else (some 0)) = some r := H
 have A3 := Aside0.mk A30
 clear A30
 by_cases c4 : t168 = true
 ·subst c4
  have H1 : (if 0 ≤ a1 then (if (wrap64 ((shl .i64 1 a1) - 1)) = 0 then (none) else (some (wrap64 ((Go.bits .and .i64 a0 (wrap64 ((shl .i64 1 a1) - 1))) * (wrap64 (Int.tdiv 65535 (wrap64 ((shl .i64 1 a1) - 1)))))))) else (none)) = some r := by rw [if_pos rfl] at H; exact H
  clear H
  have H := H1
  clear H1
  by_cases c5 : 0 ≤ a1
  ·rw [if_pos c5] at H
   have c5b0 := eq_true c5
   have c5b1 : decide (0 ≤ a1) = true := decide_eq_true c5
   clear c5
   obtain ⟨ji6, hji6⟩ : ∃ j_ : Int, (shl .i64 1 a1) = j_ := ⟨_, rfl⟩
   replace H : (if (wrap64 ((ji6) - 1)) = 0 then (none) else (some (wrap64 ((Go.bits .and .i64 a0 (wrap64 ((ji6) - 1))) * (wrap64 (Int.tdiv 65535 (wrap64 ((ji6) - 1)))))))) = some r := by first | (rw [hji6] at H; exact H) | (simp only [hji6] at H ⊢; exact H)
   (try rw [hji6] at A3)
   have hji6_ : (IntKind.i64.wrap (1 * 2 ^ min a1.toNat 64)) = ji6 := hji6
   have hji6z : a1 ≤ 64 → (IntKind.i64.wrap (1 * 2 ^ a1.toNat)) = ji6 := shl_small hji6
   have hji6u : (IntKind.i64.wrap (2 ^ min a1.toNat 64)) = ji6 := by have h_ := hji6_; rw [Int.one_mul] at h_; exact h_
   have hji6v : a1 ≤ 64 → (IntKind.i64.wrap (2 ^ a1.toNat)) = ji6 := fun hle_ => by have h_ := hji6z hle_; rw [Int.one_mul] at h_; exact h_
   have hji6y : (wrap64 (1 * 2 ^ min a1.toNat 64)) = ji6 := (i64_w _).symm.trans hji6_
   have hji6x : a1 ≤ 64 → (wrap64 (1 * 2 ^ a1.toNat)) = ji6 := fun h_ => (i64_w _).symm.trans (hji6z h_)
   by_cases c7 : (wrap64 ((ji6) - 1)) = 0
   ·rw [if_pos c7] at H
    exact absurd H (by simp)
   ·rw [if_neg c7] at H
    have c7b0 : ((wrap64 ((ji6) - 1)) == 0) = false := beq_eq_false_iff_ne.mpr c7
    have c7b1 : ((wrap64 ((ji6) - 1)) != 0) = true := bne_iff_ne.mpr c7
    obtain rfl := Option.some.inj H
    go_enter Try.func67, Try.ntmps67
    go_wp2_with (first | ((with_reducible refine gate_callee (f := 63) rfl ?_); refine gz 7 Try.func63 #[.int .i64 a1] ?_; (with_reducible refine (samples_known.calls k a1 true _ A3.out).mono ?_); rintro e w8 ⟨rfl, hb⟩; refine ⟨_, rfl, ?_⟩; have n0_ := Aside0.mk (below_step (hz HB) hb); clear HB; have HB := n0_; clear n0_; (try clear hb); (try clear hb2); (try clear hk); (try clear hi)))
    go_ret
    exact ⟨by first | rfl | (simp [errW_none, errW_some] <;> rfl) | (simp only [← hji6]; first | rfl | (simp [errW_none, errW_some] <;> rfl)) | (simp [*, errW_none, errW_some] <;> rfl), by repeat (first | (with_reducible first | exact HB.out | apply below_alloc | apply pw_below_drewN | apply below_drew1) | exact HB.out)⟩
  ·rw [if_neg c5] at H
   exact absurd H (by simp)
 ·replace c4 := Bool.eq_false_iff.mpr c4
  subst c4
  have H1 : (some 0) = some r := by rw [if_neg (show ¬ (false = true) by decide)] at H; exact H
  clear H
  have H := H1
  clear H1
  obtain rfl := Option.some.inj H
  go_enter Try.func67, Try.ntmps67
  go_wp2_with (first | ((with_reducible refine gate_callee (f := 63) rfl ?_); refine gz 7 Try.func63 #[.int .i64 a1] ?_; (with_reducible refine (samples_known.calls k a1 false _ A3.out).mono ?_); rintro e w9 ⟨rfl, hb⟩; refine ⟨_, rfl, ?_⟩; have n0_ := Aside0.mk (below_step (hz HB) hb); clear HB; have HB := n0_; clear n0_; (try clear hb); (try clear hb2); (try clear hk); (try clear hi)))
  go_ret
  exact ⟨by first | rfl | (simp [errW_none, errW_some] <;> rfl) | (simp [*, errW_none, errW_some] <;> rfl), by repeat (first | (with_reducible first | exact HB.out | apply below_alloc | apply pw_below_drewN | apply below_drew1) | exact HB.out)⟩

def samples_pairs.l0 : Nat → List Int → List Int → Int → Int → Option (ByteArray)
 | 0, _, _, _, _ => none
 | k + 1, x3, x6, x7, x8 => if x8 < x7 then (if 0 ≤ x8 then (if x8 < (x6.length : Int) then ((some (([((rd x6 x8) / 256) % 256, (rd x6 x8) % 256] : List Int) : List Int)).bind fun y170 => (if x3.length + y170.length < 140737488355328 then (samples_pairs.l0 k (x3 ++ y170) x6 x7 (wrap64 (x8 + 1))) else (none))) else (none)) else (none)) else (some (strOfNums x3))
def samples_pairs.f (k : Nat) (l0 : List Int) : Option (ByteArray) := samples_pairs.l0 k ([] : List Int) l0 (l0.length : Int) 0
theorem samples_pairs.mono_l : ∀ k, (∀ y0 y1 y2 y3, LeO (samples_pairs.l0 k y0 y1 y2 y3) (samples_pairs.l0 (k + 1) y0 y1 y2 y3))
 | 0 => fun _ _ _ _ r h => by simp [samples_pairs.l0] at h
 | k + 1 => by
  have ih0 := samples_pairs.mono_l k
  ·intro y0 y1 y2 y3
   unfold samples_pairs.l0
   repeat' first
   | (with_reducible exact ih0 _ _ _ _)
   | (with_reducible exact LeO.refl _)
   | (with_reducible exact LeO.none _)
   | (with_reducible refine LeO.ite ?_ ?_)
   | (with_reducible refine LeO.bind ?_ (fun _ => ?_))
   | exact ih0 _ _ _ _
   | exact LeO.none _
   | refine LeO.ite ?_ ?_
   | refine LeO.bind ?_ (fun _ => ?_)
theorem samples_pairs.mono : ∀ a0 k, LeO (samples_pairs.f k a0) (samples_pairs.f (k + 1) a0) := by
 intro a0 k
 have ih0 := samples_pairs.mono_l k
 unfold samples_pairs.f
 repeat' first
   | (with_reducible exact ih0 _ _ _ _)
   | (with_reducible exact LeO.refl _)
   | (with_reducible exact LeO.none _)
   | (with_reducible refine LeO.ite ?_ ?_)
   | (with_reducible refine LeO.bind ?_ (fun _ => ?_))
   | exact ih0 _ _ _ _
   | exact LeO.none _
   | refine LeO.ite ?_ ?_
   | refine LeO.bind ?_ (fun _ => ?_)
set_option maxHeartbeats 40000000 in
set_option maxRecDepth 100000 in
theorem samples_pairs.calls (k : Nat) (A0 : Option Addr) (c0 : Nat) (l0 : List Int) (r : ByteArray) (w : World) (hr0 : Kd.C (Kd.int .i64) w A0 l0.length l0) (hc0 : l0.length ≤ c0) (h : samples_pairs.f k l0 = some r) :
  Calls Try.prog 69 #[.slice A0 l0.length c0] w fun e w' => e = .returned (.string r) ∧ Below w.heap.size w w' := by
 have HR0 := Aside0.mk hr0
 have HC0 := Aside0.mk hc0
 clear hr0 hc0
 have HB := Aside0.mk (Below.refl w.heap.size w)
 have H : (samples_pairs.l0 k ([] : List Int) l0 (l0.length : Int) 0) = some r := h
 clear h
 have H' := Aside0.mk H
 clear H
 go_enter Try.func69, Try.ntmps69
 go_wp2
 go_loopg [3, 8] k (fun kq v3 v8 w' => ∃ (x3_1 : List Int) (x8_1 : Int), v8 = .int .i64 x8_1 ∧ Aside0 (samples_pairs.l0 kq x3_1 l0 (l0.length : Int) x8_1 = some r) ∧ Aside0 (kq ≤ k) ∧ Aside0 (Kd.R (Kd.int .u8) 5 w' w.heap.size (fun _ => True) v3 x3_1) ∧ Aside0 (Below w.heap.size w w'))
 case atStart => exact ⟨(([] : List Int)), (0), (by first | rfl | (simp; done) | (simp [*]; done)), H', ⟨Nat.le_refl _⟩, ⟨by first | exact Kd.R_nil _ _ _ _ _ | exact Kd.N_nil _ _ _ _ _ | exact Kd.V_nil _ _ _ _ _ | exact Kd.Q_nil _ _ _ _ _ | exact Kd.S_nil _ _ _ _ _⟩, ⟨hz HB⟩⟩
 case round =>
  clear H'
  obtain ⟨x3_1, x8_1, rfl, HA, HK1, HO_3, HB⟩ := hrel
  cases gk with
  | zero => exact absurd HA.out (by simp [samples_pairs.l0])
  | succ k1 =>
   have H := HA.out
   clear HA
   simp only [samples_pairs.l0] at H
   by_cases c2 : x8_1 < (l0.length : Int)
   ·rw [if_pos c2] at H
    have c2b0 : decide (x8_1 < (l0.length : Int)) = true := decide_eq_true c2
    clear c2
    by_cases c3 : 0 ≤ x8_1
    ·rw [if_pos c3] at H
     have c3b0 : decide (0 ≤ x8_1) = true := decide_eq_true c3
     clear c3
     by_cases c4 : x8_1 < (l0.length : Int)
     ·rw [if_pos c4] at H
      have c4b0 : decide (x8_1 < (l0.length : Int)) = true := decide_eq_true c4
      clear c4
      obtain ⟨y170, hy170⟩ : ∃ y_ : List Int, y_ = (([((rd l0 x8_1) / 256) % 256, (rd l0 x8_1) % 256] : List Int)) := ⟨_, rfl⟩
      replace H : (if x3_1.length + y170.length < 140737488355328 then (samples_pairs.l0 k1 (x3_1 ++ y170) l0 (l0.length : Int) (wrap64 (x8_1 + 1))) else (none)) = some r := by first | (rw [hy170]; with_reducible exact H) | (have H2_ := (Option.bind_some _ _).symm.trans H; rw [hy170]; with_reducible exact H2_) | (have H2_ := (Option.bind_some _ _).symm.trans H; with_reducible exact H2_) | with_reducible exact H | (rw [hy170]; exact H) | exact H
      have Ny170 := Aside0.mk hy170
      clear hy170
      by_cases c5 : x3_1.length + y170.length < 140737488355328
      ·rw [if_pos c5] at H
       have LMc5 := Aside0.mk c5
       clear c5
       obtain ⟨y173, hy173⟩ : ∃ y_ : List Int, y_ = (x3_1 ++ y170) := ⟨_, rfl⟩
       replace H : (samples_pairs.l0 k1 y173 l0 (l0.length : Int) (wrap64 (x8_1 + 1))) = some r := by first | (rw [hy173]; with_reducible exact H) | (have H2_ := (Option.bind_some _ _).symm.trans H; rw [hy173]; with_reducible exact H2_) | (have H2_ := (Option.bind_some _ _).symm.trans H; with_reducible exact H2_) | with_reducible exact H | (rw [hy173]; exact H) | exact H
       have Ny173 := Aside0.mk hy173
       clear hy173
       have H' := Aside0.mk H
       clear H
       have p169 : 0 ≤ (x8_1 : Int) := of_decide_eq_true (by first | (with_reducible assumption) | assumption)
       have q169 : x8_1 < (l0.length : Int) := of_decide_eq_true (by first | (with_reducible assumption) | assumption)
       obtain ⟨ad169, e169, hx169_0⟩ := Kd.at_int HR0.out x8_1 p169 q169
       cases e169
       replace hx169_0 := (HB.out.cell (World.block_lt_of_cell? w _ hx169_0)).trans hx169_0
       replace p169 := eq_true p169
       replace q169 := eq_true q169
       go_wp2_with (first | ((with_reducible refine gate_dst (N := 18) rfl ?_); refine Kd.R_lit (Kd.int .u8) _ 5 ?hg (N := 18) ?hd (xs := ([((rd l0 x8_1) / 256) % 256, (rd l0 x8_1) % 256] : List Int)) (inner := [.int .u8 (((rd l0 x8_1) / 256) % 256), .int .u8 ((rd l0 x8_1) % 256)]) (ok := fun _ => True) (okp := fun _ => True) ?hr ?hp (fun _ hk => hk) trivial (Below.refl _ _) (Nat.le_refl _) (by simp) ?_; (case hd => rfl); (case hg => rfl); (case hr => first | (go_simp; done) | (go_simp; rfl)); (case hp => exact (Reps.one (show Kd.M (Kd.int .u8) _ _ _ (((rd l0 x8_1) / 256) % 256) [.int .u8 (((rd l0 x8_1) / 256) % 256)] from rfl) (Reps.one (show Kd.M (Kd.int .u8) _ _ _ ((rd l0 x8_1) % 256) [.int .u8 ((rd l0 x8_1) % 256)] from rfl) (Reps.none _ _)))); intro v171 w6 ho7 hb hg_ hnew_; clear hg_ hnew_; (first | rw [← Ny170.out] at ho7 | (simp only [Int.reduceToNat] at ho7; rw [← Ny170.out] at ho7)); have n0_ := Aside0.mk (Kd.R_elder' (oz HO_3) (Kd.R_base ho7) hb); have n1_ := Aside0.mk (Kd.R_lower (Kd.R_new' ho7 (Kd.R_lt (oz HO_3))) (below_size (hz HB))); have n2_ := Aside0.mk (below_step (hz HB) hb); clear HO_3; clear HB; have HO_3 := n0_; have HO172 := n1_; have HB := n2_; clear n0_ n1_ n2_; clear hb ho7; obtain ⟨Ao9, co9, eo9⟩ := Kd.R_slice HO172.out; subst eo9) | ((with_reducible refine gate_builtin (b := .append) (xs := #[.tmp 12, .tmp 18]) rfl ?_); at_builtin; refine Kd.R_append_rows (Kd.int .u8) (w0 := w) w.heap.size rfl (.tmp 12) (.tmp 18) 45 5 (.int .u8 0) 1 rfl Try.underlying45 info5 rfl (by decide) (by omega) u3 x3_1 y170 _ _ _ (fun k_ => some k_ ≠ (.slice Ao9 y170.length co9 : Value).ownBlock) (fun _ => False) rfl rfl ?aO ?aR (fun _ _ h => h) (fun _ h => h.elim) ?aF ?aB ?aS ?aL ?_; (case aR => repeat (first | exact (Kd.R_reads' HO172.out).2.2 | (with_reducible refine Kd.C_alloc ?_ _) | (with_reducible refine Kd.C_drewN ?_ _) | (with_reducible refine Kd.C_drew ?_))); (case aB => exact (hz HB)); (case aF => exact (fun k_ hk => Kd.fresh' (Kd.R_lt (oz HO172)) k_ hk)); (case aO => exact (by (with_reducible repeat (first | apply Kd.R_alloc | apply Kd.R_drewN | apply Kd.R_drew)); exact Kd.R_mono HO_3.out (fun _ hk => hk.2))); (case aS => exact (below_size (hz HB))); (case aL => have := LMc5.out; omega); intro v174 w8 ho hb hg hat; rw [← Ny173.out] at ho; have n0_ := Aside0.mk (Kd.R_after (ok := (fun _ => True)) (oz HO172) hg hat); have n1_ := Aside0.mk (hb); have n2_ := Aside0.mk (ho); clear HO172; clear HB; clear HO_3; have HO172 := n0_; have HB := n1_; have HO175 := n2_; clear n0_ n1_ n2_; clear ho hb hg hat))
       go_roundg k1
       case measure => have := HK1.out; omega
       case rel => exact ⟨(y173), (wrap64 (x8_1 + 1)), (by first | rfl | (simp; done) | (simp [*]; done)), H', ⟨by have := HK1.out; omega⟩, ⟨by (with_reducible repeat (first | apply Kd.R_alloc | apply Kd.R_drewN | apply Kd.R_drew)); exact Kd.R_mono HO175.out (fun _ hk => trivial)⟩, ⟨hz HB⟩⟩
      ·rw [if_neg c5] at H
       exact absurd H (by simp)
     ·rw [if_neg c4] at H
      exact absurd H (by simp)
    ·rw [if_neg c3] at H
     exact absurd H (by simp)
   ·rw [if_neg c2] at H
    have c2b0 : decide (x8_1 < (l0.length : Int)) = false := decide_eq_false c2
    clear c2
    obtain rfl := Option.some.inj H
    have hcv10 := own_string (P := Try.prog) Try.underlying45 Try.underlying5 Try.underlying9 (Kd.own_of_R HO_3.out)
    go_wp2
    go_ret
    exact ⟨by first | rfl | (simp [errW_none, errW_some] <;> rfl) | (simp [*, errW_none, errW_some] <;> rfl), by repeat (first | (with_reducible first | exact HB.out | apply below_alloc | apply pw_below_drewN | apply below_drew1) | exact HB.out)⟩

end Go.Proofs.Ytejljcglbkjgkaa.PL12
