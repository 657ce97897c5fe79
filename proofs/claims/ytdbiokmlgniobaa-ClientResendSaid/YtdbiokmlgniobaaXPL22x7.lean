/- Printed for this claim by a program of this session over the kit's print program: the Go functions as Lean functions, and proofs that the calls come to these answers. No conditions. -/
import Derived.Test.YtdbiokmlgniobaaXH
import Derived.Test.YtdbiokmlgniobaaXPL22x2
import Derived.Test.YtdbiokmlgniobaaXPL22x6
namespace Go.Proofs.Ytdbiokmlgniobaa.PL22
open Go.RowKit Go.Proofs.YtdbiokmlgniobaaW.PrintWords Go.Proofs.YtdbiokmlgniobaaW.PrintLast Go.Proofs.YtdbiokmlgniobaaW.PrintMore
attribute [local go_sem] max2_int min2_int max_two min_two max_three min_three max_four min_four   -- for this text's walks alone
set_option linter.unusedVariables false
set_option linter.unusedSimpArgs false

mutual
def bands_Read.j0 : Nat → Int → Int → ByteArray → Bool → Option (Int × Int × List ByteArray × Int)
 | 0, _, _, _, _ => none
 | k + 1, x6, x7, x8, x47 => if x47 = true then (some (0, 0, ([] : List ByteArray), 42)) else (bands_Read.l0 k x6 x7 x8 ([] : List ByteArray))
def bands_Read.l0 : Nat → Int → Int → ByteArray → List ByteArray → Option (Int × Int × List ByteArray × Int)
 | 0, _, _, _, _ => none
 | k + 1, x6, x7, x8, x9 => if x8.toList = ([] : List UInt8) then (some (x6, x7, x9, 0)) else (if 0 ≤ 32 then (if 32 ≤ (x8.size : Int) then (if x9.length < 8796093022208 then (bands_Read.l0 k x6 x7 (x8.extract 32 x8.size) (x9 ++ [x8.extract 0 32])) else (none)) else (none)) else (none))
end
def bands_Read.f (k : Nat) (a0 : ByteArray) : Option (Int × Int × List ByteArray × Int) := if (a0.size : Int) < 8 then (some (0, 0, ([] : List ByteArray), 42)) else ((bands_number.f a0).bind fun t115 => (if 4 ≤ (a0.size : Int) then ((bands_number.f (a0.extract 4 a0.size)).bind fun t116 => (if 8 ≤ (a0.size : Int) then (if t115 < 1 then (bands_Read.j0 k t115 t116 (a0.extract 8 a0.size) true) else (if t116 < 1 then (bands_Read.j0 k t115 t116 (a0.extract 8 a0.size) true) else (if (mx t115 t116) > 1024 then (bands_Read.j0 k t115 t116 (a0.extract 8 a0.size) true) else (if (wrap64 (t115 * t116)) > 4096 then (bands_Read.j0 k t115 t116 (a0.extract 8 a0.size) true) else (bands_Read.j0 k t115 t116 (a0.extract 8 a0.size) (((a0.extract 8 a0.size).size : Int) != (wrap64 (32 * (wrap64 (Int.tdiv (wrap64 ((wrap64 (t116 + 8)) - 1)) 8)))))))))) else (none))) else (none)))
set_option maxHeartbeats 40000000 in
set_option maxRecDepth 100000 in
theorem bands_Read.calls (k : Nat) (a0 : ByteArray) (r1 : Int) (r2 : Int) (r3 : List ByteArray) (r4 : Int) (w : World) (h : bands_Read.f k a0 = some (r1, r2, r3, r4)) :
  Calls Try.prog 54 #[.string a0] w fun e w' => ∃ v2_ : Value, e = .returned (.tuple #[.int .i64 r1, .int .i64 r2, v2_, .int .i64 r4]) ∧ Kd.R Kd.string 9 w' w.heap.size (fun _ => True) v2_ r3 ∧ Below w.heap.size w w' := by
 have HB := Aside0.mk (Below.refl w.heap.size w)
 have H : (if (a0.size : Int) < 8 then (some (0, 0, ([] : List ByteArray), 42)) else ((bands_number.f a0).bind fun t115 => (if 4 ≤ (a0.size : Int) then ((bands_number.f (a0.extract 4 a0.size)).bind fun t116 => (if 8 ≤ (a0.size : Int) then (if t115 < 1 then (bands_Read.j0 k t115 t116 (a0.extract 8 a0.size) true) else (if t116 < 1 then (bands_Read.j0 k t115 t116 (a0.extract 8 a0.size) true) else (if (mx t115 t116) > 1024 then (bands_Read.j0 k t115 t116 (a0.extract 8 a0.size) true) else (if (wrap64 (t115 * t116)) > 4096 then (bands_Read.j0 k t115 t116 (a0.extract 8 a0.size) true) else (bands_Read.j0 k t115 t116 (a0.extract 8 a0.size) (((a0.extract 8 a0.size).size : Int) != (wrap64 (32 * (wrap64 (Int.tdiv (wrap64 ((wrap64 (t116 + 8)) - 1)) 8)))))))))) else (none))) else (none)))) = some (r1, r2, r3, r4) := h
 clear h
 by_cases c2 : (a0.size : Int) < 8
 ·rw [if_pos c2] at H
  have c2b0 : decide ((a0.size : Int) < 8) = true := decide_eq_true c2
  have c2b1 : decide (a0.size < 8) = true := decide_eq_true (by omega)
  clear c2
  simp only [Option.some.injEq, Prod.mk.injEq] at H
  obtain ⟨rfl, rfl, rfl, rfl⟩ := H
  go_enter Try.func54, Try.ntmps54
  go_wp2
  repeat (go_quiet (fail); try go_wp2)
  refine bodyPost_ret (results_list (rs := [.tmp 2, .tmp 3, .tmp 4, .tmp 5]) rfl (by simp) (.tmp (.tmp (.tmp (.tmp .nil))))) rfl ?_
  exact ⟨_, by first | rfl | (simp [errW_none, errW_some] <;> rfl) | (simp [*, errW_none, errW_some] <;> rfl), by first | exact Kd.R_nil _ _ _ _ _ | exact Kd.N_nil _ _ _ _ _ | exact Kd.V_nil _ _ _ _ _ | exact Kd.Q_nil _ _ _ _ _ | exact Kd.S_nil _ _ _ _ _, by repeat (first | (with_reducible first | exact HB.out | apply below_alloc | apply pw_below_drewN | apply below_drew1) | exact HB.out)⟩
 ·rw [if_neg c2] at H
  have c2b0 : decide ((a0.size : Int) < 8) = false := decide_eq_false c2
  have c2b1 : decide (a0.size < 8) = false := decide_eq_false (by omega)
  clear c2
  replace H := Option.bind_eq_some_iff.mp H
  obtain ⟨t115, A30, H⟩ := H
  replace H : (if 4 ≤ (a0.size : Int) then ((bands_number.f (a0.extract 4 a0.size)).bind fun t116 => (if 8 ≤ (a0.size : Int) then (if t115 < 1 then (bands_Read.j0 k t115 t116 (a0.extract 8 a0.size) true) else (if t116 < 1 then (bands_Read.j0 k t115 t116 (a0.extract 8 a0.size) true) else (if (mx t115 t116) > 1024 then (bands_Read.j0 k t115 t116 (a0.extract 8 a0.size) true) else (if (wrap64 (t115 * t116)) > 4096 then (bands_Read.j0 k t115 t116 (a0.extract 8 a0.size) true) else (bands_Read.j0 k t115 t116 (a0.extract 8 a0.size) (((a0.extract 8 a0.size).size : Int) != (wrap64 (32 * (wrap64 (Int.tdiv (wrap64 ((wrap64 (t116 + 8)) - 1)) 8)))))))))) else (none))) else (none)) = some (r1, r2, r3, r4) := H
  have A3 := Aside0.mk A30
  clear A30
  by_cases c4 : 4 ≤ (a0.size : Int)
  ·rw [if_pos c4] at H
   have c4b0 := eq_true c4
   have c4b1 : decide (4 ≤ (a0.size : Int)) = true := decide_eq_true c4
   clear c4
   replace H := Option.bind_eq_some_iff.mp H
   obtain ⟨t116, A50, H⟩ := H
   replace H : (if 8 ≤ (a0.size : Int) then (if t115 < 1 then (bands_Read.j0 k t115 t116 (a0.extract 8 a0.size) true) else (if t116 < 1 then (bands_Read.j0 k t115 t116 (a0.extract 8 a0.size) true) else (if (mx t115 t116) > 1024 then (bands_Read.j0 k t115 t116 (a0.extract 8 a0.size) true) else (if (wrap64 (t115 * t116)) > 4096 then (bands_Read.j0 k t115 t116 (a0.extract 8 a0.size) true) else (bands_Read.j0 k t115 t116 (a0.extract 8 a0.size) (((a0.extract 8 a0.size).size : Int) != (wrap64 (32 * (wrap64 (Int.tdiv (wrap64 ((wrap64 (t116 + 8)) - 1)) 8)))))))))) else (none)) = some (r1, r2, r3, r4) := H
   have A5 := Aside0.mk A50
   clear A50
   by_cases c6 : 8 ≤ (a0.size : Int)
   ·rw [if_pos c6] at H
    have c6b0 := eq_true c6
    have c6b1 : decide (8 ≤ (a0.size : Int)) = true := decide_eq_true c6
    clear c6
    have HC7 := Aside0.mk H
    clear H
    go_enter Try.func54, Try.ntmps54
    go_upto_region 4 with (first | (go_at_call 66; (with_reducible refine (bands_number.calls a0 t115 _ A3.out).mono ?_); rintro e w' ⟨rfl, ⟨nd, rfl⟩⟩; (try first | exact ⟨rfl, _, World.drewN_drewN _ _ _⟩ | exact ⟨rfl, _, Eq.trans (World.drewN_drewN _ _ _) (congrArg (World.drewN _) (Nat.add_assoc _ _ _))⟩)) | (go_at_call 66; (with_reducible refine (bands_number.calls (a0.extract 4 a0.size) t116 _ A5.out).mono ?_); rintro e w' ⟨rfl, ⟨nd, rfl⟩⟩; (try first | exact ⟨rfl, _, World.drewN_drewN _ _ _⟩ | exact ⟨rfl, _, Eq.trans (World.drewN_drewN _ _ _) (congrArg (World.drewN _) (Nat.add_assoc _ _ _))⟩)))
    repeat (go_quiet (first | (go_at_call 66; (with_reducible refine (bands_number.calls a0 t115 _ A3.out).mono ?_); rintro e w' ⟨rfl, ⟨nd, rfl⟩⟩; (try first | exact ⟨rfl, _, World.drewN_drewN _ _ _⟩ | exact ⟨rfl, _, Eq.trans (World.drewN_drewN _ _ _) (congrArg (World.drewN _) (Nat.add_assoc _ _ _))⟩)) | (go_at_call 66; (with_reducible refine (bands_number.calls (a0.extract 4 a0.size) t116 _ A5.out).mono ?_); rintro e w' ⟨rfl, ⟨nd, rfl⟩⟩; (try first | exact ⟨rfl, _, World.drewN_drewN _ _ _⟩ | exact ⟨rfl, _, Eq.trans (World.drewN_drewN _ _ _) (congrArg (World.drewN _) (Nat.add_assoc _ _ _))⟩))); go_upto_region 4 with (first | (go_at_call 66; (with_reducible refine (bands_number.calls a0 t115 _ A3.out).mono ?_); rintro e w' ⟨rfl, ⟨nd, rfl⟩⟩; (try first | exact ⟨rfl, _, World.drewN_drewN _ _ _⟩ | exact ⟨rfl, _, Eq.trans (World.drewN_drewN _ _ _) (congrArg (World.drewN _) (Nat.add_assoc _ _ _))⟩)) | (go_at_call 66; (with_reducible refine (bands_number.calls (a0.extract 4 a0.size) t116 _ A5.out).mono ?_); rintro e w' ⟨rfl, ⟨nd, rfl⟩⟩; (try first | exact ⟨rfl, _, World.drewN_drewN _ _ _⟩ | exact ⟨rfl, _, Eq.trans (World.drewN_drewN _ _ _) (congrArg (World.drewN _) (Nat.add_assoc _ _ _))⟩))))
    (try simp only [Act.put, List.setIfInBounds_toArray, List.set_cons_zero, List.set_cons_succ])
    go_cut [47] (fun v47 wc => ∃ (kq : Nat) (x47_6 : Bool), v47 = .bool x47_6 ∧ Aside0 (bands_Read.j0 kq t115 t116 (a0.extract 8 a0.size) x47_6 = some (r1, r2, r3, r4)) ∧ Aside0 (kq ≤ k) ∧ Aside0 (Below w.heap.size w wc))
    case first =>
     have H := HC7.out
     clear HC7
     by_cases c8 : t115 < 1
     ·rw [if_pos c8] at H
      have c8b0 : decide (t115 < 1) = true := decide_eq_true c8
      clear c8
      (first | rw [c8b0] | (simp only [i64_w, i32_w]; rw [c8b0]) | skip)
      have H' := Aside0.mk H
      clear H
      go_wp2
      repeat (go_quiet (fail); try go_wp2)
      go_meet
      case rel => exact ⟨_, (true), (by first | rfl | (simp; done) | (simp [*]; done)), H', ⟨by first | omega | exact Nat.le_refl _⟩, ⟨hz HB⟩⟩
     ·rw [if_neg c8] at H
      have c8b0 : decide (t115 < 1) = false := decide_eq_false c8
      clear c8
      (first | rw [c8b0] | (simp only [i64_w, i32_w]; rw [c8b0]) | skip)
      by_cases c9 : t116 < 1
      ·rw [if_pos c9] at H
       have c9b0 : decide (t116 < 1) = true := decide_eq_true c9
       clear c9
       have H' := Aside0.mk H
       clear H
       go_wp2
       repeat (go_quiet (fail); try go_wp2)
       go_meet
       case rel => exact ⟨_, (true), (by first | rfl | (simp; done) | (simp [*]; done)), H', ⟨by first | omega | exact Nat.le_refl _⟩, ⟨hz HB⟩⟩
      ·rw [if_neg c9] at H
       have c9b0 : decide (t116 < 1) = false := decide_eq_false c9
       clear c9
       obtain ⟨ji10, hji10⟩ : ∃ j_ : Int, (mx t115 t116) = j_ := ⟨_, rfl⟩
       replace H : (if (ji10) > 1024 then (bands_Read.j0 k t115 t116 (a0.extract 8 a0.size) true) else (if (wrap64 (t115 * t116)) > 4096 then (bands_Read.j0 k t115 t116 (a0.extract 8 a0.size) true) else (bands_Read.j0 k t115 t116 (a0.extract 8 a0.size) (((a0.extract 8 a0.size).size : Int) != (wrap64 (32 * (wrap64 (Int.tdiv (wrap64 ((wrap64 (t116 + 8)) - 1)) 8)))))))) = some (r1, r2, r3, r4) := by first | (rw [hji10] at H; exact H) | (simp only [hji10] at H ⊢; exact H)
       have hji10_ : (if t115 < t116 then t116 else t115) = ji10 := hji10
       by_cases c11 : (ji10) > 1024
       ·rw [if_pos c11] at H
        have c11b0 : decide (1024 < (ji10)) = true := decide_eq_true c11
        clear c11
        have H' := Aside0.mk H
        clear H
        go_wp2
        repeat (go_quiet (fail); try go_wp2)
        go_meet
        case rel => exact ⟨_, (true), (by first | rfl | (simp; done) | (simp [*]; done)), H', ⟨by first | omega | exact Nat.le_refl _⟩, ⟨hz HB⟩⟩
       ·rw [if_neg c11] at H
        have c11b0 : decide (1024 < (ji10)) = false := decide_eq_false c11
        clear c11
        by_cases c12 : (wrap64 (t115 * t116)) > 4096
        ·rw [if_pos c12] at H
         have c12b0 : decide (4096 < (wrap64 (t115 * t116))) = true := decide_eq_true c12
         clear c12
         have H' := Aside0.mk H
         clear H
         go_wp2
         repeat (go_quiet (fail); try go_wp2)
         go_meet
         case rel => exact ⟨_, (true), (by first | rfl | (simp; done) | (simp [*]; done)), H', ⟨by first | omega | exact Nat.le_refl _⟩, ⟨hz HB⟩⟩
        ·rw [if_neg c12] at H
         have c12b0 : decide (4096 < (wrap64 (t115 * t116))) = false := decide_eq_false c12
         clear c12
         have H' := Aside0.mk H
         clear H
         go_wp2
         repeat (go_quiet (fail); try go_wp2)
         go_meet
         case rel => exact ⟨_, ((((a0.extract 8 a0.size).size : Int) != (wrap64 (32 * (wrap64 (Int.tdiv (wrap64 ((wrap64 (t116 + 8)) - 1)) 8)))))), (by first | rfl | (simp; done) | (simp [*]; done)), H', ⟨by first | omega | exact Nat.le_refl _⟩, ⟨hz HB⟩⟩
    case rest =>
     clear HC7
     try clear c2
     try clear c2b0
     try clear c2b1
     try clear c4
     try clear c4b0
     try clear c4b1
     try clear c6
     try clear c6b0
     try clear c6b1
     obtain ⟨kq, x47_6, rfl, HA, HJ6, HB⟩ := hcut
     cases kq with
     | zero => exact absurd HA.out (by simp [bands_Read.j0])
     | succ kj6 =>
      have H := HA.out
      clear HA
      simp only [bands_Read.j0] at H
      by_cases c13 : x47_6 = true
      ·subst c13
       have H1 : (some (0, 0, ([] : List ByteArray), 42)) = some (r1, r2, r3, r4) := by rw [if_pos rfl] at H; exact H
       clear H
       have H := H1
       clear H1
       simp only [Option.some.injEq, Prod.mk.injEq] at H
       obtain ⟨rfl, rfl, rfl, rfl⟩ := H
       go_wp2
       repeat (go_quiet (fail); try go_wp2)
       refine bodyPost_ret (results_list (rs := [.tmp 2, .tmp 3, .tmp 4, .tmp 5]) rfl (by simp) (.tmp (.tmp (.tmp (.tmp .nil))))) rfl ?_
       exact ⟨_, by first | rfl | (simp [errW_none, errW_some] <;> rfl) | (simp [*, errW_none, errW_some] <;> rfl), by first | exact Kd.R_nil _ _ _ _ _ | exact Kd.N_nil _ _ _ _ _ | exact Kd.V_nil _ _ _ _ _ | exact Kd.Q_nil _ _ _ _ _ | exact Kd.S_nil _ _ _ _ _, by repeat (first | (with_reducible first | exact HB.out | apply below_alloc | apply pw_below_drewN | apply below_drew1) | exact HB.out)⟩
      ·replace c13 := Bool.eq_false_iff.mpr c13
       subst c13
       have H1 : (bands_Read.l0 kj6 t115 t116 (a0.extract 8 a0.size) ([] : List ByteArray)) = some (r1, r2, r3, r4) := by rw [if_neg (show ¬ (false = true) by decide)] at H; exact H
       clear H
       have H := H1
       clear H1
       have H' := Aside0.mk H
       clear H
       go_wp2
       repeat (go_quiet (fail); try go_wp2)
       go_loopg [8, 9] kj6 (fun kq v8 v9 w' => ∃ (x8_2 : ByteArray) (x9_2 : List ByteArray), v8 = .string x8_2 ∧ Aside0 (bands_Read.l0 kq t115 t116 x8_2 x9_2 = some (r1, r2, r3, r4)) ∧ Aside0 (kq ≤ kj6) ∧ Aside0 (Kd.R Kd.string 9 w' w.heap.size (fun _ => True) v9 x9_2) ∧ Aside0 (Below w.heap.size w w'))
       case atStart => exact ⟨((a0.extract 8 a0.size)), (([] : List ByteArray)), (by first | rfl | (simp; done) | (simp [*]; done)), H', ⟨Nat.le_refl _⟩, ⟨by first | exact Kd.R_nil _ _ _ _ _ | exact Kd.N_nil _ _ _ _ _ | exact Kd.V_nil _ _ _ _ _ | exact Kd.Q_nil _ _ _ _ _ | exact Kd.S_nil _ _ _ _ _⟩, ⟨hz HB⟩⟩
       case round =>
        clear H'
        try clear c2
        try clear c2b0
        try clear c2b1
        try clear c4
        try clear c4b0
        try clear c4b1
        try clear c6
        try clear c6b0
        try clear c6b1
        try clear c13
        obtain ⟨x8_2, x9_2, rfl, HA, HK2, HO_9, HB⟩ := hrel
        cases gk with
        | zero => exact absurd HA.out (by simp [bands_Read.l0])
        | succ k2 =>
         have H := HA.out
         clear HA
         simp only [bands_Read.l0] at H
         by_cases c14 : x8_2.toList = ([] : List UInt8)
         ·rw [if_pos c14] at H
          have c14b0 : (x8_2.toList == ([] : List UInt8)) = true := beq_iff_eq.mpr c14
          have c14b1 : (x8_2.toList != ([] : List UInt8)) = false := bne_eq_false_iff_eq.mpr c14
          clear c14
          simp only [Option.some.injEq, Prod.mk.injEq] at H
          obtain ⟨rfl, rfl, rfl, rfl⟩ := H
          go_wp2
          repeat (go_quiet (fail); try go_wp2)
          refine bodyPost_ret (results_list (rs := [.tmp 2, .tmp 3, .tmp 4, .tmp 5]) rfl (by simp) (.tmp (.tmp (.tmp (.tmp .nil))))) rfl ?_
          exact ⟨_, by first | rfl | (simp [errW_none, errW_some] <;> rfl) | (simp [*, errW_none, errW_some] <;> rfl), by (with_reducible repeat (first | apply Kd.R_alloc | apply Kd.R_drewN | apply Kd.R_drew)); exact HO_9.out, by repeat (first | (with_reducible first | exact HB.out | apply below_alloc | apply pw_below_drewN | apply below_drew1) | exact HB.out)⟩
         ·rw [if_neg c14] at H
          have c14b0 : (x8_2.toList == ([] : List UInt8)) = false := beq_eq_false_iff_ne.mpr c14
          have c14b1 : (x8_2.toList != ([] : List UInt8)) = true := bne_iff_ne.mpr c14
          by_cases c15 : 0 ≤ 32
          ·rw [if_pos c15] at H
           have c15b0 := eq_true c15
           have c15b1 : decide (0 ≤ 32) = true := decide_eq_true c15
           clear c15
           by_cases c16 : 32 ≤ (x8_2.size : Int)
           ·rw [if_pos c16] at H
            have c16b0 := eq_true c16
            have c16b1 : decide (32 ≤ (x8_2.size : Int)) = true := decide_eq_true c16
            clear c16
            by_cases c17 : x9_2.length < 8796093022208
            ·rw [if_pos c17] at H
             have LMc17 := Aside0.mk c17
             clear c17
             obtain ⟨y117, hy117⟩ : ∃ y_ : List ByteArray, y_ = (x9_2 ++ [x8_2.extract 0 32]) := ⟨_, rfl⟩
             replace H : (bands_Read.l0 k2 t115 t116 (x8_2.extract 32 x8_2.size) y117) = some (r1, r2, r3, r4) := by first | (rw [hy117]; with_reducible exact H) | (have H2_ := (Option.bind_some _ _).symm.trans H; rw [hy117]; with_reducible exact H2_) | (have H2_ := (Option.bind_some _ _).symm.trans H; with_reducible exact H2_) | with_reducible exact H | (rw [hy117]; exact H) | exact H
             have Ny117 := Aside0.mk hy117
             clear hy117
             have c18b0 := eq_true (of_decide_eq_true (by first | (with_reducible assumption) | assumption) : 32 ≤ (x8_2.size : Int))
             have H' := Aside0.mk H
             clear H
             go_wp2_with (first | ((with_reducible refine gate_builtin (b := .append) (xs := #[.tmp 50, .tmp 53]) rfl ?_); (try (refine gate_guard (by rfl) ?_; dsimp only)); at_builtin; refine Kd.R_append Kd.string (w0 := w) w.heap.size rfl (.tmp 50) (.tmp 53) 24 9 (.string ⟨#[]⟩) 16 rfl Try.underlying24 info9 rfl (by decide) (by omega) u9 x9_2 (x8_2.extract 0 32) [.string (x8_2.extract 0 32)] (fun _ => True) (fun _ => False) rfl rfl ?aP (fun _ hk => hk.elim) ?aF ?aO ?aB ?aS ?aL ?_; (case aP => exact rfl); (case aB => exact (hz HB)); (case aF => exact (fun _ _ => trivial)); (case aO => exact (oz HO_9)); (case aS => exact (below_size (hz HB))); (case aL => have := LMc17.out; omega); intro v118 w19 ho hb hg hat; rw [← Ny117.out] at ho; have n0_ := Aside0.mk (hb); have n1_ := Aside0.mk (ho); clear HB; clear HO_9; have HB := n0_; have HO119 := n1_; clear n0_ n1_; clear ho hb hg hat))
             repeat (go_quiet (first | ((with_reducible refine gate_builtin (b := .append) (xs := #[.tmp 50, .tmp 53]) rfl ?_); (try (refine gate_guard (by rfl) ?_; dsimp only)); at_builtin; refine Kd.R_append Kd.string (w0 := w) w.heap.size rfl (.tmp 50) (.tmp 53) 24 9 (.string ⟨#[]⟩) 16 rfl Try.underlying24 info9 rfl (by decide) (by omega) u9 x9_2 (x8_2.extract 0 32) [.string (x8_2.extract 0 32)] (fun _ => True) (fun _ => False) rfl rfl ?aP (fun _ hk => hk.elim) ?aF ?aO ?aB ?aS ?aL ?_; (case aP => exact rfl); (case aB => exact (hz HB)); (case aF => exact (fun _ _ => trivial)); (case aO => exact (oz HO_9)); (case aS => exact (below_size (hz HB))); (case aL => have := LMc17.out; omega); intro v118 w19 ho hb hg hat; rw [← Ny117.out] at ho; have n0_ := Aside0.mk (hb); have n1_ := Aside0.mk (ho); clear HB; clear HO_9; have HB := n0_; have HO119 := n1_; clear n0_ n1_; clear ho hb hg hat)); try go_wp2_with (first | ((with_reducible refine gate_builtin (b := .append) (xs := #[.tmp 50, .tmp 53]) rfl ?_); (try (refine gate_guard (by rfl) ?_; dsimp only)); at_builtin; refine Kd.R_append Kd.string (w0 := w) w.heap.size rfl (.tmp 50) (.tmp 53) 24 9 (.string ⟨#[]⟩) 16 rfl Try.underlying24 info9 rfl (by decide) (by omega) u9 x9_2 (x8_2.extract 0 32) [.string (x8_2.extract 0 32)] (fun _ => True) (fun _ => False) rfl rfl ?aP (fun _ hk => hk.elim) ?aF ?aO ?aB ?aS ?aL ?_; (case aP => exact rfl); (case aB => exact (hz HB)); (case aF => exact (fun _ _ => trivial)); (case aO => exact (oz HO_9)); (case aS => exact (below_size (hz HB))); (case aL => have := LMc17.out; omega); intro v118 w19 ho hb hg hat; rw [← Ny117.out] at ho; have n0_ := Aside0.mk (hb); have n1_ := Aside0.mk (ho); clear HB; clear HO_9; have HB := n0_; have HO119 := n1_; clear n0_ n1_; clear ho hb hg hat)))
             go_roundg k2
             case measure => have := HJ6.out; have := HK2.out; omega
             case rel => exact ⟨(x8_2.extract 32 x8_2.size), (y117), (by first | rfl | (simp; done) | (simp [*]; done)), H', ⟨by have := HJ6.out; have := HK2.out; omega⟩, ⟨oz HO119⟩, ⟨hz HB⟩⟩
            ·rw [if_neg c17] at H
             exact absurd H (by simp)
           ·rw [if_neg c16] at H
            exact absurd H (by simp)
          ·rw [if_neg c15] at H
           exact absurd H (by simp)
   ·rw [if_neg c6] at H
    exact absurd H (by simp)
  ·rw [if_neg c4] at H
   exact absurd H (by simp)

end Go.Proofs.Ytdbiokmlgniobaa.PL22
