/- Printed for this claim by a program of this session over the kit's print program: the Go functions as Lean functions, and proofs that the calls come to these answers. No conditions. -/
import Derived.Test.YtbonmhgihedjpaaXPL15x0
import Derived.Test.YtbonmhgihedjpaaXPL15x5
import Derived.Test.YtbonmhgihedjpaaXPL15x6
import Derived.Test.YtbonmhgihedjpaaXPL15x24
namespace Go.Proofs.Ytbonmhgihedjpaa.PL15
open Go.RowKit Go.Proofs.YtbonmhgihedjpaaW.PrintWords Go.Proofs.YtbonmhgihedjpaaW.PrintLast Go.Proofs.YtbonmhgihedjpaaW.PrintMore
attribute [local go_sem] max2_int min2_int max_two min_two max_three min_three max_four min_four   -- for this text's walks alone
set_option linter.unusedVariables false
set_option linter.unusedSimpArgs false

mutual
def vitrineref15_Read.j0 : Nat → ByteArray → Int → Int → Bool → Option (Int × Int × List ByteArray × Int)
 | 0, _, _, _, _ => none
 | k + 1, x0, x6, x7, x32 => if x32 = true then (some (0, 0, ([] : List ByteArray), 42)) else (vitrineref15_Read.l0 k x0 x6 x7 ([] : List ByteArray) 0)
def vitrineref15_Read.l0 : Nat → ByteArray → Int → Int → List ByteArray → Int → Option (Int × Int × List ByteArray × Int)
 | 0, _, _, _, _, _ => none
 | k + 1, x0, x6, x7, x8, x9 => (vitrineref15_Many.f x7).bind fun t340 => (if x9 < t340 then (if 0 ≤ (wrap64 (8 + (wrap64 (32 * x9)))) then (if (wrap64 (8 + (wrap64 (32 * x9)))) ≤ (wrap64 (40 + (wrap64 (32 * x9)))) then (if (wrap64 (40 + (wrap64 (32 * x9)))) ≤ (x0.size : Int) then (if x8.length < 8796093022208 then (vitrineref15_Read.l0 k x0 x6 x7 (x8 ++ [x0.extract ((wrap64 (8 + (wrap64 (32 * x9)))) : Int).toNat ((wrap64 (40 + (wrap64 (32 * x9)))) : Int).toNat]) (wrap64 (x9 + 1))) else (none)) else (none)) else (none)) else (none)) else (some (x6, x7, x8, 0)))
end
def vitrineref15_Read.f (k : Nat) (a0 : ByteArray) : Option (Int × Int × List ByteArray × Int) := if (a0.size : Int) < 8 then (some (0, 0, ([] : List ByteArray), 42)) else (if 0 ≤ 4 then (if 4 ≤ (a0.size : Int) then ((vitrineref06_Of.f k (a0.extract 0 4)).bind fun t336 => (if 4 ≤ 8 then (if 8 ≤ (a0.size : Int) then ((vitrineref06_Of.f k (a0.extract 4 8)).bind fun t337 => ((vitrineref08_Right.f k t336 t337 16 6 0).bind fun t338 => (if t338 = 0 then ((vitrineref15_Many.f t337).bind fun t339 => (vitrineref15_Read.j0 k a0 t336 t337 ((a0.size : Int) != (wrap64 (8 + (wrap64 (32 * t339))))))) else (vitrineref15_Read.j0 k a0 t336 t337 true)))) else (none)) else (none))) else (none)) else (none))
theorem vitrineref15_Read.mono_l : ∀ k, (∀ y0 y1 y2 y3, LeO (vitrineref15_Read.j0 k y0 y1 y2 y3) (vitrineref15_Read.j0 (k + 1) y0 y1 y2 y3)) ∧ (∀ y0 y1 y2 y3 y4, LeO (vitrineref15_Read.l0 k y0 y1 y2 y3 y4) (vitrineref15_Read.l0 (k + 1) y0 y1 y2 y3 y4))
 | 0 => ⟨fun _ _ _ _ r h => by simp [vitrineref15_Read.j0] at h, fun _ _ _ _ _ r h => by simp [vitrineref15_Read.l0] at h⟩
 | k + 1 => by
  obtain ⟨ih0, ih1⟩ := vitrineref15_Read.mono_l k
  refine ⟨?_, ?_⟩
  ·intro y0 y1 y2 y3
   unfold vitrineref15_Read.j0
   repeat' first
   | (with_reducible exact ih0 _ _ _ _)
   | (with_reducible exact ih1 _ _ _ _ _)
   | (with_reducible exact vitrineref06_Of.mono _ _)
   | (with_reducible exact vitrineref08_Right.mono _ _ _ _ _ _)
   | (with_reducible exact LeO.refl _)
   | (with_reducible exact LeO.none _)
   | (with_reducible refine LeO.ite ?_ ?_)
   | (with_reducible refine LeO.bind ?_ (fun _ => ?_))
   | exact ih0 _ _ _ _
   | exact ih1 _ _ _ _ _
   | exact vitrineref06_Of.mono _ _
   | exact vitrineref08_Right.mono _ _ _ _ _ _
   | exact LeO.none _
   | refine LeO.ite ?_ ?_
   | refine LeO.bind ?_ (fun _ => ?_)
  ·intro y0 y1 y2 y3 y4
   unfold vitrineref15_Read.l0
   repeat' first
   | (with_reducible exact ih0 _ _ _ _)
   | (with_reducible exact ih1 _ _ _ _ _)
   | (with_reducible exact vitrineref06_Of.mono _ _)
   | (with_reducible exact vitrineref08_Right.mono _ _ _ _ _ _)
   | (with_reducible exact LeO.refl _)
   | (with_reducible exact LeO.none _)
   | (with_reducible refine LeO.ite ?_ ?_)
   | (with_reducible refine LeO.bind ?_ (fun _ => ?_))
   | exact ih0 _ _ _ _
   | exact ih1 _ _ _ _ _
   | exact vitrineref06_Of.mono _ _
   | exact vitrineref08_Right.mono _ _ _ _ _ _
   | exact LeO.none _
   | refine LeO.ite ?_ ?_
   | refine LeO.bind ?_ (fun _ => ?_)
theorem vitrineref15_Read.mono : ∀ a0 k, LeO (vitrineref15_Read.f k a0) (vitrineref15_Read.f (k + 1) a0) := by
 intro a0 k
 obtain ⟨ih0, ih1⟩ := vitrineref15_Read.mono_l k
 unfold vitrineref15_Read.f
 repeat' first
   | (with_reducible exact ih0 _ _ _ _)
   | (with_reducible exact ih1 _ _ _ _ _)
   | (with_reducible exact vitrineref06_Of.mono _ _)
   | (with_reducible exact vitrineref08_Right.mono _ _ _ _ _ _)
   | (with_reducible exact LeO.refl _)
   | (with_reducible exact LeO.none _)
   | (with_reducible refine LeO.ite ?_ ?_)
   | (with_reducible refine LeO.bind ?_ (fun _ => ?_))
   | exact ih0 _ _ _ _
   | exact ih1 _ _ _ _ _
   | exact vitrineref06_Of.mono _ _
   | exact vitrineref08_Right.mono _ _ _ _ _ _
   | exact LeO.none _
   | refine LeO.ite ?_ ?_
   | refine LeO.bind ?_ (fun _ => ?_)
set_option maxHeartbeats 40000000 in
set_option maxRecDepth 100000 in
theorem vitrineref15_Read.calls (k : Nat) (a0 : ByteArray) (r1 : Int) (r2 : Int) (r3 : List ByteArray) (r4 : Int) (w : World) (h : vitrineref15_Read.f k a0 = some (r1, r2, r3, r4)) :
  Calls Try.prog 19 #[.string a0] w fun e w' => ∃ v2_ : Value, e = .returned (.tuple #[.int .i64 r1, .int .i64 r2, v2_, .int .i64 r4]) ∧ Kd.R Kd.string 9 w' w.heap.size (fun _ => True) v2_ r3 ∧ Below w.heap.size w w' := by
 have hu68 := Try.underlying68
 have HB := Aside0.mk (Below.refl w.heap.size w)
 have H : (if (a0.size : Int) < 8 then (some (0, 0, ([] : List ByteArray), 42)) else (if 0 ≤ 4 then (if 4 ≤ (a0.size : Int) then ((vitrineref06_Of.f k (a0.extract 0 4)).bind fun t336 => (if 4 ≤ 8 then (if 8 ≤ (a0.size : Int) then ((vitrineref06_Of.f k (a0.extract 4 8)).bind fun t337 => ((vitrineref08_Right.f k t336 t337 16 6 0).bind fun t338 => (if t338 = 0 then ((vitrineref15_Many.f t337).bind fun t339 => (vitrineref15_Read.j0 k a0 t336 t337 ((a0.size : Int) != (wrap64 (8 + (wrap64 (32 * t339))))))) else (vitrineref15_Read.j0 k a0 t336 t337 true)))) else (none)) else (none))) else (none)) else (none))) = some (r1, r2, r3, r4) := h
 clear h
 by_cases c2 : (a0.size : Int) < 8
 ·rw [if_pos c2] at H
  have c2b0 : decide ((a0.size : Int) < 8) = true := decide_eq_true c2
  have c2b1 : decide (a0.size < 8) = true := decide_eq_true (by omega)
  clear c2
  simp only [Option.some.injEq, Prod.mk.injEq] at H
  obtain ⟨rfl, rfl, rfl, rfl⟩ := H
  go_enter Try.func19, Try.ntmps19
  go_wp2
  refine bodyPost_ret (results_list (rs := [.tmp 2, .tmp 3, .tmp 4, .tmp 5]) rfl (by simp) (.tmp (.tmp (.tmp (.tmp .nil))))) rfl ?_
  exact ⟨_, by first | rfl | (simp [errW_none, errW_some] <;> rfl) | (simp [*, errW_none, errW_some] <;> rfl), by first | exact Kd.R_nil _ _ _ _ _ | exact Kd.N_nil _ _ _ _ _ | exact Kd.V_nil _ _ _ _ _ | exact Kd.Q_nil _ _ _ _ _ | exact Kd.S_nil _ _ _ _ _, by repeat (first | (with_reducible first | exact HB.out | apply below_alloc | apply pw_below_drewN | apply below_drew1) | exact HB.out)⟩
 ·rw [if_neg c2] at H
  have c2b0 : decide ((a0.size : Int) < 8) = false := decide_eq_false c2
  have c2b1 : decide (a0.size < 8) = false := decide_eq_false (by omega)
  clear c2
  by_cases c3 : 0 ≤ 4
  ·rw [if_pos c3] at H
   have c3b0 := eq_true c3
   have c3b1 : decide (0 ≤ 4) = true := decide_eq_true c3
   clear c3
   by_cases c4 : 4 ≤ (a0.size : Int)
   ·rw [if_pos c4] at H
    have c4b0 := eq_true c4
    have c4b1 : decide (4 ≤ (a0.size : Int)) = true := decide_eq_true c4
    clear c4
    replace H := Option.bind_eq_some_iff.mp H
    obtain ⟨t336, A50, H⟩ := H
    replace H : (if 4 ≤ 8 then (if 8 ≤ (a0.size : Int) then ((vitrineref06_Of.f k (a0.extract 4 8)).bind fun t337 => ((vitrineref08_Right.f k t336 t337 16 6 0).bind fun t338 => (if t338 = 0 then ((vitrineref15_Many.f t337).bind fun t339 => (vitrineref15_Read.j0 k a0 t336 t337 ((a0.size : Int) != (wrap64 (8 + (wrap64 (32 * t339))))))) else (vitrineref15_Read.j0 k a0 t336 t337 true)))) else (none)) else (none)) = some (r1, r2, r3, r4) := H
    have A5 := Aside0.mk A50
    clear A50
    by_cases c6 : 4 ≤ 8
    ·rw [if_pos c6] at H
     have c6b0 := eq_true c6
     have c6b1 : decide (4 ≤ 8) = true := decide_eq_true c6
     clear c6
     by_cases c7 : 8 ≤ (a0.size : Int)
     ·rw [if_pos c7] at H
      have c7b0 := eq_true c7
      have c7b1 : decide (8 ≤ (a0.size : Int)) = true := decide_eq_true c7
      clear c7
      replace H := Option.bind_eq_some_iff.mp H
      obtain ⟨t337, A80, H⟩ := H
      replace H : ((vitrineref08_Right.f k t336 t337 16 6 0).bind fun t338 => (if t338 = 0 then ((vitrineref15_Many.f t337).bind fun t339 => (vitrineref15_Read.j0 k a0 t336 t337 ((a0.size : Int) != (wrap64 (8 + (wrap64 (32 * t339))))))) else (vitrineref15_Read.j0 k a0 t336 t337 true))) = some (r1, r2, r3, r4) := H
      have A8 := Aside0.mk A80
      clear A80
      have HC9 := Aside0.mk H
      clear H
      go_enter Try.func19, Try.ntmps19
      go_upto_region 5 with (first | ((with_reducible refine gate_callee (f := 36) rfl ?_); refine goesL_ (some 15) rfl rfl Try.func36 (by kernel_rfl) rfl #[.string (a0.extract 0 4)] rfl (by (try simp only [List.map_toArray, List.map_cons, List.map_nil]); first | done | rfl | (simp only [List.length_drop, List.length_take]; rfl) | (simp only [ByteArray.size_extract, Nat.min_self]; done) | (simp only [ByteArray.size_extract, Nat.min_self]; rfl)) ?_; (with_reducible refine (vitrineref06_Of.calls k (a0.extract 0 4) t336 _ A5.out).mono ?_); rintro e w' ⟨rfl, ⟨nd, rfl⟩⟩; refine ⟨_, rfl, ?_⟩) | ((with_reducible refine gate_callee (f := 36) rfl ?_); refine goesL_ (some 18) rfl rfl Try.func36 (by kernel_rfl) rfl #[.string (a0.extract 4 8)] rfl (by (try simp only [List.map_toArray, List.map_cons, List.map_nil]); first | done | rfl | (simp only [List.length_drop, List.length_take]; rfl) | (simp only [ByteArray.size_extract, Nat.min_self]; done) | (simp only [ByteArray.size_extract, Nat.min_self]; rfl)) ?_; (with_reducible refine (vitrineref06_Of.calls k (a0.extract 4 8) t337 _ A8.out).mono ?_); rintro e w' ⟨rfl, ⟨nd, rfl⟩⟩; refine ⟨_, rfl, ?_⟩))
      (try simp only [Act.put, List.setIfInBounds_toArray, List.set_cons_zero, List.set_cons_succ])
      go_cut [32] (fun v32 wc => ∃ (kq : Nat) (x32_8 : Bool), v32 = .bool x32_8 ∧ Aside0 (vitrineref15_Read.j0 kq a0 t336 t337 x32_8 = some (r1, r2, r3, r4)) ∧ Aside0 (kq ≤ k) ∧ Aside0 (Below w.heap.size w wc))
      case first =>
       have H := HC9.out
       clear HC9
       replace H := Option.bind_eq_some_iff.mp H
       obtain ⟨t338, A100, H⟩ := H
       replace H : (if t338 = 0 then ((vitrineref15_Many.f t337).bind fun t339 => (vitrineref15_Read.j0 k a0 t336 t337 ((a0.size : Int) != (wrap64 (8 + (wrap64 (32 * t339))))))) else (vitrineref15_Read.j0 k a0 t336 t337 true)) = some (r1, r2, r3, r4) := H
       have A10 := Aside0.mk A100
       clear A100
       by_cases c11 : t338 = 0
       ·rw [if_pos c11] at H
        have c11b0 : (t338 == 0) = true := beq_iff_eq.mpr c11
        have c11b1 : (t338 != 0) = false := bne_eq_false_iff_eq.mpr c11
        clear c11
        (first | rw [c11b0] | (simp only [i64_w, i32_w]; rw [c11b0]) | skip)
        replace H := Option.bind_eq_some_iff.mp H
        obtain ⟨t339, A120, H⟩ := H
        replace H : (vitrineref15_Read.j0 k a0 t336 t337 ((a0.size : Int) != (wrap64 (8 + (wrap64 (32 * t339)))))) = some (r1, r2, r3, r4) := H
        have A12 := Aside0.mk A120
        clear A120
        have H' := Aside0.mk H
        clear H
        go_wp2_with (first | ((with_reducible refine gate_callee (f := 37) rfl ?_); refine goesL_ (some 22) rfl rfl Try.func37 (by kernel_rfl) rfl #[.agg #[.int .i64 t336, .int .i64 t337, .int .i64 16, .int .i64 6, .int .i64 0]] rfl (by (try simp only [List.map_toArray, List.map_cons, List.map_nil]); first | done | rfl | (simp only [List.length_drop, List.length_take]; rfl) | (simp only [ByteArray.size_extract, Nat.min_self]; done) | (simp only [ByteArray.size_extract, Nat.min_self]; rfl)) ?_; (with_reducible refine (vitrineref08_Right.calls k t336 t337 16 6 0 t338 _ A10.out).mono ?_); rintro e w13 ⟨rfl, hb⟩; refine ⟨_, rfl, ?_⟩; have n0_ := Aside0.mk (below_step (by repeat (first | (with_reducible first | exact HB.out | apply below_alloc | apply pw_below_drewN | apply below_drew1) | exact HB.out)) hb); clear HB; have HB := n0_; clear n0_; (try clear hb); (try clear hb2); (try clear hk); (try clear hi)) | (go_at_call 25; (with_reducible refine (vitrineref15_Many.calls t337 t339 _ A12.out).mono ?_); rintro e w' ⟨rfl, ⟨nd, rfl⟩⟩))
        go_meet
        case rel => exact ⟨_, (((a0.size : Int) != (wrap64 (8 + (wrap64 (32 * t339)))))), (by first | rfl | (simp; done) | (simp [*]; done)), H', ⟨by first | omega | exact Nat.le_refl _⟩, ⟨by repeat (first | (with_reducible first | exact HB.out | apply below_alloc | apply pw_below_drewN | apply below_drew1) | exact HB.out)⟩⟩
       ·rw [if_neg c11] at H
        have c11b0 : (t338 == 0) = false := beq_eq_false_iff_ne.mpr c11
        have c11b1 : (t338 != 0) = true := bne_iff_ne.mpr c11
        (first | rw [c11b0] | (simp only [i64_w, i32_w]; rw [c11b0]) | skip)
        have H' := Aside0.mk H
        clear H
        go_wp2_with (first | ((with_reducible refine gate_callee (f := 37) rfl ?_); refine goesL_ (some 22) rfl rfl Try.func37 (by kernel_rfl) rfl #[.agg #[.int .i64 t336, .int .i64 t337, .int .i64 16, .int .i64 6, .int .i64 0]] rfl (by (try simp only [List.map_toArray, List.map_cons, List.map_nil]); first | done | rfl | (simp only [List.length_drop, List.length_take]; rfl) | (simp only [ByteArray.size_extract, Nat.min_self]; done) | (simp only [ByteArray.size_extract, Nat.min_self]; rfl)) ?_; (with_reducible refine (vitrineref08_Right.calls k t336 t337 16 6 0 t338 _ A10.out).mono ?_); rintro e w14 ⟨rfl, hb⟩; refine ⟨_, rfl, ?_⟩; have n0_ := Aside0.mk (below_step (by repeat (first | (with_reducible first | exact HB.out | apply below_alloc | apply pw_below_drewN | apply below_drew1) | exact HB.out)) hb); clear HB; have HB := n0_; clear n0_; (try clear hb); (try clear hb2); (try clear hk); (try clear hi)))
        go_meet
        case rel => exact ⟨_, (true), (by first | rfl | (simp; done) | (simp [*]; done)), H', ⟨by first | omega | exact Nat.le_refl _⟩, ⟨by repeat (first | (with_reducible first | exact HB.out | apply below_alloc | apply pw_below_drewN | apply below_drew1) | exact HB.out)⟩⟩
      case rest =>
       clear HC9
       try clear c1
       try clear c2
       try clear c2b0
       try clear c2b1
       try clear p2
       try clear c3
       try clear c3b0
       try clear c3b1
       try clear c4
       try clear c4b0
       try clear c4b1
       try clear c6
       try clear c6b0
       try clear c6b1
       try clear p6
       try clear c7
       try clear c7b0
       try clear c7b1
       try clear c11
       try clear c11b0
       try clear c11b1
       obtain ⟨kq, x32_8, rfl, HA, HJ8, HB⟩ := hcut
       cases kq with
       | zero => exact absurd HA.out (by simp [vitrineref15_Read.j0])
       | succ kj8 =>
        have H := HA.out
        clear HA
        simp only [vitrineref15_Read.j0] at H
        by_cases c15 : x32_8 = true
        ·subst c15
         have H1 : (some (0, 0, ([] : List ByteArray), 42)) = some (r1, r2, r3, r4) := by rw [if_pos rfl] at H; exact H
         clear H
         have H := H1
         clear H1
         simp only [Option.some.injEq, Prod.mk.injEq] at H
         obtain ⟨rfl, rfl, rfl, rfl⟩ := H
         go_wp2
         refine bodyPost_ret (results_list (rs := [.tmp 2, .tmp 3, .tmp 4, .tmp 5]) rfl (by simp) (.tmp (.tmp (.tmp (.tmp .nil))))) rfl ?_
         exact ⟨_, by first | rfl | (simp [errW_none, errW_some] <;> rfl) | (simp [*, errW_none, errW_some] <;> rfl), by first | exact Kd.R_nil _ _ _ _ _ | exact Kd.N_nil _ _ _ _ _ | exact Kd.V_nil _ _ _ _ _ | exact Kd.Q_nil _ _ _ _ _ | exact Kd.S_nil _ _ _ _ _, by repeat (first | (with_reducible first | exact HB.out | apply below_alloc | apply pw_below_drewN | apply below_drew1) | exact HB.out)⟩
        ·replace c15 := Bool.eq_false_iff.mpr c15
         subst c15
         have H1 : (vitrineref15_Read.l0 kj8 a0 t336 t337 ([] : List ByteArray) 0) = some (r1, r2, r3, r4) := by rw [if_neg (show ¬ (false = true) by decide)] at H; exact H
         clear H
         have H := H1
         clear H1
         have H' := Aside0.mk H
         clear H
         go_wp2
         go_loopg [8, 9] kj8 (fun kq v8 v9 w' => ∃ (x8_2 : List ByteArray) (x9_2 : Int), v9 = .int .i64 x9_2 ∧ Aside0 (vitrineref15_Read.l0 kq a0 t336 t337 x8_2 x9_2 = some (r1, r2, r3, r4)) ∧ Aside0 (kq ≤ kj8) ∧ Aside0 (Kd.R Kd.string 9 w' w.heap.size (fun _ => True) v8 x8_2) ∧ Aside0 (Below w.heap.size w w'))
         case atStart => exact ⟨(([] : List ByteArray)), (0), (by first | rfl | (simp; done) | (simp [*]; done)), H', ⟨Nat.le_refl _⟩, ⟨by first | exact Kd.R_nil _ _ _ _ _ | exact Kd.N_nil _ _ _ _ _ | exact Kd.V_nil _ _ _ _ _ | exact Kd.Q_nil _ _ _ _ _ | exact Kd.S_nil _ _ _ _ _⟩, ⟨by repeat (first | (with_reducible first | exact HB.out | apply below_alloc | apply pw_below_drewN | apply below_drew1) | exact HB.out)⟩⟩
         case round =>
          clear H'
          try clear c1
          try clear c2
          try clear c2b0
          try clear c2b1
          try clear p2
          try clear c3
          try clear c3b0
          try clear c3b1
          try clear c4
          try clear c4b0
          try clear c4b1
          try clear c6
          try clear c6b0
          try clear c6b1
          try clear p6
          try clear c7
          try clear c7b0
          try clear c7b1
          try clear c11
          try clear c11b0
          try clear c11b1
          try clear c15
          try clear p2
          try clear p6
          obtain ⟨x8_2, x9_2, rfl, HA, HK2, HO_8, HB⟩ := hrel
          cases gk with
          | zero => exact absurd HA.out (by simp [vitrineref15_Read.l0])
          | succ k2 =>
           have H := HA.out
           clear HA
           simp only [vitrineref15_Read.l0] at H
           replace H := Option.bind_eq_some_iff.mp H
           obtain ⟨t340, A160, H⟩ := H
           replace H : (if x9_2 < t340 then (if 0 ≤ (wrap64 (8 + (wrap64 (32 * x9_2)))) then (if (wrap64 (8 + (wrap64 (32 * x9_2)))) ≤ (wrap64 (40 + (wrap64 (32 * x9_2)))) then (if (wrap64 (40 + (wrap64 (32 * x9_2)))) ≤ (a0.size : Int) then (if x8_2.length < 8796093022208 then (vitrineref15_Read.l0 k2 a0 t336 t337 (x8_2 ++ [a0.extract ((wrap64 (8 + (wrap64 (32 * x9_2)))) : Int).toNat ((wrap64 (40 + (wrap64 (32 * x9_2)))) : Int).toNat]) (wrap64 (x9_2 + 1))) else (none)) else (none)) else (none)) else (none)) else (some (t336, t337, x8_2, 0))) = some (r1, r2, r3, r4) := H
           have A16 := Aside0.mk A160
           clear A160
           by_cases c17 : x9_2 < t340
           ·rw [if_pos c17] at H
            have c17b0 : decide (x9_2 < t340) = true := decide_eq_true c17
            clear c17
            obtain ⟨ji18, hji18⟩ : ∃ j_ : Int, (wrap64 (8 + (wrap64 (32 * x9_2)))) = j_ := ⟨_, rfl⟩
            replace H : (if 0 ≤ (ji18) then (if (ji18) ≤ (wrap64 (40 + (wrap64 (32 * x9_2)))) then (if (wrap64 (40 + (wrap64 (32 * x9_2)))) ≤ (a0.size : Int) then (if x8_2.length < 8796093022208 then (vitrineref15_Read.l0 k2 a0 t336 t337 (x8_2 ++ [a0.extract ((ji18) : Int).toNat ((wrap64 (40 + (wrap64 (32 * x9_2)))) : Int).toNat]) (wrap64 (x9_2 + 1))) else (none)) else (none)) else (none)) else (none)) = some (r1, r2, r3, r4) := by first | (rw [hji18] at H; exact H) | (simp only [hji18] at H ⊢; exact H)
            (try rw [hji18] at A16)
            have hji18w : (IntKind.i64.wrap (8 + (wrap64 (32 * x9_2)))) = ji18 := (i64_w _).trans hji18
            by_cases c19 : 0 ≤ (ji18)
            ·rw [if_pos c19] at H
             have c19b0 := eq_true c19
             have c19b1 : decide (0 ≤ (ji18)) = true := decide_eq_true c19
             clear c19
             by_cases c20 : (ji18) ≤ (wrap64 (40 + (wrap64 (32 * x9_2))))
             ·rw [if_pos c20] at H
              have c20b0 := eq_true c20
              have c20b1 : decide ((ji18) ≤ (wrap64 (40 + (wrap64 (32 * x9_2))))) = true := decide_eq_true c20
              by_cases c21 : (wrap64 (40 + (wrap64 (32 * x9_2)))) ≤ (a0.size : Int)
              ·rw [if_pos c21] at H
               have c21b0 := eq_true c21
               have c21b1 : decide ((wrap64 (40 + (wrap64 (32 * x9_2)))) ≤ (a0.size : Int)) = true := decide_eq_true c21
               by_cases c22 : x8_2.length < 8796093022208
               ·rw [if_pos c22] at H
                have LMc22 := Aside0.mk c22
                clear c22
                obtain ⟨y341, hy341⟩ : ∃ y_ : List ByteArray, y_ = (x8_2 ++ [a0.extract ((ji18) : Int).toNat ((wrap64 (40 + (wrap64 (32 * x9_2)))) : Int).toNat]) := ⟨_, rfl⟩
                replace H : (vitrineref15_Read.l0 k2 a0 t336 t337 y341 (wrap64 (x9_2 + 1))) = some (r1, r2, r3, r4) := by first | (rw [hy341]; with_reducible exact H) | (have H2_ := (Option.bind_some _ _).symm.trans H; rw [hy341]; with_reducible exact H2_) | (have H2_ := (Option.bind_some _ _).symm.trans H; with_reducible exact H2_) | with_reducible exact H | (rw [hy341]; exact H) | exact H
                have Ny341 := Aside0.mk hy341
                clear hy341
                have H' := Aside0.mk H
                clear H
                go_wp2_with (first | ((with_reducible refine gate_callee (f := 25) rfl ?_); refine goesL_ (some 35) rfl rfl Try.func25 (by kernel_rfl) rfl #[.int .i64 t337] rfl (by (try simp only [List.map_toArray, List.map_cons, List.map_nil]); first | done | rfl | (simp only [List.length_drop, List.length_take]; rfl) | (simp only [ByteArray.size_extract, Nat.min_self]; done) | (simp only [ByteArray.size_extract, Nat.min_self]; rfl)) ?_; (with_reducible refine (vitrineref15_Many.calls t337 t340 _ A16.out).mono ?_); rintro e w' ⟨rfl, ⟨nd, rfl⟩⟩; refine ⟨_, rfl, ?_⟩) | ((with_reducible refine gate_builtin (b := .append) (xs := #[.tmp 39, .tmp 48]) rfl ?_); (try (refine gate_guard (by rfl) ?_; dsimp only)); at_builtin; refine Kd.R_append Kd.string (w0 := w) w.heap.size rfl (.tmp 39) (.tmp 48) 24 9 (.string ⟨#[]⟩) 16 rfl Try.underlying24 info9 rfl (by decide) (by omega) u8 x8_2 (a0.extract ((ji18) : Int).toNat ((wrap64 (40 + (wrap64 (32 * x9_2)))) : Int).toNat) [.string (a0.extract ((ji18) : Int).toNat ((wrap64 (40 + (wrap64 (32 * x9_2)))) : Int).toNat)] (fun _ => True) (fun _ => False) rfl rfl ?aP (fun _ hk => hk.elim) ?aF ?aO ?aB ?aS ?aL ?_; (case aP => exact rfl); (case aB => exact (by repeat (first | (with_reducible first | exact HB.out | apply below_alloc | apply pw_below_drewN | apply below_drew1) | exact HB.out))); (case aF => exact (fun _ _ => trivial)); (case aO => exact (by (with_reducible repeat (first | apply Kd.R_alloc | apply Kd.R_drewN | apply Kd.R_drew)); exact HO_8.out)); (case aS => exact (below_size (by repeat (first | (with_reducible first | exact HB.out | apply below_alloc | apply pw_below_drewN | apply below_drew1) | exact HB.out)))); (case aL => have := LMc22.out; omega); intro v342 w23 ho hb hg hat; rw [← Ny341.out] at ho; have n0_ := Aside0.mk (hb); have n1_ := Aside0.mk (ho); clear HB; clear HO_8; have HB := n0_; have HO343 := n1_; clear n0_ n1_; clear ho hb hg hat))
                go_roundg k2
                case measure => have := HJ8.out; have := HK2.out; omega
                case rel => exact ⟨(y341), (wrap64 (x9_2 + 1)), (by first | rfl | (simp; done) | (simp [*]; done)), H', ⟨by have := HJ8.out; have := HK2.out; omega⟩, ⟨by (with_reducible repeat (first | apply Kd.R_alloc | apply Kd.R_drewN | apply Kd.R_drew)); exact HO343.out⟩, ⟨by repeat (first | (with_reducible first | exact HB.out | apply below_alloc | apply pw_below_drewN | apply below_drew1) | exact HB.out)⟩⟩
               ·rw [if_neg c22] at H
                exact absurd H (by simp)
              ·rw [if_neg c21] at H
               exact absurd H (by simp)
             ·rw [if_neg c20] at H
              exact absurd H (by simp)
            ·rw [if_neg c19] at H
             exact absurd H (by simp)
           ·rw [if_neg c17] at H
            have c17b0 : decide (x9_2 < t340) = false := decide_eq_false c17
            clear c17
            simp only [Option.some.injEq, Prod.mk.injEq] at H
            obtain ⟨rfl, rfl, rfl, rfl⟩ := H
            go_wp2_with (first | ((with_reducible refine gate_callee (f := 25) rfl ?_); refine goesL_ (some 35) rfl rfl Try.func25 (by kernel_rfl) rfl #[.int .i64 t337] rfl (by (try simp only [List.map_toArray, List.map_cons, List.map_nil]); first | done | rfl | (simp only [List.length_drop, List.length_take]; rfl) | (simp only [ByteArray.size_extract, Nat.min_self]; done) | (simp only [ByteArray.size_extract, Nat.min_self]; rfl)) ?_; (with_reducible refine (vitrineref15_Many.calls t337 t340 _ A16.out).mono ?_); rintro e w' ⟨rfl, ⟨nd, rfl⟩⟩; refine ⟨_, rfl, ?_⟩))
            refine bodyPost_ret (results_list (rs := [.tmp 2, .tmp 3, .tmp 4, .tmp 5]) rfl (by simp) (.tmp (.tmp (.tmp (.tmp .nil))))) rfl ?_
            exact ⟨_, by first | rfl | (simp [errW_none, errW_some] <;> rfl) | (simp [*, errW_none, errW_some] <;> rfl), by (with_reducible repeat (first | apply Kd.R_alloc | apply Kd.R_drewN | apply Kd.R_drew)); exact HO_8.out, by repeat (first | (with_reducible first | exact HB.out | apply below_alloc | apply pw_below_drewN | apply below_drew1) | exact HB.out)⟩
     ·rw [if_neg c7] at H
      exact absurd H (by simp)
    ·rw [if_neg c6] at H
     exact absurd H (by simp)
   ·rw [if_neg c4] at H
    exact absurd H (by simp)
  ·rw [if_neg c3] at H
   exact absurd H (by simp)

end Go.Proofs.Ytbonmhgihedjpaa.PL15
