/- Printed for this claim by a program of this session over the kit's print program: the Go functions as Lean functions, and proofs that the calls come to these answers. No conditions. -/
import Derived.Test.YtejljcglbkjgkaaXH
import Derived.Test.YtejljcglbkjgkaaXPL12x1
import Derived.Test.YtejljcglbkjgkaaXPL12x33
namespace Go.Proofs.Ytejljcglbkjgkaa.PL12
open Go.RowKit Go.Proofs.YtejljcglbkjgkaaW.PrintWords Go.Proofs.YtejljcglbkjgkaaW.PrintLast Go.Proofs.YtejljcglbkjgkaaW.PrintMore
attribute [local go_sem] max2_int min2_int max_two min_two max_three min_three max_four min_four   -- for this text's walks alone
set_option linter.unusedVariables false
set_option linter.unusedSimpArgs false

mutual
def vitrineref11_Unpack.j0 : Nat → ByteArray → Int → Int → Bool → Option (List Int × Int)
 | 0, _, _, _, _ => none
 | k + 1, x0, x1, x2, x22 => if x22 = true then (some (([] : List Int), 1)) else (if (wrap64 (x2 * x1)) > (wrap64 (8 * (x0.size : Int))) then (some (([] : List Int), 30)) else (vitrineref11_Unpack.l0 k x0 x1 x2 ([] : List Int) 0))
def vitrineref11_Unpack.l0 : Nat → ByteArray → Int → Int → List Int → Int → Option (List Int × Int)
 | 0, _, _, _, _, _ => none
 | k + 1, x0, x1, x2, x8, x9 => if x9 < x2 then (vitrineref11_Unpack.l1 k x0 x1 x2 x8 x9 0 (wrap64 (x9 * x1))) else (some (x8, 0))
def vitrineref11_Unpack.l1 : Nat → ByteArray → Int → Int → List Int → Int → Int → Int → Option (List Int × Int)
 | 0, _, _, _, _, _, _, _ => none
 | k + 1, x0, x1, x2, x8, x9, x10, x11 => if x11 < (wrap64 ((wrap64 (x9 + 1)) * x1)) then (if 0 ≤ (wrap64 (Int.tdiv x11 8)) then (if (wrap64 (Int.tdiv x11 8)) < (x0.size : Int) then (if 0 ≤ (wrap64 (7 - (Int.tmod x11 8))) then (vitrineref11_Unpack.l1 k x0 x1 x2 x8 x9 (wrap64 ((wrap64 (2 * x10)) + (wrap64 (Go.bits .and .u8 (shr .u8 (bt x0 (wrap64 (Int.tdiv x11 8))) (wrap64 (7 - (Int.tmod x11 8)))) 1)))) (wrap64 (x11 + 1))) else (none)) else (none)) else (none)) else (if x8.length < 17592186044416 then (vitrineref11_Unpack.l0 k x0 x1 x2 (x8 ++ [x10]) (wrap64 (x9 + 1))) else (none))
end
def vitrineref11_Unpack.f (k : Nat) (a0 : ByteArray) (a1 : Int) (a2 : Int) : Option (List Int × Int) := (vitrineref11_Depth.f a1).bind fun t359 => (if t359 = true then (if a2 < 0 then (vitrineref11_Unpack.j0 k a0 a1 a2 true) else (vitrineref11_Unpack.j0 k a0 a1 a2 (decide (a2 > 4096)))) else (vitrineref11_Unpack.j0 k a0 a1 a2 true))
set_option maxHeartbeats 40000000 in
set_option maxRecDepth 100000 in
theorem vitrineref11_Unpack.calls (k : Nat) (a0 : ByteArray) (a1 : Int) (a2 : Int) (r1 : List Int) (r2 : Int) (w : World) (h : vitrineref11_Unpack.f k a0 a1 a2 = some (r1, r2)) :
  Calls Try.prog 29 #[.string a0, .int .i64 a1, .int .i64 a2] w fun e w' => ∃ v0_ : Value, e = .returned (.tuple #[v0_, .int .i64 r2]) ∧ Kd.R (Kd.int .i64) 3 w' w.heap.size (fun _ => True) v0_ r1 ∧ Below w.heap.size w w' := by
 have HB := Aside0.mk (Below.refl w.heap.size w)
 have H : ((vitrineref11_Depth.f a1).bind fun t359 => (if t359 = true then (if a2 < 0 then (vitrineref11_Unpack.j0 k a0 a1 a2 true) else (vitrineref11_Unpack.j0 k a0 a1 a2 (decide (a2 > 4096)))) else (vitrineref11_Unpack.j0 k a0 a1 a2 true))) = some (r1, r2) := h
 clear h
 have HC4 := Aside0.mk H
 clear H
 go_enter Try.func29, Try.ntmps29
 go_upto_region 1 with (fail)
 go_cut [22] (fun v22 wc => ∃ (kq : Nat) (x22_3 : Bool), v22 = .bool x22_3 ∧ Aside0 (vitrineref11_Unpack.j0 kq a0 a1 a2 x22_3 = some (r1, r2)) ∧ Aside0 (kq ≤ k) ∧ Aside0 (Below w.heap.size w wc))
 case first =>
  have H := HC4.out
  clear HC4
  replace H := Option.bind_eq_some_iff.mp H
  obtain ⟨t359, A50, H⟩ := H
  replace H : (if t359 = true then (if a2 < 0 then (vitrineref11_Unpack.j0 k a0 a1 a2 true) else (vitrineref11_Unpack.j0 k a0 a1 a2 (decide (a2 > 4096)))) else (vitrineref11_Unpack.j0 k a0 a1 a2 true)) = some (r1, r2) := H
  have A5 := Aside0.mk A50
  clear A50
  by_cases c6 : t359 = true
  ·subst c6
   have H1 : (if a2 < 0 then (vitrineref11_Unpack.j0 k a0 a1 a2 true) else (vitrineref11_Unpack.j0 k a0 a1 a2 (decide (a2 > 4096)))) = some (r1, r2) := by rw [if_pos rfl] at H; exact H
   clear H
   have H := H1
   clear H1
   by_cases c7 : a2 < 0
   ·rw [if_pos c7] at H
    have c7b0 : decide (a2 < 0) = true := decide_eq_true c7
    clear c7
    (first | rw [c7b0] | (simp only [i64_w, i32_w]; rw [c7b0]) | skip)
    have H' := Aside0.mk H
    clear H
    go_wp2_with (first | ((with_reducible refine gate_callee (f := 48) rfl ?_); refine gz 13 Try.func48 #[.int .i64 a1] ?_; (with_reducible refine (vitrineref11_Depth.calls a1 true _ A5.out).mono ?_); rintro e w' ⟨rfl, ⟨nd, rfl⟩⟩; refine ⟨_, rfl, ?_⟩))
    go_meet
    case rel => exact ⟨_, (true), (by first | rfl | (simp; done) | (simp [*]; done)), H', ⟨by first | omega | exact Nat.le_refl _⟩, ⟨hz HB⟩⟩
   ·rw [if_neg c7] at H
    have c7b0 : decide (a2 < 0) = false := decide_eq_false c7
    clear c7
    (first | rw [c7b0] | (simp only [i64_w, i32_w]; rw [c7b0]) | skip)
    have H' := Aside0.mk H
    clear H
    go_wp2_with (first | ((with_reducible refine gate_callee (f := 48) rfl ?_); refine gz 13 Try.func48 #[.int .i64 a1] ?_; (with_reducible refine (vitrineref11_Depth.calls a1 true _ A5.out).mono ?_); rintro e w' ⟨rfl, ⟨nd, rfl⟩⟩; refine ⟨_, rfl, ?_⟩))
    go_meet
    case rel => exact ⟨_, (decide (a2 > 4096)), (by first | rfl | (simp; done) | (simp [*]; done)), H', ⟨by first | omega | exact Nat.le_refl _⟩, ⟨hz HB⟩⟩
  ·replace c6 := Bool.eq_false_iff.mpr c6
   subst c6
   have H1 : (vitrineref11_Unpack.j0 k a0 a1 a2 true) = some (r1, r2) := by rw [if_neg (show ¬ (false = true) by decide)] at H; exact H
   clear H
   have H := H1
   clear H1
   have H' := Aside0.mk H
   clear H
   go_wp2_with (first | ((with_reducible refine gate_callee (f := 48) rfl ?_); refine gz 13 Try.func48 #[.int .i64 a1] ?_; (with_reducible refine (vitrineref11_Depth.calls a1 false _ A5.out).mono ?_); rintro e w' ⟨rfl, ⟨nd, rfl⟩⟩; refine ⟨_, rfl, ?_⟩))
   go_meet
   case rel => exact ⟨_, (true), (by first | rfl | (simp; done) | (simp [*]; done)), H', ⟨by first | omega | exact Nat.le_refl _⟩, ⟨hz HB⟩⟩
 case rest =>
  clear HC4
  obtain ⟨kq, x22_3, rfl, HA, HJ3, HB⟩ := hcut
  cases kq with
  | zero => exact absurd HA.out (by simp [vitrineref11_Unpack.j0])
  | succ kj3 =>
   have H := HA.out
   clear HA
   simp only [vitrineref11_Unpack.j0] at H
   by_cases c8 : x22_3 = true
   ·subst c8
    have H1 : (some (([] : List Int), 1)) = some (r1, r2) := by rw [if_pos rfl] at H; exact H
    clear H
    have H := H1
    clear H1
    simp only [Option.some.injEq, Prod.mk.injEq] at H
    obtain ⟨rfl, rfl⟩ := H
    go_wp2
    go_ret2
    exact ⟨_, by first | rfl | (simp [errW_none, errW_some] <;> rfl) | (simp [*, errW_none, errW_some] <;> rfl), by first | exact Kd.R_nil _ _ _ _ _ | exact Kd.N_nil _ _ _ _ _ | exact Kd.V_nil _ _ _ _ _ | exact Kd.Q_nil _ _ _ _ _ | exact Kd.S_nil _ _ _ _ _, by repeat (first | (with_reducible first | exact HB.out | apply below_alloc | apply pw_below_drewN | apply below_drew1) | exact HB.out)⟩
   ·replace c8 := Bool.eq_false_iff.mpr c8
    subst c8
    have H1 : (if (wrap64 (a2 * a1)) > (wrap64 (8 * (a0.size : Int))) then (some (([] : List Int), 30)) else (vitrineref11_Unpack.l0 kj3 a0 a1 a2 ([] : List Int) 0)) = some (r1, r2) := by rw [if_neg (show ¬ (false = true) by decide)] at H; exact H
    clear H
    have H := H1
    clear H1
    by_cases c9 : (wrap64 (a2 * a1)) > (wrap64 (8 * (a0.size : Int)))
    ·rw [if_pos c9] at H
     have c9b0 : decide ((wrap64 (8 * (a0.size : Int))) < (wrap64 (a2 * a1))) = true := decide_eq_true c9
     clear c9
     simp only [Option.some.injEq, Prod.mk.injEq] at H
     obtain ⟨rfl, rfl⟩ := H
     go_wp2
     go_ret2
     exact ⟨_, by first | rfl | (simp [errW_none, errW_some] <;> rfl) | (simp [*, errW_none, errW_some] <;> rfl), by first | exact Kd.R_nil _ _ _ _ _ | exact Kd.N_nil _ _ _ _ _ | exact Kd.V_nil _ _ _ _ _ | exact Kd.Q_nil _ _ _ _ _ | exact Kd.S_nil _ _ _ _ _, by repeat (first | (with_reducible first | exact HB.out | apply below_alloc | apply pw_below_drewN | apply below_drew1) | exact HB.out)⟩
    ·rw [if_neg c9] at H
     have c9b0 : decide ((wrap64 (8 * (a0.size : Int))) < (wrap64 (a2 * a1))) = false := decide_eq_false c9
     clear c9
     have H' := Aside0.mk H
     clear H
     go_wp2
     go_loopg [8, 9] kj3 (fun kq v8 v9 w' => ∃ (x8_2 : List Int) (x9_2 : Int), v9 = .int .i64 x9_2 ∧ Aside0 (vitrineref11_Unpack.l0 kq a0 a1 a2 x8_2 x9_2 = some (r1, r2)) ∧ Aside0 (kq ≤ kj3) ∧ Aside0 (Kd.R (Kd.int .i64) 3 w' w.heap.size (fun _ => True) v8 x8_2) ∧ Aside0 (Below w.heap.size w w'))
     case atStart => exact ⟨(([] : List Int)), (0), (by first | rfl | (simp; done) | (simp [*]; done)), H', ⟨Nat.le_refl _⟩, ⟨by first | exact Kd.R_nil _ _ _ _ _ | exact Kd.N_nil _ _ _ _ _ | exact Kd.V_nil _ _ _ _ _ | exact Kd.Q_nil _ _ _ _ _ | exact Kd.S_nil _ _ _ _ _⟩, ⟨hz HB⟩⟩
     case round =>
      clear H'
      try clear c8
      try clear c9
      try clear c9b0
      obtain ⟨x8_2, x9_2, rfl, HA, HK2, HO_8, HB⟩ := hrel
      cases gk with
      | zero => exact absurd HA.out (by simp [vitrineref11_Unpack.l0])
      | succ k2 =>
       have H := HA.out
       clear HA
       simp only [vitrineref11_Unpack.l0] at H
       by_cases c10 : x9_2 < a2
       ·rw [if_pos c10] at H
        have c10b0 : decide (x9_2 < a2) = true := decide_eq_true c10
        clear c10
        have H' := Aside0.mk H
        clear H
        go_wp2
        go_loopg [10, 11] k2 (fun kq v10 v11 w' => ∃ (x10_3 : Int) (x11_3 : Int), v10 = .int .i64 x10_3 ∧ v11 = .int .i64 x11_3 ∧ Aside0 (vitrineref11_Unpack.l1 kq a0 a1 a2 x8_2 x9_2 x10_3 x11_3 = some (r1, r2)) ∧ Aside0 (kq ≤ k2) ∧ Aside0 (Kd.R (Kd.int .i64) 3 w' w.heap.size (fun _ => True) u8 x8_2) ∧ Aside0 (Below w.heap.size w w'))
        case atStart => exact ⟨(0), (wrap64 (x9_2 * a1)), (by first | rfl | (simp; done) | (simp [*]; done)), (by first | rfl | (simp; done) | (simp [*]; done)), H', ⟨Nat.le_refl _⟩, ⟨oz HO_8⟩, ⟨hz HB⟩⟩
        case round =>
         clear H'
         try clear c8
         try clear c9
         try clear c9b0
         try clear c10
         try clear c10b0
         obtain ⟨x10_3, x11_3, rfl, rfl, HA, HK3, HO_8, HB⟩ := hrel
         cases gk with
         | zero => exact absurd HA.out (by simp [vitrineref11_Unpack.l1])
         | succ k3 =>
          have H := HA.out
          clear HA
          simp only [vitrineref11_Unpack.l1] at H
          by_cases c11 : x11_3 < (wrap64 ((wrap64 (x9_2 + 1)) * a1))
          ·rw [if_pos c11] at H
           have c11b0 : decide (x11_3 < (wrap64 ((wrap64 (x9_2 + 1)) * a1))) = true := decide_eq_true c11
           clear c11
           obtain ⟨ji12, hji12⟩ : ∃ j_ : Int, (wrap64 (Int.tdiv x11_3 8)) = j_ := ⟨_, rfl⟩
           replace H : (if 0 ≤ (ji12) then (if (ji12) < (a0.size : Int) then (if 0 ≤ (wrap64 (7 - (Int.tmod x11_3 8))) then (vitrineref11_Unpack.l1 k3 a0 a1 a2 x8_2 x9_2 (wrap64 ((wrap64 (2 * x10_3)) + (wrap64 (Go.bits .and .u8 (shr .u8 (bt a0 (ji12)) (wrap64 (7 - (Int.tmod x11_3 8)))) 1)))) (wrap64 (x11_3 + 1))) else (none)) else (none)) else (none)) = some (r1, r2) := by first | (rw [hji12] at H; exact H) | (simp only [hji12] at H ⊢; exact H)
           have hji12w : (IntKind.i64.wrap (Int.tdiv x11_3 8)) = ji12 := (i64_w _).trans hji12
           by_cases c13 : 0 ≤ (ji12)
           ·rw [if_pos c13] at H
            have c13b0 : decide (0 ≤ (ji12)) = true := decide_eq_true c13
            clear c13
            by_cases c14 : (ji12) < (a0.size : Int)
            ·rw [if_pos c14] at H
             have c14b0 : decide ((ji12) < (a0.size : Int)) = true := decide_eq_true c14
             clear c14
             obtain ⟨ji16, hji16⟩ : ∃ j_ : Int, (wrap64 (7 - (Int.tmod x11_3 8))) = j_ := ⟨_, rfl⟩
             replace H : (if 0 ≤ (ji16) then (vitrineref11_Unpack.l1 k3 a0 a1 a2 x8_2 x9_2 (wrap64 ((wrap64 (2 * x10_3)) + (wrap64 (Go.bits .and .u8 (shr .u8 (bt a0 (ji12)) (ji16)) 1)))) (wrap64 (x11_3 + 1))) else (none)) = some (r1, r2) := by first | (rw [hji16] at H; exact H) | (simp only [hji16] at H ⊢; exact H)
             have hji16w : (IntKind.i64.wrap (7 - (Int.tmod x11_3 8))) = ji16 := (i64_w _).trans hji16
             by_cases c17 : 0 ≤ (ji16)
             ·rw [if_pos c17] at H
              have c17b0 := eq_true c17
              have c17b1 : decide (0 ≤ (ji16)) = true := decide_eq_true c17
              clear c17
              obtain ⟨ji18, hji18⟩ : ∃ j_ : Int, (shr .u8 (bt a0 (ji12)) (ji16)) = j_ := ⟨_, rfl⟩
              replace H : (vitrineref11_Unpack.l1 k3 a0 a1 a2 x8_2 x9_2 (wrap64 ((wrap64 (2 * x10_3)) + (wrap64 (Go.bits .and .u8 (ji18) 1)))) (wrap64 (x11_3 + 1))) = some (r1, r2) := by first | (rw [hji18] at H; exact H) | (simp only [hji18] at H ⊢; exact H)
              have hji18_ : ((bt a0 (ji12)) / 2 ^ min (ji16).toNat 8) = ji18 := hji18
              have hji18z : (ji16) ≤ 8 → ((bt a0 (ji12)) / 2 ^ (ji16).toNat) = ji18 := shr_small hji18
              have H' := Aside0.mk H
              clear H
              have p15 : 0 ≤ ((ji12) : Int) := of_decide_eq_true (by first | (with_reducible assumption) | assumption)
              have q15 : (ji12) < (a0.size : Int) := of_decide_eq_true (by first | (with_reducible assumption) | assumption)
              have hx15 := bt_at a0 (ji12)
              replace p15 := eq_true p15
              replace q15 := eq_true q15
              go_wp2
              go_roundg k3
              case measure => have := HJ3.out; have := HK2.out; have := HK3.out; omega
              case rel => exact ⟨(wrap64 ((wrap64 (2 * x10_3)) + (wrap64 (Go.bits .and .u8 (ji18) 1)))), (wrap64 (x11_3 + 1)), (by first | rfl | (simp; done) | (simp only [← hji18] <;> (first | rfl | simp)) | (simp [*]; done)), (by first | rfl | (simp; done) | (simp [*]; done)), H', ⟨by have := HJ3.out; have := HK2.out; have := HK3.out; omega⟩, ⟨oz HO_8⟩, ⟨hz HB⟩⟩
             ·rw [if_neg c17] at H
              exact absurd H (by simp)
            ·rw [if_neg c14] at H
             exact absurd H (by simp)
           ·rw [if_neg c13] at H
            exact absurd H (by simp)
          ·rw [if_neg c11] at H
           have c11b0 : decide (x11_3 < (wrap64 ((wrap64 (x9_2 + 1)) * a1))) = false := decide_eq_false c11
           clear c11
           by_cases c19 : x8_2.length < 17592186044416
           ·rw [if_pos c19] at H
            have LMc19 := Aside0.mk c19
            clear c19
            obtain ⟨y360, hy360⟩ : ∃ y_ : List Int, y_ = (x8_2 ++ [x10_3]) := ⟨_, rfl⟩
            replace H : (vitrineref11_Unpack.l0 k3 a0 a1 a2 y360 (wrap64 (x9_2 + 1))) = some (r1, r2) := by first | (rw [hy360]; with_reducible exact H) | (have H2_ := (Option.bind_some _ _).symm.trans H; rw [hy360]; with_reducible exact H2_) | (have H2_ := (Option.bind_some _ _).symm.trans H; with_reducible exact H2_) | with_reducible exact H | (rw [hy360]; exact H) | exact H
            have Ny360 := Aside0.mk hy360
            clear hy360
            have H' := Aside0.mk H
            clear H
            go_wp2_with (first | ((with_reducible refine gate_builtin (b := .append) (xs := #[.tmp 59, .tmp 61]) rfl ?_); at_builtin; refine Kd.R_append (Kd.int .i64) (w0 := w) w.heap.size rfl (.tmp 59) (.tmp 61) 37 3 (.int .i64 0) 8 rfl Try.underlying37 info3 rfl (by decide) (by omega) u8 x8_2 x10_3 [.int .i64 x10_3] (fun _ => True) (fun _ => False) rfl rfl ?aP (fun _ hk => hk.elim) ?aF ?aO ?aB ?aS ?aL ?_; (case aP => exact rfl); (case aB => exact (hz HB)); (case aF => exact (fun _ _ => trivial)); (case aO => exact (oz HO_8)); (case aS => exact (below_size (hz HB))); (case aL => have := LMc19.out; omega); intro v361 w20 ho hb hg hat; rw [← Ny360.out] at ho; have n0_ := Aside0.mk (hb); have n1_ := Aside0.mk (ho); clear HB; clear HO_8; have HB := n0_; have HO362 := n1_; clear n0_ n1_; clear ho hb hg hat))
            go_roundg k3
            case measure => have := HJ3.out; have := HK2.out; have := HK3.out; omega
            case rel => exact ⟨(y360), (wrap64 (x9_2 + 1)), (by first | rfl | (simp; done) | (simp [*]; done)), H', ⟨by have := HJ3.out; have := HK2.out; have := HK3.out; omega⟩, ⟨oz HO362⟩, ⟨hz HB⟩⟩
           ·rw [if_neg c19] at H
            exact absurd H (by simp)
       ·rw [if_neg c10] at H
        have c10b0 : decide (x9_2 < a2) = false := decide_eq_false c10
        clear c10
        simp only [Option.some.injEq, Prod.mk.injEq] at H
        obtain ⟨rfl, rfl⟩ := H
        go_wp2
        go_ret2
        exact ⟨_, by first | rfl | (simp [errW_none, errW_some] <;> rfl) | (simp [*, errW_none, errW_some] <;> rfl), by (with_reducible repeat (first | apply Kd.R_alloc | apply Kd.R_drewN | apply Kd.R_drew)); exact HO_8.out, by repeat (first | (with_reducible first | exact HB.out | apply below_alloc | apply pw_below_drewN | apply below_drew1) | exact HB.out)⟩

end Go.Proofs.Ytejljcglbkjgkaa.PL12

namespace Go.Proofs.Ytejljcglbkjgkaa.PL12
open Go.RowKit Go.Proofs.YtejljcglbkjgkaaW.PrintWords Go.Proofs.YtejljcglbkjgkaaW.PrintLast Go.Proofs.YtejljcglbkjgkaaW.PrintMore
attribute [local go_sem] max2_int min2_int max_two min_two max_three min_three max_four min_four   -- for this text's walks alone
set_option linter.unusedVariables false
set_option linter.unusedSimpArgs false

def vitrineref11_two.f (a0 : Int) : Option (ByteArray) := some (strOfNums (([(wrap64 (Int.tdiv a0 256)) % 256, (a0) % 256] : List Int)))
set_option maxHeartbeats 40000000 in
set_option maxRecDepth 100000 in
theorem vitrineref11_two.calls (a0 : Int) (r : ByteArray) (w : World) (h : vitrineref11_two.f a0 = some r) :
  Calls Try.prog 49 #[.int .i64 a0] w fun e w' => e = .returned (.string r) ∧ Below w.heap.size w w' := by
 have HB := Aside0.mk (Below.refl w.heap.size w)
 have H : (some (strOfNums (([(wrap64 (Int.tdiv a0 256)) % 256, (a0) % 256] : List Int)))) = some r := h
 clear h
 obtain ⟨y363, hy363⟩ : ∃ y_ : List Int, y_ = (([(wrap64 (Int.tdiv a0 256)) % 256, (a0) % 256] : List Int)) := ⟨_, rfl⟩
 replace H : (some (strOfNums y363)) = some r := by first | (rw [hy363]; with_reducible exact H) | (have H2_ := (Option.bind_some _ _).symm.trans H; rw [hy363]; with_reducible exact H2_) | (have H2_ := (Option.bind_some _ _).symm.trans H; with_reducible exact H2_) | with_reducible exact H | (rw [hy363]; exact H) | exact H
 have Ny363 := Aside0.mk hy363
 clear hy363
 obtain rfl := Option.some.inj H
 go_enter Try.func49, Try.ntmps49
 go_wp2_with (first | ((with_reducible refine gate_dst (N := 8) rfl ?_); refine Kd.R_lit (Kd.int .u8) _ 5 ?hg (N := 8) ?hd (xs := ([(wrap64 (Int.tdiv a0 256)) % 256, (a0) % 256] : List Int)) (inner := [.int .u8 ((wrap64 (Int.tdiv a0 256)) % 256), .int .u8 ((a0) % 256)]) (ok := fun _ => True) (okp := fun _ => True) ?hr ?hp (fun _ hk => hk) trivial (Below.refl _ _) (Nat.le_refl _) (by simp) ?_; (case hd => rfl); (case hg => rfl); (case hr => first | (go_simp; done) | (go_simp; rfl)); (case hp => exact (Reps.one (show Kd.M (Kd.int .u8) _ _ _ ((wrap64 (Int.tdiv a0 256)) % 256) [.int .u8 ((wrap64 (Int.tdiv a0 256)) % 256)] from rfl) (Reps.one (show Kd.M (Kd.int .u8) _ _ _ ((a0) % 256) [.int .u8 ((a0) % 256)] from rfl) (Reps.none _ _)))); intro v364 w2 ho3 hb hg_ hnew_; clear hg_ hnew_; (first | rw [← Ny363.out] at ho3 | (simp only [Int.reduceToNat] at ho3; rw [← Ny363.out] at ho3)); have n0_ := Aside0.mk (Kd.R_lower ho3 (below_size (hz HB))); have n1_ := Aside0.mk (below_step (hz HB) hb); clear HB; have HO365 := n0_; have HB := n1_; clear n0_ n1_; clear hb ho3; have hcv4 := own_string (P := Try.prog) Try.underlying45 Try.underlying5 Try.underlying9 (Kd.own_of_R HO365.out)))
 go_ret
 exact ⟨by first | rfl | (simp [errW_none, errW_some] <;> rfl) | (simp [*, errW_none, errW_some] <;> rfl), by repeat (first | (with_reducible first | exact HB.out | apply below_alloc | apply pw_below_drewN | apply below_drew1) | exact HB.out)⟩

def vitrineref11_Wide.f (a0 : Int) (a1 : Int) : Option (Int) := (vitrineref11_Depth.f a1).bind fun t366 => (if t366 = true then (if 0 ≤ a1 then (if (wrap64 ((shl .i64 1 a1) - 1)) = 0 then (none) else (some (wrap64 (Int.tdiv (wrap64 ((Go.bits .and .i64 a0 (wrap64 ((shl .i64 1 a1) - 1))) * 65535)) (wrap64 ((shl .i64 1 a1) - 1)))))) else (none)) else (some 0))
set_option maxHeartbeats 40000000 in
set_option maxRecDepth 100000 in
theorem vitrineref11_Wide.calls (a0 : Int) (a1 : Int) (r : Int) (w : World) (h : vitrineref11_Wide.f a0 a1 = some r) :
  Calls Try.prog 50 #[.int .i64 a0, .int .i64 a1] w fun e w' => e = .returned (.int .i64 r) ∧ Drawn0 w w' := by
 have H : ((vitrineref11_Depth.f a1).bind fun t366 => (if t366 = true then (if 0 ≤ a1 then (if (wrap64 ((shl .i64 1 a1) - 1)) = 0 then (none) else (some (wrap64 (Int.tdiv (wrap64 ((Go.bits .and .i64 a0 (wrap64 ((shl .i64 1 a1) - 1))) * 65535)) (wrap64 ((shl .i64 1 a1) - 1)))))) else (none)) else (some 0))) = some r := h
 clear h
 replace H := Option.bind_eq_some_iff.mp H
 obtain ⟨t366, A30, H⟩ := H
 replace H : (if t366 = true then (if 0 ≤ a1 then (if (wrap64 ((shl .i64 1 a1) - 1)) = 0 then (none) else (some (wrap64 (Int.tdiv (wrap64 ((Go.bits .and .i64 a0 (wrap64 ((shl .i64 1 a1) - 1))) * 65535)) (wrap64 ((shl .i64 1 a1) - 1)))))) else (none)) else (some 0)) = some r := H
 have A3 := Aside0.mk A30
 clear A30
 by_cases c4 : t366 = true
 ·subst c4
  have H1 : (if 0 ≤ a1 then (if (wrap64 ((shl .i64 1 a1) - 1)) = 0 then (none) else (some (wrap64 (Int.tdiv (wrap64 ((Go.bits .and .i64 a0 (wrap64 ((shl .i64 1 a1) - 1))) * 65535)) (wrap64 ((shl .i64 1 a1) - 1)))))) else (none)) = some r := by rw [if_pos rfl] at H; exact H
  clear H
  have H := H1
  clear H1
  by_cases c5 : 0 ≤ a1
  ·rw [if_pos c5] at H
   have c5b0 := eq_true c5
   have c5b1 : decide (0 ≤ a1) = true := decide_eq_true c5
   clear c5
   obtain ⟨ji6, hji6⟩ : ∃ j_ : Int, (shl .i64 1 a1) = j_ := ⟨_, rfl⟩
   replace H : (if (wrap64 ((ji6) - 1)) = 0 then (none) else (some (wrap64 (Int.tdiv (wrap64 ((Go.bits .and .i64 a0 (wrap64 ((ji6) - 1))) * 65535)) (wrap64 ((ji6) - 1)))))) = some r := by first | (rw [hji6] at H; exact H) | (simp only [hji6] at H ⊢; exact H)
   (try rw [hji6] at A3)
   have hji6_ : (IntKind.i64.wrap (1 * 2 ^ min a1.toNat 64)) = ji6 := hji6
   have hji6z : a1 ≤ 64 → (IntKind.i64.wrap (1 * 2 ^ a1.toNat)) = ji6 := shl_small hji6
   have hji6u : (IntKind.i64.wrap (2 ^ min a1.toNat 64)) = ji6 := by have h_ := hji6_; rw [Int.one_mul] at h_; exact h_
   have hji6v : a1 ≤ 64 → (IntKind.i64.wrap (2 ^ a1.toNat)) = ji6 := fun hle_ => by have h_ := hji6z hle_; rw [Int.one_mul] at h_; exact h_
   have hji6y : (wrap64 (1 * 2 ^ min a1.toNat 64)) = ji6 := (i64_w _).symm.trans hji6_
   have hji6x : a1 ≤ 64 → (wrap64 (1 * 2 ^ a1.toNat)) = ji6 := fun h_ => (i64_w _).symm.trans (hji6z h_)
   by_cases c7 : (wrap64 ((ji6) - 1)) = 0
   ·rw [if_pos c7] at H
    exact absurd H (by simp)
   ·rw [if_neg c7] at H
    have c7b0 : ((wrap64 ((ji6) - 1)) == 0) = false := beq_eq_false_iff_ne.mpr c7
    have c7b1 : ((wrap64 ((ji6) - 1)) != 0) = true := bne_iff_ne.mpr c7
    obtain rfl := Option.some.inj H
    go_enter Try.func50, Try.ntmps50
    go_wp2_with (first | ((with_reducible refine gate_callee (f := 48) rfl ?_); refine gz 7 Try.func48 #[.int .i64 a1] ?_; (with_reducible refine (vitrineref11_Depth.calls a1 true _ A3.out).mono ?_); rintro e w' ⟨rfl, ⟨nd, rfl⟩⟩; refine ⟨_, rfl, ?_⟩))
    go_ret
    exact ⟨by first | rfl | (simp; done) | (simp only [← hji6] <;> (first | rfl | simp)) | (simp [*]; done), by repeat (first | exact Drawn0.refl _ | apply Drawn0.step)⟩
  ·rw [if_neg c5] at H
   exact absurd H (by simp)
 ·replace c4 := Bool.eq_false_iff.mpr c4
  subst c4
  have H1 : (some 0) = some r := by rw [if_neg (show ¬ (false = true) by decide)] at H; exact H
  clear H
  have H := H1
  clear H1
  obtain rfl := Option.some.inj H
  go_enter Try.func50, Try.ntmps50
  go_wp2_with (first | ((with_reducible refine gate_callee (f := 48) rfl ?_); refine gz 7 Try.func48 #[.int .i64 a1] ?_; (with_reducible refine (vitrineref11_Depth.calls a1 false _ A3.out).mono ?_); rintro e w' ⟨rfl, ⟨nd, rfl⟩⟩; refine ⟨_, rfl, ?_⟩))
  go_ret
  exact ⟨by first | rfl | (simp; done) | (simp [*]; done), by repeat (first | exact Drawn0.refl _ | apply Drawn0.step)⟩

end Go.Proofs.Ytejljcglbkjgkaa.PL12

namespace Go.Proofs.Ytejljcglbkjgkaa.PL12
open Go.RowKit Go.Proofs.YtejljcglbkjgkaaW.PrintWords Go.Proofs.YtejljcglbkjgkaaW.PrintLast Go.Proofs.YtejljcglbkjgkaaW.PrintMore
attribute [local go_sem] max2_int min2_int max_two min_two max_three min_three max_four min_four   -- for this text's walks alone
set_option linter.unusedVariables false
set_option linter.unusedSimpArgs false

mutual
def vitrineref11_same.j0 : Nat → List Int → Bool → Int → Int → Int → Int → Int → ByteArray → ByteArray → Bool → Option (Bool)
 | 0, _, _, _, _, _, _, _, _, _, _ => none
 | k + 1, x1, x18, x368000, x368001, x368002, x368003, x368004, x368005, x368006, x368007 => if x18 = true then (some false) else (vitrineref11_same.l0 k x1 0 x368000 x368001 x368002 x368003 x368004 x368005 x368006 x368007)
def vitrineref11_same.l0 : Nat → List Int → Int → Int → Int → Int → Int → Int → ByteArray → ByteArray → Bool → Option (Bool)
 | 0, _, _, _, _, _, _, _, _, _, _ => none
 | k + 1, x1, x5, x368000, x368001, x368002, x368003, x368004, x368005, x368006, x368007 => if x5 < (x1.length : Int) then (if 0 ≤ (wrap64 (2 * x5)) then (if (wrap64 (2 * x5)) < (x368006.size : Int) then (if 0 ≤ (wrap64 ((wrap64 (2 * x5)) + 1)) then (if (wrap64 ((wrap64 (2 * x5)) + 1)) < (x368006.size : Int) then (if 0 ≤ x368002 then (if (shl .i64 1 x368002) = 0 then (none) else (if 0 ≤ x5 then (if (Int.tmod (wrap64 ((wrap64 (256 * (wrap64 (bt x368006 (wrap64 (2 * x5)))))) + (wrap64 (bt x368006 (wrap64 ((wrap64 (2 * x5)) + 1)))))) (shl .i64 1 x368002)) = (rd x1 x5) then (vitrineref11_same.l0 k x1 (wrap64 (x5 + 1)) x368000 x368001 x368002 x368003 x368004 x368005 x368006 x368007) else (some false)) else (none))) else (none)) else (none)) else (none)) else (none)) else (none)) else (some true)
end
def vitrineref11_same.f (k : Nat) (a0_0 : Int) (a0_1 : Int) (a0_2 : Int) (a0_3 : Int) (a0_4 : Int) (a0_5 : ByteArray) (a0_6 : ByteArray) (a0_7 : Bool) (l1 : List Int) : Option (Bool) := if a0_7 = true then (vitrineref11_same.j0 k l1 ((a0_6.size : Int) != (wrap64 (2 * (l1.length : Int)))) a0_0 a0_1 a0_2 a0_3 a0_4 a0_5 a0_6 a0_7) else (vitrineref11_same.j0 k l1 true a0_0 a0_1 a0_2 a0_3 a0_4 a0_5 a0_6 a0_7)
set_option maxHeartbeats 40000000 in
set_option maxRecDepth 100000 in
theorem vitrineref11_same.calls (k : Nat) (a0_0 : Int) (a0_1 : Int) (a0_2 : Int) (a0_3 : Int) (a0_4 : Int) (a0_5 : ByteArray) (a0_6 : ByteArray) (a0_7 : Bool) (A1 : Option Addr) (c1 : Nat) (l1 : List Int) (r : Bool) (w : World) (hr1 : Kd.C (Kd.int .i64) w A1 l1.length l1) (hc1 : l1.length ≤ c1) (h : vitrineref11_same.f k a0_0 a0_1 a0_2 a0_3 a0_4 a0_5 a0_6 a0_7 l1 = some r) :
  Calls Try.prog 51 #[.agg #[.int .i64 a0_0, .int .i64 a0_1, .int .i64 a0_2, .int .i64 a0_3, .int .i64 a0_4, .string a0_5, .string a0_6, .bool a0_7], .slice A1 l1.length c1] w fun e w' => e = .returned (.bool r) ∧ Below w.heap.size w w' := by
 have hu31 := Try.underlying31
 have HR1 := Aside0.mk hr1
 have HC1 := Aside0.mk hc1
 clear hr1 hc1
 have HB := Aside0.mk (Below.refl w.heap.size w)
 have H : (if a0_7 = true then (vitrineref11_same.j0 k l1 ((a0_6.size : Int) != (wrap64 (2 * (l1.length : Int)))) a0_0 a0_1 a0_2 a0_3 a0_4 a0_5 a0_6 a0_7) else (vitrineref11_same.j0 k l1 true a0_0 a0_1 a0_2 a0_3 a0_4 a0_5 a0_6 a0_7)) = some r := h
 clear h
 have HC3 := Aside0.mk H
 clear H
 go_enter Try.func51, Try.ntmps51
 go_upto_region 1 with (first | ((with_reducible refine gate_dst (N := 2) rfl ?_); (try (refine gate_guard (by rfl) ?_; dsimp only)); refine box_event ?hg (N := 2) ?hd (cs := #[.int .i64 a0_0, .int .i64 a0_1, .int .i64 a0_2, .int .i64 a0_3, .int .i64 a0_4, .string a0_5, .string a0_6, .bool a0_7]) (t := 31) ?hr ?_; (case hd => rfl); (case hg => rfl); (case hr => first | (go_simp; done) | (go_simp; rfl)); intro gb367 hg w4 hbox hb; have n0_ := Aside0.mk (below_step (hz HB) hb); have n1_ := Aside0.mk (hbox); have n2_ := Aside0.mk ((by rw [hg]; exact (below_size (hz HB)) : w.heap.size ≤ gb367)); have n3_ := Aside0.mk ((by rw [hg]; exact (below_size (hz HB)) : w.heap.size ≤ gb367)); clear HB; have HB := n0_; have BK367 := n1_; have GW367 := n2_; have GE367 := n3_; clear n0_ n1_ n2_ n3_; clear hb hbox hg))
 repeat (go_quiet (first | ((with_reducible refine gate_dst (N := 2) rfl ?_); (try (refine gate_guard (by rfl) ?_; dsimp only)); refine box_event ?hg (N := 2) ?hd (cs := #[.int .i64 a0_0, .int .i64 a0_1, .int .i64 a0_2, .int .i64 a0_3, .int .i64 a0_4, .string a0_5, .string a0_6, .bool a0_7]) (t := 31) ?hr ?_; (case hd => rfl); (case hg => rfl); (case hr => first | (go_simp; done) | (go_simp; rfl)); intro gb367 hg w4 hbox hb; have n0_ := Aside0.mk (below_step (hz HB) hb); have n1_ := Aside0.mk (hbox); have n2_ := Aside0.mk ((by rw [hg]; exact (below_size (hz HB)) : w.heap.size ≤ gb367)); have n3_ := Aside0.mk ((by rw [hg]; exact (below_size (hz HB)) : w.heap.size ≤ gb367)); clear HB; have HB := n0_; have BK367 := n1_; have GW367 := n2_; have GE367 := n3_; clear n0_ n1_ n2_ n3_; clear hb hbox hg)); go_upto_region 1 with (first | ((with_reducible refine gate_dst (N := 2) rfl ?_); (try (refine gate_guard (by rfl) ?_; dsimp only)); refine box_event ?hg (N := 2) ?hd (cs := #[.int .i64 a0_0, .int .i64 a0_1, .int .i64 a0_2, .int .i64 a0_3, .int .i64 a0_4, .string a0_5, .string a0_6, .bool a0_7]) (t := 31) ?hr ?_; (case hd => rfl); (case hg => rfl); (case hr => first | (go_simp; done) | (go_simp; rfl)); intro gb367 hg w4 hbox hb; have n0_ := Aside0.mk (below_step (hz HB) hb); have n1_ := Aside0.mk (hbox); have n2_ := Aside0.mk ((by rw [hg]; exact (below_size (hz HB)) : w.heap.size ≤ gb367)); have n3_ := Aside0.mk ((by rw [hg]; exact (below_size (hz HB)) : w.heap.size ≤ gb367)); clear HB; have HB := n0_; have BK367 := n1_; have GW367 := n2_; have GE367 := n3_; clear n0_ n1_ n2_ n3_; clear hb hbox hg)))
 (try simp only [Act.put, List.setIfInBounds_toArray, List.set_cons_zero, List.set_cons_succ])
 go_cut [18] (fun v18 wc => ∃ (kq : Nat) (x18_2 : Bool), v18 = .bool x18_2 ∧ Aside0 (vitrineref11_same.j0 kq l1 x18_2 a0_0 a0_1 a0_2 a0_3 a0_4 a0_5 a0_6 a0_7 = some r) ∧ Aside0 (kq ≤ k) ∧ Aside0 (wc.heap[gb367]? = some (.cells #[.int .i64 a0_0, .int .i64 a0_1, .int .i64 a0_2, .int .i64 a0_3, .int .i64 a0_4, .string a0_5, .string a0_6, .bool a0_7] 31 (0, 0))) ∧ Aside0 (Below w.heap.size w wc))
 case first =>
  have H := HC3.out
  clear HC3
  by_cases c5 : a0_7 = true
  ·subst c5
   have H1 : (vitrineref11_same.j0 k l1 ((a0_6.size : Int) != (wrap64 (2 * (l1.length : Int)))) a0_0 a0_1 a0_2 a0_3 a0_4 a0_5 a0_6 true) = some r := by rw [if_pos rfl] at H; exact H
   clear H
   have H := H1
   clear H1
   have H' := Aside0.mk H
   clear H
   have hcz6_0 : w4.cell? ⟨gb367, 0, none⟩ = some (.int .i64 a0_0) := (blk_cell BK367.out 0).trans rfl
   have hcz6_1 : w4.cell? ⟨gb367, 1, none⟩ = some (.int .i64 a0_1) := (blk_cell BK367.out 1).trans rfl
   have hcz6_2 : w4.cell? ⟨gb367, 2, none⟩ = some (.int .i64 a0_2) := (blk_cell BK367.out 2).trans rfl
   have hcz6_3 : w4.cell? ⟨gb367, 3, none⟩ = some (.int .i64 a0_3) := (blk_cell BK367.out 3).trans rfl
   have hcz6_4 : w4.cell? ⟨gb367, 4, none⟩ = some (.int .i64 a0_4) := (blk_cell BK367.out 4).trans rfl
   have hcz6_5 : w4.cell? ⟨gb367, 5, none⟩ = some (.string a0_5) := (blk_cell BK367.out 5).trans rfl
   have hcz6_6 : w4.cell? ⟨gb367, 6, none⟩ = some (.string a0_6) := (blk_cell BK367.out 6).trans rfl
   have hcz6_7 : w4.cell? ⟨gb367, 7, none⟩ = some (.bool true) := (blk_cell BK367.out 7).trans rfl
   have hfz6_0 := blk_frozen BK367.out 0
   have hfz6_1 := blk_frozen BK367.out 1
   have hfz6_2 := blk_frozen BK367.out 2
   have hfz6_3 := blk_frozen BK367.out 3
   have hfz6_4 := blk_frozen BK367.out 4
   have hfz6_5 := blk_frozen BK367.out 5
   have hfz6_6 := blk_frozen BK367.out 6
   have hfz6_7 := blk_frozen BK367.out 7
   go_wp2
   repeat (go_quiet (fail); try go_wp2)
   go_meet
   case rel => exact ⟨_, (((a0_6.size : Int) != (wrap64 (2 * (l1.length : Int))))), (by first | rfl | (simp; done) | (simp [*]; done)), H', ⟨by first | omega | exact Nat.le_refl _⟩, ⟨kz BK367⟩, ⟨hz HB⟩⟩
  ·replace c5 := Bool.eq_false_iff.mpr c5
   subst c5
   have H1 : (vitrineref11_same.j0 k l1 true a0_0 a0_1 a0_2 a0_3 a0_4 a0_5 a0_6 false) = some r := by rw [if_neg (show ¬ (false = true) by decide)] at H; exact H
   clear H
   have H := H1
   clear H1
   have H' := Aside0.mk H
   clear H
   have hcz7_0 : w4.cell? ⟨gb367, 0, none⟩ = some (.int .i64 a0_0) := (blk_cell BK367.out 0).trans rfl
   have hcz7_1 : w4.cell? ⟨gb367, 1, none⟩ = some (.int .i64 a0_1) := (blk_cell BK367.out 1).trans rfl
   have hcz7_2 : w4.cell? ⟨gb367, 2, none⟩ = some (.int .i64 a0_2) := (blk_cell BK367.out 2).trans rfl
   have hcz7_3 : w4.cell? ⟨gb367, 3, none⟩ = some (.int .i64 a0_3) := (blk_cell BK367.out 3).trans rfl
   have hcz7_4 : w4.cell? ⟨gb367, 4, none⟩ = some (.int .i64 a0_4) := (blk_cell BK367.out 4).trans rfl
   have hcz7_5 : w4.cell? ⟨gb367, 5, none⟩ = some (.string a0_5) := (blk_cell BK367.out 5).trans rfl
   have hcz7_6 : w4.cell? ⟨gb367, 6, none⟩ = some (.string a0_6) := (blk_cell BK367.out 6).trans rfl
   have hcz7_7 : w4.cell? ⟨gb367, 7, none⟩ = some (.bool false) := (blk_cell BK367.out 7).trans rfl
   have hfz7_0 := blk_frozen BK367.out 0
   have hfz7_1 := blk_frozen BK367.out 1
   have hfz7_2 := blk_frozen BK367.out 2
   have hfz7_3 := blk_frozen BK367.out 3
   have hfz7_4 := blk_frozen BK367.out 4
   have hfz7_5 := blk_frozen BK367.out 5
   have hfz7_6 := blk_frozen BK367.out 6
   have hfz7_7 := blk_frozen BK367.out 7
   go_wp2
   repeat (go_quiet (fail); try go_wp2)
   go_meet
   case rel => exact ⟨_, (true), (by first | rfl | (simp; done) | (simp [*]; done)), H', ⟨by first | omega | exact Nat.le_refl _⟩, ⟨kz BK367⟩, ⟨hz HB⟩⟩
 case rest =>
  clear HC3
  obtain ⟨kq, x18_2, rfl, HA, HJ2, BK367, HB⟩ := hcut
  cases kq with
  | zero => exact absurd HA.out (by simp [vitrineref11_same.j0])
  | succ kj2 =>
   have H := HA.out
   clear HA
   simp only [vitrineref11_same.j0] at H
   by_cases c8 : x18_2 = true
   ·subst c8
    have H1 : (some false) = some r := by rw [if_pos rfl] at H; exact H
    clear H
    have H := H1
    clear H1
    obtain rfl := Option.some.inj H
    go_wp2
    repeat (go_quiet (fail); try go_wp2)
    go_ret
    exact ⟨by first | rfl | (simp [errW_none, errW_some] <;> rfl) | (simp [*, errW_none, errW_some] <;> rfl), by repeat (first | (with_reducible first | exact HB.out | apply below_alloc | apply pw_below_drewN | apply below_drew1 | refine below_set ?_ GE367.out) | exact HB.out)⟩
   ·replace c8 := Bool.eq_false_iff.mpr c8
    subst c8
    have H1 : (vitrineref11_same.l0 kj2 l1 0 a0_0 a0_1 a0_2 a0_3 a0_4 a0_5 a0_6 a0_7) = some r := by rw [if_neg (show ¬ (false = true) by decide)] at H; exact H
    clear H
    have H := H1
    clear H1
    have H' := Aside0.mk H
    clear H
    go_wp2
    repeat (go_quiet (fail); try go_wp2)
    go_loopg [5] kj2 (fun kq v5 w' => ∃ (x5_2 : Int), v5 = .int .i64 x5_2 ∧ Aside0 (vitrineref11_same.l0 kq l1 x5_2 a0_0 a0_1 a0_2 a0_3 a0_4 a0_5 a0_6 a0_7 = some r) ∧ Aside0 (kq ≤ kj2) ∧ Aside0 (w'.heap[gb367]? = some (.cells #[.int .i64 a0_0, .int .i64 a0_1, .int .i64 a0_2, .int .i64 a0_3, .int .i64 a0_4, .string a0_5, .string a0_6, .bool a0_7] 31 (0, 0))) ∧ Aside0 (Below w.heap.size w w'))
    case atStart => exact ⟨(0), (by first | rfl | (simp; done) | (simp [*]; done)), H', ⟨Nat.le_refl _⟩, ⟨kz BK367⟩, ⟨hz HB⟩⟩
    case round =>
     clear H'
     try clear c8
     obtain ⟨x5_2, rfl, HA, HK2, BK367, HB⟩ := hrel
     cases gk with
     | zero => exact absurd HA.out (by simp [vitrineref11_same.l0])
     | succ k2 =>
      have H := HA.out
      clear HA
      simp only [vitrineref11_same.l0] at H
      by_cases c9 : x5_2 < (l1.length : Int)
      ·rw [if_pos c9] at H
       have c9b0 : decide (x5_2 < (l1.length : Int)) = true := decide_eq_true c9
       clear c9
       obtain ⟨ji10, hji10⟩ : ∃ j_ : Int, (wrap64 (2 * x5_2)) = j_ := ⟨_, rfl⟩
       replace H : (if 0 ≤ (ji10) then (if (ji10) < (a0_6.size : Int) then (if 0 ≤ (wrap64 ((ji10) + 1)) then (if (wrap64 ((ji10) + 1)) < (a0_6.size : Int) then (if 0 ≤ a0_2 then (if (shl .i64 1 a0_2) = 0 then (none) else (if 0 ≤ x5_2 then (if (Int.tmod (wrap64 ((wrap64 (256 * (wrap64 (bt a0_6 (ji10))))) + (wrap64 (bt a0_6 (wrap64 ((ji10) + 1)))))) (shl .i64 1 a0_2)) = (rd l1 x5_2) then (vitrineref11_same.l0 k2 l1 (wrap64 (x5_2 + 1)) a0_0 a0_1 a0_2 a0_3 a0_4 a0_5 a0_6 a0_7) else (some false)) else (none))) else (none)) else (none)) else (none)) else (none)) else (none)) = some r := by first | (rw [hji10] at H; exact H) | (simp only [hji10] at H ⊢; exact H)
       have hji10w : (IntKind.i64.wrap (2 * x5_2)) = ji10 := (i64_w _).trans hji10
       by_cases c11 : 0 ≤ (ji10)
       ·rw [if_pos c11] at H
        have c11b0 : decide (0 ≤ (ji10)) = true := decide_eq_true c11
        clear c11
        by_cases c12 : (ji10) < (a0_6.size : Int)
        ·rw [if_pos c12] at H
         have c12b0 : decide ((ji10) < (a0_6.size : Int)) = true := decide_eq_true c12
         clear c12
         obtain ⟨ji14, hji14⟩ : ∃ j_ : Int, (wrap64 ((ji10) + 1)) = j_ := ⟨_, rfl⟩
         replace H : (if 0 ≤ (ji14) then (if (ji14) < (a0_6.size : Int) then (if 0 ≤ a0_2 then (if (shl .i64 1 a0_2) = 0 then (none) else (if 0 ≤ x5_2 then (if (Int.tmod (wrap64 ((wrap64 (256 * (wrap64 (bt a0_6 (ji10))))) + (wrap64 (bt a0_6 (ji14))))) (shl .i64 1 a0_2)) = (rd l1 x5_2) then (vitrineref11_same.l0 k2 l1 (wrap64 (x5_2 + 1)) a0_0 a0_1 a0_2 a0_3 a0_4 a0_5 a0_6 a0_7) else (some false)) else (none))) else (none)) else (none)) else (none)) = some r := by first | (rw [hji14] at H; exact H) | (simp only [hji14] at H ⊢; exact H)
         have hji14w : (IntKind.i64.wrap ((ji10) + 1)) = ji14 := (i64_w _).trans hji14
         by_cases c15 : 0 ≤ (ji14)
         ·rw [if_pos c15] at H
          have c15b0 : decide (0 ≤ (ji14)) = true := decide_eq_true c15
          clear c15
          by_cases c16 : (ji14) < (a0_6.size : Int)
          ·rw [if_pos c16] at H
           have c16b0 : decide ((ji14) < (a0_6.size : Int)) = true := decide_eq_true c16
           clear c16
           by_cases c18 : 0 ≤ a0_2
           ·rw [if_pos c18] at H
            have c18b0 := eq_true c18
            have c18b1 : decide (0 ≤ a0_2) = true := decide_eq_true c18
            clear c18
            obtain ⟨ji19, hji19⟩ : ∃ j_ : Int, (shl .i64 1 a0_2) = j_ := ⟨_, rfl⟩
            replace H : (if (ji19) = 0 then (none) else (if 0 ≤ x5_2 then (if (Int.tmod (wrap64 ((wrap64 (256 * (wrap64 (bt a0_6 (ji10))))) + (wrap64 (bt a0_6 (ji14))))) (ji19)) = (rd l1 x5_2) then (vitrineref11_same.l0 k2 l1 (wrap64 (x5_2 + 1)) a0_0 a0_1 a0_2 a0_3 a0_4 a0_5 a0_6 a0_7) else (some false)) else (none))) = some r := by first | (rw [hji19] at H; exact H) | (simp only [hji19] at H ⊢; exact H)
            have hji19_ : (IntKind.i64.wrap (1 * 2 ^ min a0_2.toNat 64)) = ji19 := hji19
            have hji19z : a0_2 ≤ 64 → (IntKind.i64.wrap (1 * 2 ^ a0_2.toNat)) = ji19 := shl_small hji19
            have hji19u : (IntKind.i64.wrap (2 ^ min a0_2.toNat 64)) = ji19 := by have h_ := hji19_; rw [Int.one_mul] at h_; exact h_
            have hji19v : a0_2 ≤ 64 → (IntKind.i64.wrap (2 ^ a0_2.toNat)) = ji19 := fun hle_ => by have h_ := hji19z hle_; rw [Int.one_mul] at h_; exact h_
            have hji19y : (wrap64 (1 * 2 ^ min a0_2.toNat 64)) = ji19 := (i64_w _).symm.trans hji19_
            have hji19x : a0_2 ≤ 64 → (wrap64 (1 * 2 ^ a0_2.toNat)) = ji19 := fun h_ => (i64_w _).symm.trans (hji19z h_)
            by_cases c20 : (ji19) = 0
            ·rw [if_pos c20] at H
             exact absurd H (by simp)
            ·rw [if_neg c20] at H
             have c20b0 : ((ji19) == 0) = false := beq_eq_false_iff_ne.mpr c20
             have c20b1 : ((ji19) != 0) = true := bne_iff_ne.mpr c20
             by_cases c21 : 0 ≤ x5_2
             ·rw [if_pos c21] at H
              have c21b0 : decide (0 ≤ x5_2) = true := decide_eq_true c21
              clear c21
              by_cases c22 : (Int.tmod (wrap64 ((wrap64 (256 * (wrap64 (bt a0_6 (ji10))))) + (wrap64 (bt a0_6 (ji14))))) (ji19)) = (rd l1 x5_2)
              ·rw [if_pos c22] at H
               have c22b0 : ((Int.tmod (wrap64 ((wrap64 (256 * (wrap64 (bt a0_6 (ji10))))) + (wrap64 (bt a0_6 (ji14))))) (ji19)) == (rd l1 x5_2)) = true := beq_iff_eq.mpr c22
               have c22b1 : ((Int.tmod (wrap64 ((wrap64 (256 * (wrap64 (bt a0_6 (ji10))))) + (wrap64 (bt a0_6 (ji14))))) (ji19)) != (rd l1 x5_2)) = false := bne_eq_false_iff_eq.mpr c22
               clear c22
               have H' := Aside0.mk H
               clear H
               have hcz23_0 : wr.cell? ⟨gb367, 0, none⟩ = some (.int .i64 a0_0) := (blk_cell BK367.out 0).trans rfl
               have hcz23_1 : wr.cell? ⟨gb367, 1, none⟩ = some (.int .i64 a0_1) := (blk_cell BK367.out 1).trans rfl
               have hcz23_2 : wr.cell? ⟨gb367, 2, none⟩ = some (.int .i64 a0_2) := (blk_cell BK367.out 2).trans rfl
               have hcz23_3 : wr.cell? ⟨gb367, 3, none⟩ = some (.int .i64 a0_3) := (blk_cell BK367.out 3).trans rfl
               have hcz23_4 : wr.cell? ⟨gb367, 4, none⟩ = some (.int .i64 a0_4) := (blk_cell BK367.out 4).trans rfl
               have hcz23_5 : wr.cell? ⟨gb367, 5, none⟩ = some (.string a0_5) := (blk_cell BK367.out 5).trans rfl
               have hcz23_6 : wr.cell? ⟨gb367, 6, none⟩ = some (.string a0_6) := (blk_cell BK367.out 6).trans rfl
               have hcz23_7 : wr.cell? ⟨gb367, 7, none⟩ = some (.bool a0_7) := (blk_cell BK367.out 7).trans rfl
               have hfz23_0 := blk_frozen BK367.out 0
               have hfz23_1 := blk_frozen BK367.out 1
               have hfz23_2 := blk_frozen BK367.out 2
               have hfz23_3 := blk_frozen BK367.out 3
               have hfz23_4 := blk_frozen BK367.out 4
               have hfz23_5 := blk_frozen BK367.out 5
               have hfz23_6 := blk_frozen BK367.out 6
               have hfz23_7 := blk_frozen BK367.out 7
               have p13 : 0 ≤ ((ji10) : Int) := of_decide_eq_true (by first | (with_reducible assumption) | assumption)
               have q13 : (ji10) < (a0_6.size : Int) := of_decide_eq_true (by first | (with_reducible assumption) | assumption)
               have hx13 := bt_at a0_6 (ji10)
               replace p13 := eq_true p13
               replace q13 := eq_true q13
               have p17 : 0 ≤ ((ji14) : Int) := of_decide_eq_true (by first | (with_reducible assumption) | assumption)
               have q17 : (ji14) < (a0_6.size : Int) := of_decide_eq_true (by first | (with_reducible assumption) | assumption)
               have hx17 := bt_at a0_6 (ji14)
               replace p17 := eq_true p17
               replace q17 := eq_true q17
               have p368 : 0 ≤ (x5_2 : Int) := of_decide_eq_true (by first | (with_reducible assumption) | assumption)
               have q368 : x5_2 < (l1.length : Int) := of_decide_eq_true (by first | (with_reducible assumption) | assumption)
               obtain ⟨ad368, e368, hx368_0⟩ := Kd.at_int HR1.out x5_2 p368 q368
               cases e368
               replace hx368_0 := (HB.out.cell (World.block_lt_of_cell? w _ hx368_0)).trans hx368_0
               replace p368 := eq_true p368
               replace q368 := eq_true q368
               go_wp2
               repeat (go_quiet (fail); try go_wp2)
               go_roundg k2
               case measure => have := HJ2.out; have := HK2.out; omega
               case rel => exact ⟨(wrap64 (x5_2 + 1)), (by first | rfl | (simp; done) | (simp [*]; done)), H', ⟨by have := HJ2.out; have := HK2.out; omega⟩, ⟨kz BK367⟩, ⟨hz HB⟩⟩
              ·rw [if_neg c22] at H
               have c22b0 : ((Int.tmod (wrap64 ((wrap64 (256 * (wrap64 (bt a0_6 (ji10))))) + (wrap64 (bt a0_6 (ji14))))) (ji19)) == (rd l1 x5_2)) = false := beq_eq_false_iff_ne.mpr c22
               have c22b1 : ((Int.tmod (wrap64 ((wrap64 (256 * (wrap64 (bt a0_6 (ji10))))) + (wrap64 (bt a0_6 (ji14))))) (ji19)) != (rd l1 x5_2)) = true := bne_iff_ne.mpr c22
               obtain rfl := Option.some.inj H
               have hcz24_0 : wr.cell? ⟨gb367, 0, none⟩ = some (.int .i64 a0_0) := (blk_cell BK367.out 0).trans rfl
               have hcz24_1 : wr.cell? ⟨gb367, 1, none⟩ = some (.int .i64 a0_1) := (blk_cell BK367.out 1).trans rfl
               have hcz24_2 : wr.cell? ⟨gb367, 2, none⟩ = some (.int .i64 a0_2) := (blk_cell BK367.out 2).trans rfl
               have hcz24_3 : wr.cell? ⟨gb367, 3, none⟩ = some (.int .i64 a0_3) := (blk_cell BK367.out 3).trans rfl
               have hcz24_4 : wr.cell? ⟨gb367, 4, none⟩ = some (.int .i64 a0_4) := (blk_cell BK367.out 4).trans rfl
               have hcz24_5 : wr.cell? ⟨gb367, 5, none⟩ = some (.string a0_5) := (blk_cell BK367.out 5).trans rfl
               have hcz24_6 : wr.cell? ⟨gb367, 6, none⟩ = some (.string a0_6) := (blk_cell BK367.out 6).trans rfl
               have hcz24_7 : wr.cell? ⟨gb367, 7, none⟩ = some (.bool a0_7) := (blk_cell BK367.out 7).trans rfl
               have hfz24_0 := blk_frozen BK367.out 0
               have hfz24_1 := blk_frozen BK367.out 1
               have hfz24_2 := blk_frozen BK367.out 2
               have hfz24_3 := blk_frozen BK367.out 3
               have hfz24_4 := blk_frozen BK367.out 4
               have hfz24_5 := blk_frozen BK367.out 5
               have hfz24_6 := blk_frozen BK367.out 6
               have hfz24_7 := blk_frozen BK367.out 7
               have p13 : 0 ≤ ((ji10) : Int) := of_decide_eq_true (by first | (with_reducible assumption) | assumption)
               have q13 : (ji10) < (a0_6.size : Int) := of_decide_eq_true (by first | (with_reducible assumption) | assumption)
               have hx13 := bt_at a0_6 (ji10)
               replace p13 := eq_true p13
               replace q13 := eq_true q13
               have p17 : 0 ≤ ((ji14) : Int) := of_decide_eq_true (by first | (with_reducible assumption) | assumption)
               have q17 : (ji14) < (a0_6.size : Int) := of_decide_eq_true (by first | (with_reducible assumption) | assumption)
               have hx17 := bt_at a0_6 (ji14)
               replace p17 := eq_true p17
               replace q17 := eq_true q17
               have p368 : 0 ≤ (x5_2 : Int) := of_decide_eq_true (by first | (with_reducible assumption) | assumption)
               have q368 : x5_2 < (l1.length : Int) := of_decide_eq_true (by first | (with_reducible assumption) | assumption)
               obtain ⟨ad368, e368, hx368_0⟩ := Kd.at_int HR1.out x5_2 p368 q368
               cases e368
               replace hx368_0 := (HB.out.cell (World.block_lt_of_cell? w _ hx368_0)).trans hx368_0
               replace p368 := eq_true p368
               replace q368 := eq_true q368
               go_wp2
               repeat (go_quiet (fail); try go_wp2)
               go_ret
               exact ⟨by first | rfl | (simp [errW_none, errW_some] <;> rfl) | (simp only [← hji10, ← hji14, ← hji19]; first | rfl | (simp [errW_none, errW_some] <;> rfl)) | (simp [*, errW_none, errW_some] <;> rfl), by repeat (first | (with_reducible first | exact HB.out | apply below_alloc | apply pw_below_drewN | apply below_drew1 | refine below_set ?_ GE367.out) | exact HB.out)⟩
             ·rw [if_neg c21] at H
              exact absurd H (by simp)
           ·rw [if_neg c18] at H
            exact absurd H (by simp)
          ·rw [if_neg c16] at H
           exact absurd H (by simp)
         ·rw [if_neg c15] at H
          exact absurd H (by simp)
        ·rw [if_neg c12] at H
         exact absurd H (by simp)
       ·rw [if_neg c11] at H
        exact absurd H (by simp)
      ·rw [if_neg c9] at H
       have c9b0 : decide (x5_2 < (l1.length : Int)) = false := decide_eq_false c9
       clear c9
       obtain rfl := Option.some.inj H
       go_wp2
       repeat (go_quiet (fail); try go_wp2)
       go_ret
       exact ⟨by first | rfl | (simp [errW_none, errW_some] <;> rfl) | (simp [*, errW_none, errW_some] <;> rfl), by repeat (first | (with_reducible first | exact HB.out | apply below_alloc | apply pw_below_drewN | apply below_drew1 | refine below_set ?_ GE367.out) | exact HB.out)⟩

end Go.Proofs.Ytejljcglbkjgkaa.PL12
