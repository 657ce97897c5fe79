/- Printed for this claim by a program of this session over the kit's print program: the Go functions as Lean functions, and proofs that the calls come to these answers. No conditions. -/
import Derived.Test.YtpccfanjdbenlaaPM11x0
import Derived.Test.YtpccfanjdbenlaaPM11x3
namespace Go.Proofs.Ytpccfanjdbenlaa.PM11
open Go.RowKit Go.Proofs.YtpccfanjdbenlaaW.PrintWords Go.Proofs.YtpccfanjdbenlaaW.PrintLast Go.Proofs.YtpccfanjdbenlaaW.PrintMore
attribute [local go_sem] max2_int min2_int max_two min_two max_three min_three max_four min_four   -- for this text's walks alone
set_option linter.unusedVariables false
set_option linter.unusedSimpArgs false

/-! ### vitrineref11_Unpack: function 12 -/
mutual
def vitrineref11_Unpack.j0 : Nat → ByteArray → Int → Int → Bool → Option (List Int × Int)
  | 0, _, _, _, _ => none
  | k + 1, x0, x1, x2, x22 => if x22 = true then (some (([] : List Int), 1)) else (if (wrap64 (x2 * x1)) > (wrap64 (8 * (x0.size : Int))) then (some (([] : List Int), 30)) else (vitrineref11_Unpack.l0 k x0 x1 x2 ([] : List Int) 0))
def vitrineref11_Unpack.l0 : Nat → ByteArray → Int → Int → List Int → Int → Option (List Int × Int)
  | 0, _, _, _, _, _ => none
  | k + 1, x0, x1, x2, x8, x9 => if x9 < x2 then (vitrineref11_Unpack.l1 k x0 x1 x2 x8 x9 0 (wrap64 (x9 * x1))) else (some (x8, 0))
def vitrineref11_Unpack.l1 : Nat → ByteArray → Int → Int → List Int → Int → Int → Int → Option (List Int × Int)
  | 0, _, _, _, _, _, _, _ => none
  | k + 1, x0, x1, x2, x8, x9, x10, x11 => if x11 < (wrap64 ((wrap64 (x9 + 1)) * x1)) then (if 0 ≤ (wrap64 (Int.tdiv x11 8)) then (if (wrap64 (Int.tdiv x11 8)) < (x0.size : Int) then (if 0 ≤ (wrap64 (7 - (Int.tmod x11 8))) then (vitrineref11_Unpack.l1 k x0 x1 x2 x8 x9 (wrap64 ((wrap64 (2 * x10)) + (wrap64 (Go.bits .and .u8 (shr .u8 (bt x0 (wrap64 (Int.tdiv x11 8))) (wrap64 (7 - (Int.tmod x11 8)))) 1)))) (wrap64 (x11 + 1))) else (none)) else (none)) else (none)) else (if x8.length < 17592186044416 then (vitrineref11_Unpack.l0 k x0 x1 x2 (x8 ++ [x10]) (wrap64 (x9 + 1))) else (none))
end
def vitrineref11_Unpack.f (k : Nat) (a0 : ByteArray) (a1 : Int) (a2 : Int) : Option (List Int × Int) := (vitrineref11_Depth.f a1).bind fun t113 => (if t113 = true then (if a2 < 0 then (vitrineref11_Unpack.j0 k a0 a1 a2 true) else (vitrineref11_Unpack.j0 k a0 a1 a2 (decide (a2 > 4096)))) else (vitrineref11_Unpack.j0 k a0 a1 a2 true))
theorem vitrineref11_Unpack.mono_l : ∀ k, (∀ y0 y1 y2 y3, LeO (vitrineref11_Unpack.j0 k y0 y1 y2 y3) (vitrineref11_Unpack.j0 (k + 1) y0 y1 y2 y3)) ∧ (∀ y0 y1 y2 y3 y4, LeO (vitrineref11_Unpack.l0 k y0 y1 y2 y3 y4) (vitrineref11_Unpack.l0 (k + 1) y0 y1 y2 y3 y4)) ∧ (∀ y0 y1 y2 y3 y4 y5 y6, LeO (vitrineref11_Unpack.l1 k y0 y1 y2 y3 y4 y5 y6) (vitrineref11_Unpack.l1 (k + 1) y0 y1 y2 y3 y4 y5 y6))
  | 0 => ⟨fun _ _ _ _ r h => by simp [vitrineref11_Unpack.j0] at h, fun _ _ _ _ _ r h => by simp [vitrineref11_Unpack.l0] at h, fun _ _ _ _ _ _ _ r h => by simp [vitrineref11_Unpack.l1] at h⟩
  | k + 1 => by
    obtain ⟨ih0, ih1, ih2⟩ := vitrineref11_Unpack.mono_l k
    refine ⟨?_, ?_, ?_⟩
    · intro y0 y1 y2 y3
      unfold vitrineref11_Unpack.j0
      repeat' first
      | (with_reducible exact ih0 _ _ _ _)
      | (with_reducible exact ih1 _ _ _ _ _)
      | (with_reducible exact ih2 _ _ _ _ _ _ _)
      | (with_reducible exact LeO.refl _)
      | (with_reducible exact LeO.none _)
      | (with_reducible refine LeO.ite ?_ ?_)
      | (with_reducible refine LeO.bind ?_ (fun _ => ?_))
      | exact ih0 _ _ _ _
      | exact ih1 _ _ _ _ _
      | exact ih2 _ _ _ _ _ _ _
      | exact LeO.none _
      | refine LeO.ite ?_ ?_
      | refine LeO.bind ?_ (fun _ => ?_)
    · intro y0 y1 y2 y3 y4
      unfold vitrineref11_Unpack.l0
      repeat' first
      | (with_reducible exact ih0 _ _ _ _)
      | (with_reducible exact ih1 _ _ _ _ _)
      | (with_reducible exact ih2 _ _ _ _ _ _ _)
      | (with_reducible exact LeO.refl _)
      | (with_reducible exact LeO.none _)
      | (with_reducible refine LeO.ite ?_ ?_)
      | (with_reducible refine LeO.bind ?_ (fun _ => ?_))
      | exact ih0 _ _ _ _
      | exact ih1 _ _ _ _ _
      | exact ih2 _ _ _ _ _ _ _
      | exact LeO.none _
      | refine LeO.ite ?_ ?_
      | refine LeO.bind ?_ (fun _ => ?_)
    · intro y0 y1 y2 y3 y4 y5 y6
      unfold vitrineref11_Unpack.l1
      repeat' first
      | (with_reducible exact ih0 _ _ _ _)
      | (with_reducible exact ih1 _ _ _ _ _)
      | (with_reducible exact ih2 _ _ _ _ _ _ _)
      | (with_reducible exact LeO.refl _)
      | (with_reducible exact LeO.none _)
      | (with_reducible refine LeO.ite ?_ ?_)
      | (with_reducible refine LeO.bind ?_ (fun _ => ?_))
      | exact ih0 _ _ _ _
      | exact ih1 _ _ _ _ _
      | exact ih2 _ _ _ _ _ _ _
      | exact LeO.none _
      | refine LeO.ite ?_ ?_
      | refine LeO.bind ?_ (fun _ => ?_)
theorem vitrineref11_Unpack.mono : ∀ a0 a1 a2 k, LeO (vitrineref11_Unpack.f k a0 a1 a2) (vitrineref11_Unpack.f (k + 1) a0 a1 a2) := by
  intro a0 a1 a2 k
  obtain ⟨ih0, ih1, ih2⟩ := vitrineref11_Unpack.mono_l k
  unfold vitrineref11_Unpack.f
  repeat' first
      | (with_reducible exact ih0 _ _ _ _)
      | (with_reducible exact ih1 _ _ _ _ _)
      | (with_reducible exact ih2 _ _ _ _ _ _ _)
      | (with_reducible exact LeO.refl _)
      | (with_reducible exact LeO.none _)
      | (with_reducible refine LeO.ite ?_ ?_)
      | (with_reducible refine LeO.bind ?_ (fun _ => ?_))
      | exact ih0 _ _ _ _
      | exact ih1 _ _ _ _ _
      | exact ih2 _ _ _ _ _ _ _
      | exact LeO.none _
      | refine LeO.ite ?_ ?_
      | refine LeO.bind ?_ (fun _ => ?_)
set_option maxHeartbeats 8000000 in
set_option maxRecDepth 100000 in
theorem vitrineref11_Unpack.calls (k : Nat) (a0 : ByteArray) (a1 : Int) (a2 : Int) (r1 : List Int) (r2 : Int) (w : World) (h : vitrineref11_Unpack.f k a0 a1 a2 = some (r1, r2)) :
    Calls Try.prog 12 #[.string a0, .int .i64 a1, .int .i64 a2] w fun e w' => ∃ v0_ : Value, e = .returned (.tuple #[v0_, .int .i64 r2]) ∧ Kd.R (Kd.int .i64) 3 w' w.heap.size (fun _ => True) v0_ r1 ∧ Below w.heap.size w w' := by
  have HB := Aside0.mk (Below.refl w.heap.size w)
  have H : ((vitrineref11_Depth.f a1).bind fun t113 => (if t113 = true then (if a2 < 0 then (vitrineref11_Unpack.j0 k a0 a1 a2 true) else (vitrineref11_Unpack.j0 k a0 a1 a2 (decide (a2 > 4096)))) else (vitrineref11_Unpack.j0 k a0 a1 a2 true))) = some (r1, r2) := h
  clear h
  have HC4 := Aside0.mk H
  clear H
  go_enter Try.func12, Try.ntmps12
  go_upto_region 1 with (fail)
  go_cut [22] (fun v22 wc => ∃ (kq : Nat) (x22_3 : Bool), v22 = .bool x22_3 ∧ Aside0 (vitrineref11_Unpack.j0 kq a0 a1 a2 x22_3 = some (r1, r2)) ∧ Aside0 (kq ≤ k) ∧ Aside0 (Below w.heap.size w wc))
  case first =>
    have H := HC4.out
    clear HC4
    replace H := Option.bind_eq_some_iff.mp H
    obtain ⟨t113, A50, H⟩ := H
    replace H : (if t113 = true then (if a2 < 0 then (vitrineref11_Unpack.j0 k a0 a1 a2 true) else (vitrineref11_Unpack.j0 k a0 a1 a2 (decide (a2 > 4096)))) else (vitrineref11_Unpack.j0 k a0 a1 a2 true)) = some (r1, r2) := H
    have A5 := Aside0.mk A50
    clear A50
    by_cases c6 : t113 = true
    · subst c6
      have H1 : (if a2 < 0 then (vitrineref11_Unpack.j0 k a0 a1 a2 true) else (vitrineref11_Unpack.j0 k a0 a1 a2 (decide (a2 > 4096)))) = some (r1, r2) := by rw [if_pos rfl] at H; exact H
      clear H
      have H := H1
      clear H1
      by_cases c7 : a2 < 0
      · rw [if_pos c7] at H
        have c7b0 : decide (a2 < 0) = true := decide_eq_true c7
        clear c7
        (first | rw [c7b0] | (simp only [i64_w, i32_w]; rw [c7b0]) | skip)
        have H' := Aside0.mk H
        clear H
        go_wp2_with (first | ((with_reducible refine gate_callee (f := 22) rfl ?_); refine goesL_ (some 13) rfl rfl Try.func22 (by kernel_rfl) rfl #[.int .i64 a1] rfl (by (try simp only [List.map_toArray, List.map_cons, List.map_nil]); first | done | rfl | (simp only [List.length_drop, List.length_take]; rfl)) ?_; (with_reducible refine (vitrineref11_Depth.calls a1 true _ A5.out).mono ?_); rintro e w' ⟨rfl, ⟨nd, rfl⟩⟩; refine ⟨_, rfl, ?_⟩))
        go_meet
        case rel => exact ⟨_, (true), (by first | rfl | (simp; done) | (simp [*]; done)), H', ⟨by first | omega | exact Nat.le_refl _⟩, ⟨by repeat (first | (with_reducible first | exact HB.out | apply below_alloc | apply pw_below_drewN | apply below_drew1) | exact HB.out)⟩⟩
      · rw [if_neg c7] at H
        have c7b0 : decide (a2 < 0) = false := decide_eq_false c7
        clear c7
        (first | rw [c7b0] | (simp only [i64_w, i32_w]; rw [c7b0]) | skip)
        have H' := Aside0.mk H
        clear H
        go_wp2_with (first | ((with_reducible refine gate_callee (f := 22) rfl ?_); refine goesL_ (some 13) rfl rfl Try.func22 (by kernel_rfl) rfl #[.int .i64 a1] rfl (by (try simp only [List.map_toArray, List.map_cons, List.map_nil]); first | done | rfl | (simp only [List.length_drop, List.length_take]; rfl)) ?_; (with_reducible refine (vitrineref11_Depth.calls a1 true _ A5.out).mono ?_); rintro e w' ⟨rfl, ⟨nd, rfl⟩⟩; refine ⟨_, rfl, ?_⟩))
        go_meet
        case rel => exact ⟨_, (decide (a2 > 4096)), (by first | rfl | (simp; done) | (simp [*]; done)), H', ⟨by first | omega | exact Nat.le_refl _⟩, ⟨by repeat (first | (with_reducible first | exact HB.out | apply below_alloc | apply pw_below_drewN | apply below_drew1) | exact HB.out)⟩⟩
    · replace c6 := Bool.eq_false_iff.mpr c6
      subst c6
      have H1 : (vitrineref11_Unpack.j0 k a0 a1 a2 true) = some (r1, r2) := by rw [if_neg (show ¬ (false = true) by decide)] at H; exact H
      clear H
      have H := H1
      clear H1
      have H' := Aside0.mk H
      clear H
      go_wp2_with (first | ((with_reducible refine gate_callee (f := 22) rfl ?_); refine goesL_ (some 13) rfl rfl Try.func22 (by kernel_rfl) rfl #[.int .i64 a1] rfl (by (try simp only [List.map_toArray, List.map_cons, List.map_nil]); first | done | rfl | (simp only [List.length_drop, List.length_take]; rfl)) ?_; (with_reducible refine (vitrineref11_Depth.calls a1 false _ A5.out).mono ?_); rintro e w' ⟨rfl, ⟨nd, rfl⟩⟩; refine ⟨_, rfl, ?_⟩))
      go_meet
      case rel => exact ⟨_, (true), (by first | rfl | (simp; done) | (simp [*]; done)), H', ⟨by first | omega | exact Nat.le_refl _⟩, ⟨by repeat (first | (with_reducible first | exact HB.out | apply below_alloc | apply pw_below_drewN | apply below_drew1) | exact HB.out)⟩⟩
  case rest =>
    clear HC4
    try clear c1
    try clear c2
    try clear p2
    try clear c6
    try clear c7
    try clear c7b0
    obtain ⟨kq, x22_3, rfl, HA, HJ3, HB⟩ := hcut
    cases kq with
    | zero => exact absurd HA.out (by simp [vitrineref11_Unpack.j0])
    | succ kj3 =>
      have H := HA.out
      clear HA
      simp only [vitrineref11_Unpack.j0] at H
      by_cases c8 : x22_3 = true
      · subst c8
        have H1 : (some (([] : List Int), 1)) = some (r1, r2) := by rw [if_pos rfl] at H; exact H
        clear H
        have H := H1
        clear H1
        simp only [Option.some.injEq, Prod.mk.injEq] at H
        obtain ⟨rfl, rfl⟩ := H
        go_wp2
        go_ret2
        exact ⟨_, by first | rfl | (simp [errW_none, errW_some] <;> rfl) | (simp [*, errW_none, errW_some] <;> rfl), by first | exact Kd.R_nil _ _ _ _ _ | exact Kd.N_nil _ _ _ _ _ | exact Kd.V_nil _ _ _ _ _ | exact Kd.Q_nil _ _ _ _ _ | exact Kd.S_nil _ _ _ _ _, by repeat (first | (with_reducible first | exact HB.out | apply below_alloc | apply pw_below_drewN | apply below_drew1) | exact HB.out)⟩
      · replace c8 := Bool.eq_false_iff.mpr c8
        subst c8
        have H1 : (if (wrap64 (a2 * a1)) > (wrap64 (8 * (a0.size : Int))) then (some (([] : List Int), 30)) else (vitrineref11_Unpack.l0 kj3 a0 a1 a2 ([] : List Int) 0)) = some (r1, r2) := by rw [if_neg (show ¬ (false = true) by decide)] at H; exact H
        clear H
        have H := H1
        clear H1
        by_cases c9 : (wrap64 (a2 * a1)) > (wrap64 (8 * (a0.size : Int)))
        · rw [if_pos c9] at H
          have c9b0 : decide ((wrap64 (8 * (a0.size : Int))) < (wrap64 (a2 * a1))) = true := decide_eq_true c9
          clear c9
          simp only [Option.some.injEq, Prod.mk.injEq] at H
          obtain ⟨rfl, rfl⟩ := H
          go_wp2
          go_ret2
          exact ⟨_, by first | rfl | (simp [errW_none, errW_some] <;> rfl) | (simp [*, errW_none, errW_some] <;> rfl), by first | exact Kd.R_nil _ _ _ _ _ | exact Kd.N_nil _ _ _ _ _ | exact Kd.V_nil _ _ _ _ _ | exact Kd.Q_nil _ _ _ _ _ | exact Kd.S_nil _ _ _ _ _, by repeat (first | (with_reducible first | exact HB.out | apply below_alloc | apply pw_below_drewN | apply below_drew1) | exact HB.out)⟩
        · rw [if_neg c9] at H
          have c9b0 : decide ((wrap64 (8 * (a0.size : Int))) < (wrap64 (a2 * a1))) = false := decide_eq_false c9
          clear c9
          have H' := Aside0.mk H
          clear H
          go_wp2
          go_loopg [8, 9] kj3 (fun kq v8 v9 w' => ∃ (x8_2 : List Int) (x9_2 : Int), v9 = .int .i64 x9_2 ∧ Aside0 (vitrineref11_Unpack.l0 kq a0 a1 a2 x8_2 x9_2 = some (r1, r2)) ∧ Aside0 (kq ≤ kj3) ∧ Aside0 (Kd.R (Kd.int .i64) 3 w' w.heap.size (fun _ => True) v8 x8_2) ∧ Aside0 (Below w.heap.size w w'))
          case atStart => exact ⟨(([] : List Int)), (0), (by first | rfl | (simp; done) | (simp [*]; done)), H', ⟨Nat.le_refl _⟩, ⟨by first | exact Kd.R_nil _ _ _ _ _ | exact Kd.N_nil _ _ _ _ _ | exact Kd.V_nil _ _ _ _ _ | exact Kd.Q_nil _ _ _ _ _ | exact Kd.S_nil _ _ _ _ _⟩, ⟨by repeat (first | (with_reducible first | exact HB.out | apply below_alloc | apply pw_below_drewN | apply below_drew1) | exact HB.out)⟩⟩
          case round =>
            clear H'
            try clear c1
            try clear c2
            try clear p2
            try clear c6
            try clear p6
            try clear c7
            try clear c7b0
            try clear c8
            try clear c9
            try clear c9b0
            try clear p2
            obtain ⟨x8_2, x9_2, rfl, HA, HK2, HO_8, HB⟩ := hrel
            cases gk with
            | zero => exact absurd HA.out (by simp [vitrineref11_Unpack.l0])
            | succ k2 =>
              have H := HA.out
              clear HA
              simp only [vitrineref11_Unpack.l0] at H
              by_cases c10 : x9_2 < a2
              · rw [if_pos c10] at H
                have c10b0 : decide (x9_2 < a2) = true := decide_eq_true c10
                clear c10
                have H' := Aside0.mk H
                clear H
                go_wp2
                go_loopg [10, 11] k2 (fun kq v10 v11 w' => ∃ (x10_3 : Int) (x11_3 : Int), v10 = .int .i64 x10_3 ∧ v11 = .int .i64 x11_3 ∧ Aside0 (vitrineref11_Unpack.l1 kq a0 a1 a2 x8_2 x9_2 x10_3 x11_3 = some (r1, r2)) ∧ Aside0 (kq ≤ k2) ∧ Aside0 (Kd.R (Kd.int .i64) 3 w' w.heap.size (fun _ => True) u8 x8_2) ∧ Aside0 (Below w.heap.size w w'))
                case atStart => exact ⟨(0), (wrap64 (x9_2 * a1)), (by first | rfl | (simp; done) | (simp [*]; done)), (by first | rfl | (simp; done) | (simp [*]; done)), H', ⟨Nat.le_refl _⟩, ⟨by (with_reducible repeat (first | apply Kd.R_alloc | apply Kd.R_drewN | apply Kd.R_drew)); exact HO_8.out⟩, ⟨by repeat (first | (with_reducible first | exact HB.out | apply below_alloc | apply pw_below_drewN | apply below_drew1) | exact HB.out)⟩⟩
                case round =>
                  clear H'
                  try clear c1
                  try clear c2
                  try clear p2
                  try clear c6
                  try clear p6
                  try clear c7
                  try clear c7b0
                  try clear c8
                  try clear c9
                  try clear c9b0
                  try clear c10
                  try clear c10b0
                  try clear p2
                  try clear p6
                  obtain ⟨x10_3, x11_3, rfl, rfl, HA, HK3, HO_8, HB⟩ := hrel
                  cases gk with
                  | zero => exact absurd HA.out (by simp [vitrineref11_Unpack.l1])
                  | succ k3 =>
                    have H := HA.out
                    clear HA
                    simp only [vitrineref11_Unpack.l1] at H
                    by_cases c11 : x11_3 < (wrap64 ((wrap64 (x9_2 + 1)) * a1))
                    · rw [if_pos c11] at H
                      have c11b0 : decide (x11_3 < (wrap64 ((wrap64 (x9_2 + 1)) * a1))) = true := decide_eq_true c11
                      clear c11
                      obtain ⟨ji12, hji12⟩ : ∃ j_ : Int, (wrap64 (Int.tdiv x11_3 8)) = j_ := ⟨_, rfl⟩
                      replace H : (if 0 ≤ (ji12) then (if (ji12) < (a0.size : Int) then (if 0 ≤ (wrap64 (7 - (Int.tmod x11_3 8))) then (vitrineref11_Unpack.l1 k3 a0 a1 a2 x8_2 x9_2 (wrap64 ((wrap64 (2 * x10_3)) + (wrap64 (Go.bits .and .u8 (shr .u8 (bt a0 (ji12)) (wrap64 (7 - (Int.tmod x11_3 8)))) 1)))) (wrap64 (x11_3 + 1))) else (none)) else (none)) else (none)) = some (r1, r2) := by first | (rw [hji12] at H; exact H) | (simp only [hji12] at H ⊢; exact H)
                      have hji12w : (IntKind.i64.wrap (Int.tdiv x11_3 8)) = ji12 := (i64_w _).trans hji12
                      by_cases c13 : 0 ≤ (ji12)
                      · rw [if_pos c13] at H
                        have c13b0 : decide (0 ≤ (ji12)) = true := decide_eq_true c13
                        clear c13
                        by_cases c14 : (ji12) < (a0.size : Int)
                        · rw [if_pos c14] at H
                          have c14b0 : decide ((ji12) < (a0.size : Int)) = true := decide_eq_true c14
                          clear c14
                          obtain ⟨ji16, hji16⟩ : ∃ j_ : Int, (wrap64 (7 - (Int.tmod x11_3 8))) = j_ := ⟨_, rfl⟩
                          replace H : (if 0 ≤ (ji16) then (vitrineref11_Unpack.l1 k3 a0 a1 a2 x8_2 x9_2 (wrap64 ((wrap64 (2 * x10_3)) + (wrap64 (Go.bits .and .u8 (shr .u8 (bt a0 (ji12)) (ji16)) 1)))) (wrap64 (x11_3 + 1))) else (none)) = some (r1, r2) := by first | (rw [hji16] at H; exact H) | (simp only [hji16] at H ⊢; exact H)
                          have hji16w : (IntKind.i64.wrap (7 - (Int.tmod x11_3 8))) = ji16 := (i64_w _).trans hji16
                          by_cases c17 : 0 ≤ (ji16)
                          · rw [if_pos c17] at H
                            have c17b0 := eq_true c17
                            have c17b1 : decide (0 ≤ (ji16)) = true := decide_eq_true c17
                            clear c17
                            obtain ⟨ji18, hji18⟩ : ∃ j_ : Int, (shr .u8 (bt a0 (ji12)) (ji16)) = j_ := ⟨_, rfl⟩
                            replace H : (vitrineref11_Unpack.l1 k3 a0 a1 a2 x8_2 x9_2 (wrap64 ((wrap64 (2 * x10_3)) + (wrap64 (Go.bits .and .u8 (ji18) 1)))) (wrap64 (x11_3 + 1))) = some (r1, r2) := by first | (rw [hji18] at H; exact H) | (simp only [hji18] at H ⊢; exact H)
                            have hji18_ : ((bt a0 (ji12)) / 2 ^ min (ji16).toNat 8) = ji18 := hji18
                            have hji18z : (ji16) ≤ 8 → ((bt a0 (ji12)) / 2 ^ (ji16).toNat) = ji18 := shr_small hji18
                            have H' := Aside0.mk H
                            clear H
                            have p15 : 0 ≤ ((ji12) : Int) := of_decide_eq_true (by first | (with_reducible assumption) | assumption)
                            have q15 : (ji12) < (a0.size : Int) := of_decide_eq_true (by first | (with_reducible assumption) | assumption)
                            have hx15 := bt_at a0 (ji12)
                            replace p15 := eq_true p15
                            replace q15 := eq_true q15
                            go_wp2
                            go_roundg k3
                            case measure => have := HJ3.out; have := HK2.out; have := HK3.out; omega
                            case rel => exact ⟨(wrap64 ((wrap64 (2 * x10_3)) + (wrap64 (Go.bits .and .u8 (ji18) 1)))), (wrap64 (x11_3 + 1)), (by first | rfl | (simp; done) | (simp only [← hji18] <;> (first | rfl | simp)) | (simp [*]; done)), (by first | rfl | (simp; done) | (simp [*]; done)), H', ⟨by have := HJ3.out; have := HK2.out; have := HK3.out; omega⟩, ⟨by (with_reducible repeat (first | apply Kd.R_alloc | apply Kd.R_drewN | apply Kd.R_drew)); exact HO_8.out⟩, ⟨by repeat (first | (with_reducible first | exact HB.out | apply below_alloc | apply pw_below_drewN | apply below_drew1) | exact HB.out)⟩⟩
                          · rw [if_neg c17] at H
                            exact absurd H (by simp)
                        · rw [if_neg c14] at H
                          exact absurd H (by simp)
                      · rw [if_neg c13] at H
                        exact absurd H (by simp)
                    · rw [if_neg c11] at H
                      have c11b0 : decide (x11_3 < (wrap64 ((wrap64 (x9_2 + 1)) * a1))) = false := decide_eq_false c11
                      clear c11
                      by_cases c19 : x8_2.length < 17592186044416
                      · rw [if_pos c19] at H
                        have LMc19 := Aside0.mk c19
                        clear c19
                        obtain ⟨y114, hy114⟩ : ∃ y_ : List Int, y_ = (x8_2 ++ [x10_3]) := ⟨_, rfl⟩
                        replace H : (vitrineref11_Unpack.l0 k3 a0 a1 a2 y114 (wrap64 (x9_2 + 1))) = some (r1, r2) := by first | (rw [hy114]; with_reducible exact H) | (have H2_ := (Option.bind_some _ _).symm.trans H; rw [hy114]; with_reducible exact H2_) | (have H2_ := (Option.bind_some _ _).symm.trans H; with_reducible exact H2_) | with_reducible exact H | (rw [hy114]; exact H) | exact H
                        have Ny114 := Aside0.mk hy114
                        clear hy114
                        have H' := Aside0.mk H
                        clear H
                        go_wp2_with (first | ((with_reducible refine gate_builtin (b := .append) (xs := #[.tmp 59, .tmp 61]) rfl ?_); at_builtin; refine Kd.R_append (Kd.int .i64) (w0 := w) w.heap.size rfl (.tmp 59) (.tmp 61) 22 3 (.int .i64 0) 8 rfl Try.underlying22 info3 rfl (by decide) (by omega) u8 x8_2 x10_3 [.int .i64 x10_3] (fun _ => True) (fun _ => False) rfl rfl ?aP (fun _ hk => hk.elim) ?aF ?aO ?aB ?aS ?aL ?_; (case aP => exact rfl); (case aB => exact (by repeat (first | (with_reducible first | exact HB.out | apply below_alloc | apply pw_below_drewN | apply below_drew1) | exact HB.out))); (case aF => exact (fun _ _ => trivial)); (case aO => exact (by (with_reducible repeat (first | apply Kd.R_alloc | apply Kd.R_drewN | apply Kd.R_drew)); exact HO_8.out)); (case aS => exact (below_size (by repeat (first | (with_reducible first | exact HB.out | apply below_alloc | apply pw_below_drewN | apply below_drew1) | exact HB.out)))); (case aL => have := LMc19.out; omega); intro v115 w20 ho hb hg hat; rw [← Ny114.out] at ho; have n0_ := Aside0.mk (hb); have n1_ := Aside0.mk (ho); clear HB; clear HO_8; have HB := n0_; have HO116 := n1_; clear n0_ n1_; clear ho hb hg hat))
                        go_roundg k3
                        case measure => have := HJ3.out; have := HK2.out; have := HK3.out; omega
                        case rel => exact ⟨(y114), (wrap64 (x9_2 + 1)), (by first | rfl | (simp; done) | (simp [*]; done)), H', ⟨by have := HJ3.out; have := HK2.out; have := HK3.out; omega⟩, ⟨by (with_reducible repeat (first | apply Kd.R_alloc | apply Kd.R_drewN | apply Kd.R_drew)); exact HO116.out⟩, ⟨by repeat (first | (with_reducible first | exact HB.out | apply below_alloc | apply pw_below_drewN | apply below_drew1) | exact HB.out)⟩⟩
                      · rw [if_neg c19] at H
                        exact absurd H (by simp)
              · rw [if_neg c10] at H
                have c10b0 : decide (x9_2 < a2) = false := decide_eq_false c10
                clear c10
                simp only [Option.some.injEq, Prod.mk.injEq] at H
                obtain ⟨rfl, rfl⟩ := H
                go_wp2
                go_ret2
                exact ⟨_, by first | rfl | (simp [errW_none, errW_some] <;> rfl) | (simp [*, errW_none, errW_some] <;> rfl), by (with_reducible repeat (first | apply Kd.R_alloc | apply Kd.R_drewN | apply Kd.R_drew)); exact HO_8.out, by repeat (first | (with_reducible first | exact HB.out | apply below_alloc | apply pw_below_drewN | apply below_drew1) | exact HB.out)⟩

end Go.Proofs.Ytpccfanjdbenlaa.PM11
