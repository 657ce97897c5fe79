/- Printed for this claim by a program of this session over the kit's print program: the Go functions as Lean functions, and proofs that the calls come to these answers. No conditions. -/
import Derived.Test.YtlonbchidopcpaaPL10x0
namespace Go.Proofs.Ytlonbchidopcpaa.PL10
open Go.RowKit Go.Proofs.YtlonbchidopcpaaW.PrintWords Go.Proofs.YtlonbchidopcpaaW.PrintLast Go.Proofs.YtlonbchidopcpaaW.PrintMore
attribute [local go_sem] max2_int min2_int max_two min_two max_three min_three max_four min_four   -- for this text's walks alone
set_option linter.unusedVariables false
set_option linter.unusedSimpArgs false

/-! ### vitrineref10_many: function 21 -/
def vitrineref10_many.l0 : Nat → Int → Int → Int → Int → Option (Int)
  | 0, _, _, _, _ => none
  | k + 1, x0, x2, x7, x8 => if x8 < x0 then (vitrineref10_many.l0 k x0 x2 (wrap64 (x7 + 1)) (wrap64 (x8 + x2))) else (some x7)
def vitrineref10_many.f (k : Nat) (a0 : Int) (a1 : Int) (a2 : Int) : Option (Int) := vitrineref10_many.l0 k a0 a2 0 a1
theorem vitrineref10_many.mono_l : ∀ k, (∀ y0 y1 y2 y3, LeO (vitrineref10_many.l0 k y0 y1 y2 y3) (vitrineref10_many.l0 (k + 1) y0 y1 y2 y3))
  | 0 => fun _ _ _ _ r h => by simp [vitrineref10_many.l0] at h
  | k + 1 => by
    have ih0 := vitrineref10_many.mono_l k
    · intro y0 y1 y2 y3
      unfold vitrineref10_many.l0
      repeat' first
      | (with_reducible exact ih0 _ _ _ _)
      | (with_reducible exact LeO.refl _)
      | (with_reducible exact LeO.none _)
      | (with_reducible refine LeO.ite ?_ ?_)
      | (with_reducible refine LeO.bind ?_ (fun _ => ?_))
      | exact ih0 _ _ _ _
      | exact LeO.none _
      | refine LeO.ite ?_ ?_
      | refine LeO.bind ?_ (fun _ => ?_)
theorem vitrineref10_many.mono : ∀ a0 a1 a2 k, LeO (vitrineref10_many.f k a0 a1 a2) (vitrineref10_many.f (k + 1) a0 a1 a2) := by
  intro a0 a1 a2 k
  have ih0 := vitrineref10_many.mono_l k
  unfold vitrineref10_many.f
  repeat' first
      | (with_reducible exact ih0 _ _ _ _)
      | (with_reducible exact LeO.refl _)
      | (with_reducible exact LeO.none _)
      | (with_reducible refine LeO.ite ?_ ?_)
      | (with_reducible refine LeO.bind ?_ (fun _ => ?_))
      | exact ih0 _ _ _ _
      | exact LeO.none _
      | refine LeO.ite ?_ ?_
      | refine LeO.bind ?_ (fun _ => ?_)
set_option maxHeartbeats 40000000 in
set_option maxRecDepth 100000 in
theorem vitrineref10_many.calls (k : Nat) (a0 : Int) (a1 : Int) (a2 : Int) (r : Int) (w : World) (h : vitrineref10_many.f k a0 a1 a2 = some r) :
    Calls Try.prog 21 #[.int .i64 a0, .int .i64 a1, .int .i64 a2] w fun e w' => e = .returned (.int .i64 r) ∧ Drawn0 w w' := by
  have H : (vitrineref10_many.l0 k a0 a2 0 a1) = some r := h
  clear h
  have H' := Aside0.mk H
  clear H
  go_enter Try.func21, Try.ntmps21
  go_wp2
  go_loopg [7, 8] k (fun kq v7 v8 w' => ∃ (x7_1 : Int) (x8_1 : Int), v7 = .int .i64 x7_1 ∧ v8 = .int .i64 x8_1 ∧ Aside0 (vitrineref10_many.l0 kq a0 a2 x7_1 x8_1 = some r) ∧ Aside0 (kq ≤ k) ∧ Drawn0 w w')
  case atStart => exact ⟨(0), (a1), (by first | rfl | (simp; done) | (simp [*]; done)), (by first | rfl | (simp; done) | (simp [*]; done)), H', ⟨Nat.le_refl _⟩, by repeat (first | exact Drawn0.refl _ | apply Drawn0.step)⟩
  case round =>
    clear H'
    try clear c2
    try clear p2
    obtain ⟨x7_1, x8_1, rfl, rfl, HA, HK1, ⟨m1, rfl⟩⟩ := hrel
    cases gk with
    | zero => exact absurd HA.out (by simp [vitrineref10_many.l0])
    | succ k1 =>
      have H := HA.out
      clear HA
      simp only [vitrineref10_many.l0] at H
      by_cases c4 : x8_1 < a0
      · rw [if_pos c4] at H
        have c4b0 : decide (x8_1 < a0) = true := decide_eq_true c4
        clear c4
        have H' := Aside0.mk H
        clear H
        go_wp2
        go_roundg k1
        case measure => have := HK1.out; omega
        case rel => exact ⟨(wrap64 (x7_1 + 1)), (wrap64 (x8_1 + a2)), (by first | rfl | (simp; done) | (simp [*]; done)), (by first | rfl | (simp; done) | (simp [*]; done)), H', ⟨by have := HK1.out; omega⟩, by repeat (first | exact Drawn0.refl _ | apply Drawn0.step)⟩
      · rw [if_neg c4] at H
        have c4b0 : decide (x8_1 < a0) = false := decide_eq_false c4
        clear c4
        obtain rfl := Option.some.inj H
        go_wp2
        go_ret
        exact ⟨by first | rfl | (simp; done) | (simp [*]; done), by repeat (first | exact Drawn0.refl _ | apply Drawn0.step)⟩

end Go.Proofs.Ytlonbchidopcpaa.PL10
