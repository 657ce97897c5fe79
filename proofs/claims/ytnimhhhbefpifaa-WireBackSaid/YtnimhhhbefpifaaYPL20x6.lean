/- Printed for this claim by a program of this session over the kit's print program: the Go functions as Lean functions, and proofs that the calls come to these answers. No conditions. -/
import Derived.Test.YtnimhhhbefpifaaYPL20x0
namespace Go.Proofs.Ytnimhhhbefpifaa.PL20
open Go.RowKit Go.Proofs.YtnimhhhbefpifaaW.PrintWords Go.Proofs.YtnimhhhbefpifaaW.PrintLast Go.Proofs.YtnimhhhbefpifaaW.PrintMore
attribute [local go_sem] max2_int min2_int max_two min_two max_three min_three max_four min_four   -- for this text's walks alone
set_option linter.unusedVariables false
set_option linter.unusedSimpArgs false

-- NOT PRINTED: function 43 (slices_IndexFunc_string_string)

/-! ### slices_ContainsFunc_string_string: function 35 -/
/-- Is a band too long? -/
def wlong (s : ByteArray) : Bool := decide (65536 < (s.size : Int))
/-- The closure of wire.right. -/
theorem wire_right_long.calls (s : ByteArray) (w : World) : Calls Try.prog 36 #[.string s] w fun e w' => e = .returned (.bool (wlong s)) ∧ w = w' := by
  unfold wlong
  by_cases h : 65536 < (s.size : Int)
  · have h0 : decide (65536 < (s.size : Int)) = true := decide_eq_true h
    have h1 : decide (65536 < s.size) = true := decide_eq_true (by omega)
    rw [h0]
    go_enter Try.func36, Try.ntmps36
    go_wp2
    go_ret
    exact ⟨by first | rfl | (simp; omega), rfl⟩
  · have h0 : decide (65536 < (s.size : Int)) = false := decide_eq_false h
    have h1 : decide (65536 < s.size) = false := decide_eq_false (by omega)
    rw [h0]
    go_enter Try.func36, Try.ntmps36
    go_wp2
    go_ret
    exact ⟨by first | rfl | (simp; omega), rfl⟩
def wlongIdx : Nat → List ByteArray → Int → Option Int
  | 0, _, _ => none
  | k + 1, l, i => if i < (l.length : Int) then (if 0 ≤ i then (if wlong (rdOf ByteArray.empty l i) = true then some i else wlongIdx k l (wrap64 (i + 1))) else none) else some (-1)
theorem wlongIdx_mono : ∀ (k : Nat) (l : List ByteArray) (i : Int), LeO (wlongIdx k l i) (wlongIdx (k + 1) l i)
  | 0 => fun _ _ r h => by simp [wlongIdx] at h
  | k + 1 => by
    intro l i
    unfold wlongIdx
    refine LeO.ite (LeO.ite (LeO.ite (LeO.refl _) (wlongIdx_mono k _ _)) (LeO.refl _)) (LeO.refl _)
set_option maxHeartbeats 8000000 in
set_option maxRecDepth 100000 in
theorem wire_right_longIndex.calls (k : Nat) (A : Option Addr) (c : Nat) (l : List ByteArray) (r : Int) (w : World)
    (hr : Kd.C Kd.string w A l.length l) (hl : l.length ≤ c) (h : wlongIdx k l 0 = some r) :
    Calls Try.prog 43 #[.slice A l.length c, .func (.func 36) #[] #[]] w fun e w' => e = .returned (.int .i64 r) ∧ Drawn0 w w' := by
  have HR0 := Aside0.mk hr
  have HC0 := Aside0.mk hl
  have H' := Aside0.mk h
  clear hr hl h
  go_enter Try.func43, Try.ntmps43
  go_wp2
  go_loopg [8] k (fun kq v8 w' => ∃ (x8_1 : Int), v8 = .int .i64 x8_1 ∧ Aside0 (wlongIdx kq l x8_1 = some r) ∧ Aside0 (kq ≤ k) ∧ Drawn0 w w')
  case atStart => exact ⟨(0), (by first | rfl | (simp; done) | (simp [*]; done)), H', ⟨Nat.le_refl _⟩, by repeat (first | exact Drawn0.refl _ | apply Drawn0.step)⟩
  case round =>
    clear H'
    obtain ⟨x8_1, rfl, HA, HK1, ⟨m1, rfl⟩⟩ := hrel
    cases gk with
    | zero => exact absurd HA.out (by simp [wlongIdx])
    | succ k1 =>
      have H := HA.out
      clear HA
      simp only [wlongIdx] at H
      by_cases c3 : x8_1 < (l.length : Int)
      · rw [if_pos c3] at H
        have c3b0 : decide (x8_1 < (l.length : Int)) = true := decide_eq_true c3
        by_cases c4 : 0 ≤ x8_1
        · rw [if_pos c4] at H
          have p101 : 0 ≤ (x8_1 : Int) := c4
          have q101 : x8_1 < (l.length : Int) := c3
          clear c3
          have c4b0 : decide (0 ≤ x8_1) = true := decide_eq_true c4
          clear c4
          obtain ⟨ad101, e101, hx101_0⟩ := Kd.at_string HR0.out x8_1 p101 q101
          cases e101
          replace p101 := eq_true p101
          replace q101 := eq_true q101
          have cl := Aside0.mk (wire_right_long.calls (rdOf ByteArray.empty l x8_1) (w.drewN m1))
          by_cases c6 : wlong (rdOf ByteArray.empty l x8_1) = true
          · rw [if_pos c6] at H
            rw [c6] at cl
            clear c6
            obtain rfl := Option.some.inj H
            go_wp2_with (go_at_call 36; refine cl.out.mono ?_; rintro e w' ⟨rfl, rfl⟩)
            go_ret
            exact ⟨by first | rfl | (simp; done) | (simp [*]; done), by repeat (first | exact Drawn0.refl _ | apply Drawn0.step)⟩
          · rw [if_neg c6] at H
            rw [Bool.eq_false_iff.mpr c6] at cl
            clear c6
            have H' := Aside0.mk H
            clear H
            go_wp2_with (go_at_call 36; refine cl.out.mono ?_; rintro e w' ⟨rfl, rfl⟩)
            go_roundg k1
            case measure => have := HK1.out; omega
            case rel => exact ⟨(wrap64 (x8_1 + 1)), (by first | rfl | (simp; done) | (simp [*]; done)), H', ⟨by have := HK1.out; omega⟩, by repeat (first | exact Drawn0.refl _ | apply Drawn0.step)⟩
        · rw [if_neg c4] at H
          exact absurd H (by simp)
      · rw [if_neg c3] at H
        have c3b0 : decide (x8_1 < (l.length : Int)) = false := decide_eq_false c3
        clear c3
        obtain rfl := Option.some.inj H
        go_wp2
        go_ret
        exact ⟨by first | rfl | (simp; done) | (simp [*]; done), by repeat (first | exact Drawn0.refl _ | apply Drawn0.step)⟩
def slices_ContainsFunc_string_string.f (k : Nat) (l : List ByteArray) : Option Bool := (wlongIdx k l 0).bind fun t => some (decide (t ≥ 0))
theorem slices_ContainsFunc_string_string.mono : ∀ (l : List ByteArray) k, LeO (slices_ContainsFunc_string_string.f k l) (slices_ContainsFunc_string_string.f (k + 1) l) := by
  intro l k
  unfold slices_ContainsFunc_string_string.f
  exact LeO.bind (wlongIdx_mono _ _ _) (fun _ => LeO.refl _)
set_option maxHeartbeats 8000000 in
set_option maxRecDepth 100000 in
theorem slices_ContainsFunc_string_string.calls (k : Nat) (A : Option Addr) (c : Nat) (l : List ByteArray) (r : Bool) (w : World) (hr : Kd.C Kd.string w A l.length l) (hl : l.length ≤ c) (h : slices_ContainsFunc_string_string.f k l = some r) :
    Calls Try.prog 35 #[.slice A l.length c, .func (.func 36) #[] #[]] w fun e w' => e = .returned (.bool r) ∧ Drawn0 w w' := by
  unfold slices_ContainsFunc_string_string.f at h
  obtain ⟨t, ht, h2⟩ := Option.bind_eq_some_iff.mp h
  obtain rfl := Option.some.inj h2
  have cl := Aside0.mk (wire_right_longIndex.calls k A c l t w hr hl ht)
  clear h2 h hr hl ht
  go_enter Try.func35, Try.ntmps35
  go_wp2_with (go_at_call 43; refine cl.out.mono ?_; rintro e w' ⟨rfl, ⟨nd, rfl⟩⟩)
  go_ret
  exact ⟨by first | rfl | (simp; done) | (simp [*]; done), by repeat (first | exact Drawn0.refl _ | apply Drawn0.step)⟩

end Go.Proofs.Ytnimhhhbefpifaa.PL20
