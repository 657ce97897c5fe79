/- Printed for this claim by a program of this session over the kit's print program: the Go functions as Lean functions, and proofs that the calls come to these answers. No conditions. -/
import Derived.Test.YtaomopibnehanaaPF09x0
import Derived.Test.YtaomopibnehanaaPF09x3
import Derived.Test.YtaomopibnehanaaPF09x5
namespace Go.Proofs.Ytaomopibnehanaa.PF09
open Go.RowKit Go.Proofs.YtaomopibnehanaaW.PrintWords Go.Proofs.YtaomopibnehanaaW.PrintLast Go.Proofs.YtaomopibnehanaaW.PrintMore
attribute [local go_sem] max2_int min2_int max_two min_two max_three min_three max_four min_four   -- for this text's walks alone
set_option linter.unusedVariables false
set_option linter.unusedSimpArgs false

/-! ### vitrinelaw09_FilterUp: function 9 -/
mutual
def vitrinelaw09_FilterUp.j0 : Nat → ByteArray → ByteArray → Int → Int → ByteArray → Int → Bool → Option (Bool)
  | 0, _, _, _, _, _, _, _ => none
  | k + 1, x1, x5, x7, x8, x9, x10, x57 => if x57 = true then (some false) else (vitrinelaw09_FilterUp.l0 k x1 x5 x7 x8 x9 x10 0)
def vitrinelaw09_FilterUp.l0 : Nat → ByteArray → ByteArray → Int → Int → ByteArray → Int → Int → Option (Bool)
  | 0, _, _, _, _, _, _, _ => none
  | k + 1, x1, x5, x7, x8, x9, x10, x11 => if x11 < (x1.size : Int) then (if 0 ≤ x11 then (if x11 < (x5.size : Int) then (if (bt x5 x11) = 0 then (if x11 < (x9.size : Int) then (if (bt x9 x11) = 0 then (vitrinelaw09_FilterUp.l0 k x1 x5 x7 x8 x9 x10 (wrap64 (x11 + 1))) else (some false)) else (none)) else (some false)) else (none)) else (none)) else (if x8 = 0 then (if x10 = 0 then (if x7 ≤ 2 then ((vitrinelaw09_awake.f k).bind fun t231 => (some t231)) else (some false)) else (some false)) else (some false))
end
def vitrinelaw09_FilterUp.f (k : Nat) (a0 : Int) (a1 : ByteArray) : Option (Bool) := (filter_Do.f k a0 2 a1 a1).bind fun bt224 => ((filter_Pick.f k a0 a1 a1).bind fun bt226 => (if bt224.2 = 0 then ((filter_Do.f k a0 bt226.1 a1 a1).bind fun bt229 => (if (bt224.1.size : Int) = (a1.size : Int) then (vitrinelaw09_FilterUp.j0 k a1 bt224.1 bt226.1 bt226.2 bt229.1 bt229.2 ((bt229.1.size : Int) != (a1.size : Int))) else (vitrinelaw09_FilterUp.j0 k a1 bt224.1 bt226.1 bt226.2 bt229.1 bt229.2 true))) else (if bt224.2 = 1 then (if bt226.2 = bt224.2 then ((vitrinelaw09_awake.f k).bind fun t228 => (some t228)) else (some false)) else (some false))))
theorem vitrinelaw09_FilterUp.mono_l : ∀ k, (∀ y0 y1 y2 y3 y4 y5 y6, LeO (vitrinelaw09_FilterUp.j0 k y0 y1 y2 y3 y4 y5 y6) (vitrinelaw09_FilterUp.j0 (k + 1) y0 y1 y2 y3 y4 y5 y6)) ∧ (∀ y0 y1 y2 y3 y4 y5 y6, LeO (vitrinelaw09_FilterUp.l0 k y0 y1 y2 y3 y4 y5 y6) (vitrinelaw09_FilterUp.l0 (k + 1) y0 y1 y2 y3 y4 y5 y6))
  | 0 => ⟨fun _ _ _ _ _ _ _ r h => by simp [vitrinelaw09_FilterUp.j0] at h, fun _ _ _ _ _ _ _ r h => by simp [vitrinelaw09_FilterUp.l0] at h⟩
  | k + 1 => by
    obtain ⟨ih0, ih1⟩ := vitrinelaw09_FilterUp.mono_l k
    refine ⟨?_, ?_⟩
    · intro y0 y1 y2 y3 y4 y5 y6
      unfold vitrinelaw09_FilterUp.j0
      repeat' first
      | (with_reducible exact ih0 _ _ _ _ _ _ _)
      | (with_reducible exact ih1 _ _ _ _ _ _ _)
      | (with_reducible exact filter_Do.mono _ _ _ _ _)
      | (with_reducible exact filter_Pick.mono _ _ _ _)
      | (with_reducible exact vitrinelaw09_awake.mono _)
      | (with_reducible exact LeO.refl _)
      | (with_reducible exact LeO.none _)
      | (with_reducible refine LeO.ite ?_ ?_)
      | (with_reducible refine LeO.bind ?_ (fun _ => ?_))
      | exact ih0 _ _ _ _ _ _ _
      | exact ih1 _ _ _ _ _ _ _
      | exact filter_Do.mono _ _ _ _ _
      | exact filter_Pick.mono _ _ _ _
      | exact vitrinelaw09_awake.mono _
      | exact LeO.none _
      | refine LeO.ite ?_ ?_
      | refine LeO.bind ?_ (fun _ => ?_)
    · intro y0 y1 y2 y3 y4 y5 y6
      unfold vitrinelaw09_FilterUp.l0
      repeat' first
      | (with_reducible exact ih0 _ _ _ _ _ _ _)
      | (with_reducible exact ih1 _ _ _ _ _ _ _)
      | (with_reducible exact filter_Do.mono _ _ _ _ _)
      | (with_reducible exact filter_Pick.mono _ _ _ _)
      | (with_reducible exact vitrinelaw09_awake.mono _)
      | (with_reducible exact LeO.refl _)
      | (with_reducible exact LeO.none _)
      | (with_reducible refine LeO.ite ?_ ?_)
      | (with_reducible refine LeO.bind ?_ (fun _ => ?_))
      | exact ih0 _ _ _ _ _ _ _
      | exact ih1 _ _ _ _ _ _ _
      | exact filter_Do.mono _ _ _ _ _
      | exact filter_Pick.mono _ _ _ _
      | exact vitrinelaw09_awake.mono _
      | exact LeO.none _
      | refine LeO.ite ?_ ?_
      | refine LeO.bind ?_ (fun _ => ?_)
theorem vitrinelaw09_FilterUp.mono : ∀ a0 a1 k, LeO (vitrinelaw09_FilterUp.f k a0 a1) (vitrinelaw09_FilterUp.f (k + 1) a0 a1) := by
  intro a0 a1 k
  obtain ⟨ih0, ih1⟩ := vitrinelaw09_FilterUp.mono_l k
  unfold vitrinelaw09_FilterUp.f
  repeat' first
      | (with_reducible exact ih0 _ _ _ _ _ _ _)
      | (with_reducible exact ih1 _ _ _ _ _ _ _)
      | (with_reducible exact filter_Do.mono _ _ _ _ _)
      | (with_reducible exact filter_Pick.mono _ _ _ _)
      | (with_reducible exact vitrinelaw09_awake.mono _)
      | (with_reducible exact LeO.refl _)
      | (with_reducible exact LeO.none _)
      | (with_reducible refine LeO.ite ?_ ?_)
      | (with_reducible refine LeO.bind ?_ (fun _ => ?_))
      | exact ih0 _ _ _ _ _ _ _
      | exact ih1 _ _ _ _ _ _ _
      | exact filter_Do.mono _ _ _ _ _
      | exact filter_Pick.mono _ _ _ _
      | exact vitrinelaw09_awake.mono _
      | exact LeO.none _
      | refine LeO.ite ?_ ?_
      | refine LeO.bind ?_ (fun _ => ?_)
set_option maxHeartbeats 8000000 in
set_option maxRecDepth 100000 in
theorem vitrinelaw09_FilterUp.calls (k : Nat) (a0 : Int) (a1 : ByteArray) (r : Bool) (w : World) (h : vitrinelaw09_FilterUp.f k a0 a1 = some r) :
    Calls Try.prog 9 #[.int .i64 a0, .string a1] w fun e w' => e = .returned (.bool r) ∧ Below w.heap.size w w' := by
  have HB := Aside0.mk (Below.refl w.heap.size w)
  have H : ((filter_Do.f k a0 2 a1 a1).bind fun bt224 => ((filter_Pick.f k a0 a1 a1).bind fun bt226 => (if bt224.2 = 0 then ((filter_Do.f k a0 bt226.1 a1 a1).bind fun bt229 => (if (bt224.1.size : Int) = (a1.size : Int) then (vitrinelaw09_FilterUp.j0 k a1 bt224.1 bt226.1 bt226.2 bt229.1 bt229.2 ((bt229.1.size : Int) != (a1.size : Int))) else (vitrinelaw09_FilterUp.j0 k a1 bt224.1 bt226.1 bt226.2 bt229.1 bt229.2 true))) else (if bt224.2 = 1 then (if bt226.2 = bt224.2 then ((vitrinelaw09_awake.f k).bind fun t228 => (some t228)) else (some false)) else (some false))))) = some r := h
  clear h
  replace H := Option.bind_eq_some_iff.mp H
  obtain ⟨⟨t224, t225⟩, A30, H⟩ := H
  replace H : ((filter_Pick.f k a0 a1 a1).bind fun bt226 => (if t225 = 0 then ((filter_Do.f k a0 bt226.1 a1 a1).bind fun bt229 => (if (t224.size : Int) = (a1.size : Int) then (vitrinelaw09_FilterUp.j0 k a1 t224 bt226.1 bt226.2 bt229.1 bt229.2 ((bt229.1.size : Int) != (a1.size : Int))) else (vitrinelaw09_FilterUp.j0 k a1 t224 bt226.1 bt226.2 bt229.1 bt229.2 true))) else (if t225 = 1 then (if bt226.2 = t225 then ((vitrinelaw09_awake.f k).bind fun t228 => (some t228)) else (some false)) else (some false)))) = some r := H
  have A3 := Aside0.mk A30
  clear A30
  replace H := Option.bind_eq_some_iff.mp H
  obtain ⟨⟨t226, t227⟩, A40, H⟩ := H
  replace H : (if t225 = 0 then ((filter_Do.f k a0 t226 a1 a1).bind fun bt229 => (if (t224.size : Int) = (a1.size : Int) then (vitrinelaw09_FilterUp.j0 k a1 t224 t226 t227 bt229.1 bt229.2 ((bt229.1.size : Int) != (a1.size : Int))) else (vitrinelaw09_FilterUp.j0 k a1 t224 t226 t227 bt229.1 bt229.2 true))) else (if t225 = 1 then (if t227 = t225 then ((vitrinelaw09_awake.f k).bind fun t228 => (some t228)) else (some false)) else (some false))) = some r := H
  have A4 := Aside0.mk A40
  clear A40
  by_cases c5 : t225 = 0
  · rw [if_pos c5] at H
    have c5b0 : (t225 == 0) = true := beq_iff_eq.mpr c5
    have c5b1 : (t225 != 0) = false := bne_eq_false_iff_eq.mpr c5
    clear c5
    replace H := Option.bind_eq_some_iff.mp H
    obtain ⟨⟨t229, t230⟩, A60, H⟩ := H
    replace H : (if (t224.size : Int) = (a1.size : Int) then (vitrinelaw09_FilterUp.j0 k a1 t224 t226 t227 t229 t230 ((t229.size : Int) != (a1.size : Int))) else (vitrinelaw09_FilterUp.j0 k a1 t224 t226 t227 t229 t230 true)) = some r := H
    have A6 := Aside0.mk A60
    clear A60
    have HC7 := Aside0.mk H
    clear H
    go_enter Try.func9, Try.ntmps9
    go_upto_region 6 with (first | ((with_reducible refine gate_callee (f := 10) rfl ?_); refine goesL_ (some 16) rfl rfl Try.func10 (by kernel_rfl) rfl #[.int .i64 a0, .int .i64 2, .string a1, .string a1] rfl (by (try simp only [List.map_toArray, List.map_cons, List.map_nil]); first | done | rfl | (simp only [List.length_drop, List.length_take]; rfl)) ?_; (with_reducible refine (filter_Do.calls k a0 2 a1 a1 t224 t225 _ A3.out).mono ?_); rintro e w8 ⟨rfl, hb⟩; refine ⟨_, rfl, ?_⟩; have n0_ := Aside0.mk (below_step (by repeat (first | (with_reducible first | exact HB.out | apply below_alloc | apply pw_below_drewN | apply below_drew1) | exact HB.out)) hb); clear HB; have HB := n0_; clear n0_; (try clear hb); (try clear hb2); (try clear hk); (try clear hi)) | ((with_reducible refine gate_callee (f := 15) rfl ?_); refine goesL_ (some 23) rfl rfl Try.func15 (by kernel_rfl) rfl #[.int .i64 a0, .string a1, .string a1] rfl (by (try simp only [List.map_toArray, List.map_cons, List.map_nil]); first | done | rfl | (simp only [List.length_drop, List.length_take]; rfl)) ?_; (with_reducible refine (filter_Pick.calls k a0 a1 a1 t226 t227 _ A4.out).mono ?_); rintro e w9 ⟨rfl, hb⟩; refine ⟨_, rfl, ?_⟩; have n0_ := Aside0.mk (below_step (by repeat (first | (with_reducible first | exact HB.out | apply below_alloc | apply pw_below_drewN | apply below_drew1) | exact HB.out)) hb); clear HB; have HB := n0_; clear n0_; (try clear hb); (try clear hb2); (try clear hk); (try clear hi)) | ((with_reducible refine gate_callee (f := 10) rfl ?_); refine goesL_ (some 43) rfl rfl Try.func10 (by kernel_rfl) rfl #[.int .i64 a0, .int .i64 t226, .string a1, .string a1] rfl (by (try simp only [List.map_toArray, List.map_cons, List.map_nil]); first | done | rfl | (simp only [List.length_drop, List.length_take]; rfl)) ?_; (with_reducible refine (filter_Do.calls k a0 t226 a1 a1 t229 t230 _ A6.out).mono ?_); rintro e w10 ⟨rfl, hb⟩; refine ⟨_, rfl, ?_⟩; have n0_ := Aside0.mk (below_step (by repeat (first | (with_reducible first | exact HB.out | apply below_alloc | apply pw_below_drewN | apply below_drew1) | exact HB.out)) hb); clear HB; have HB := n0_; clear n0_; (try clear hb); (try clear hb2); (try clear hk); (try clear hi)))
    (try simp only [Act.put, List.setIfInBounds_toArray, List.set_cons_zero, List.set_cons_succ])
    go_cut [57] (fun v57 wc => ∃ (kq : Nat) (x57_6 : Bool), v57 = .bool x57_6 ∧ Aside0 (vitrinelaw09_FilterUp.j0 kq a1 t224 t226 t227 t229 t230 x57_6 = some r) ∧ Aside0 (kq ≤ k) ∧ Aside0 (Below w.heap.size w wc))
    case first =>
      have H := HC7.out
      clear HC7
      by_cases c11 : (t224.size : Int) = (a1.size : Int)
      · rw [if_pos c11] at H
        have c11b0 : ((t224.size : Int) == (a1.size : Int)) = true := beq_iff_eq.mpr c11
        have c11b1 : ((t224.size : Int) != (a1.size : Int)) = false := bne_eq_false_iff_eq.mpr c11
        have c11b2 : (t224.size == a1.size) = true := by first | simpa using c11 | (simp at c11 ⊢; omega)
        clear c11
        (first | rw [c11b0] | (simp only [i64_w, i32_w]; rw [c11b0]) | skip)
        have H' := Aside0.mk H
        clear H
        go_wp2
        go_meet
        case rel => exact ⟨_, (((t229.size : Int) != (a1.size : Int))), (by first | rfl | (simp; done) | (simp [*]; done)), H', ⟨by first | omega | exact Nat.le_refl _⟩, ⟨by repeat (first | (with_reducible first | exact HB.out | apply below_alloc | apply pw_below_drewN | apply below_drew1) | exact HB.out)⟩⟩
      · rw [if_neg c11] at H
        have c11b0 : ((t224.size : Int) == (a1.size : Int)) = false := beq_eq_false_iff_ne.mpr c11
        have c11b1 : ((t224.size : Int) != (a1.size : Int)) = true := bne_iff_ne.mpr c11
        have c11b2 : (t224.size == a1.size) = false := by first | simpa using c11 | (simp at c11 ⊢; omega)
        (first | rw [c11b0] | (simp only [i64_w, i32_w]; rw [c11b0]) | skip)
        have H' := Aside0.mk H
        clear H
        go_wp2
        go_meet
        case rel => exact ⟨_, (true), (by first | rfl | (simp; done) | (simp [*]; done)), H', ⟨by first | omega | exact Nat.le_refl _⟩, ⟨by repeat (first | (with_reducible first | exact HB.out | apply below_alloc | apply pw_below_drewN | apply below_drew1) | exact HB.out)⟩⟩
    case rest =>
      clear HC7
      try clear c1
      try clear p2
      try clear c5
      try clear c5b0
      try clear c5b1
      try clear c9
      try clear c10
      try clear c11
      try clear c11b0
      try clear c11b1
      try clear c11b2
      obtain ⟨kq, x57_6, rfl, HA, HJ6, HB⟩ := hcut
      cases kq with
      | zero => exact absurd HA.out (by simp [vitrinelaw09_FilterUp.j0])
      | succ kj6 =>
        have H := HA.out
        clear HA
        simp only [vitrinelaw09_FilterUp.j0] at H
        by_cases c12 : x57_6 = true
        · subst c12
          have H1 : (some false) = some r := by rw [if_pos rfl] at H; exact H
          clear H
          have H := H1
          clear H1
          obtain rfl := Option.some.inj H
          go_wp2
          go_ret
          exact ⟨by first | rfl | (simp [errW_none, errW_some] <;> rfl) | (simp [*, errW_none, errW_some] <;> rfl), by repeat (first | (with_reducible first | exact HB.out | apply below_alloc | apply pw_below_drewN | apply below_drew1) | exact HB.out)⟩
        · replace c12 := Bool.eq_false_iff.mpr c12
          subst c12
          have H1 : (vitrinelaw09_FilterUp.l0 kj6 a1 t224 t226 t227 t229 t230 0) = some r := by rw [if_neg (show ¬ (false = true) by decide)] at H; exact H
          clear H
          have H := H1
          clear H1
          have H' := Aside0.mk H
          clear H
          go_wp2
          go_loopg [11] kj6 (fun kq v11 w' => ∃ (x11_2 : Int), v11 = .int .i64 x11_2 ∧ Aside0 (vitrinelaw09_FilterUp.l0 kq a1 t224 t226 t227 t229 t230 x11_2 = some r) ∧ Aside0 (kq ≤ kj6) ∧ Aside0 (Below w.heap.size w w'))
          case atStart => exact ⟨(0), (by first | rfl | (simp; done) | (simp [*]; done)), H', ⟨Nat.le_refl _⟩, ⟨by repeat (first | (with_reducible first | exact HB.out | apply below_alloc | apply pw_below_drewN | apply below_drew1) | exact HB.out)⟩⟩
          case round =>
            clear H'
            try clear c1
            try clear p2
            try clear c5
            try clear c5b0
            try clear c5b1
            try clear c9
            try clear c10
            try clear c11
            try clear c11b0
            try clear c11b1
            try clear c11b2
            try clear c12
            try clear p2
            obtain ⟨x11_2, rfl, HA, HK2, HB⟩ := hrel
            cases gk with
            | zero => exact absurd HA.out (by simp [vitrinelaw09_FilterUp.l0])
            | succ k2 =>
              have H := HA.out
              clear HA
              simp only [vitrinelaw09_FilterUp.l0] at H
              by_cases c13 : x11_2 < (a1.size : Int)
              · rw [if_pos c13] at H
                have c13b0 : decide (x11_2 < (a1.size : Int)) = true := decide_eq_true c13
                clear c13
                by_cases c14 : 0 ≤ x11_2
                · rw [if_pos c14] at H
                  have c14b0 : decide (0 ≤ x11_2) = true := decide_eq_true c14
                  clear c14
                  by_cases c15 : x11_2 < (t224.size : Int)
                  · rw [if_pos c15] at H
                    have c15b0 : decide (x11_2 < (t224.size : Int)) = true := decide_eq_true c15
                    clear c15
                    by_cases c17 : (bt t224 x11_2) = 0
                    · rw [if_pos c17] at H
                      have c17b0 : ((bt t224 x11_2) == 0) = true := beq_iff_eq.mpr c17
                      have c17b1 : ((bt t224 x11_2) != 0) = false := bne_eq_false_iff_eq.mpr c17
                      clear c17
                      by_cases c18 : x11_2 < (t229.size : Int)
                      · rw [if_pos c18] at H
                        have c18b0 : decide (x11_2 < (t229.size : Int)) = true := decide_eq_true c18
                        clear c18
                        by_cases c20 : (bt t229 x11_2) = 0
                        · rw [if_pos c20] at H
                          have c20b0 : ((bt t229 x11_2) == 0) = true := beq_iff_eq.mpr c20
                          have c20b1 : ((bt t229 x11_2) != 0) = false := bne_eq_false_iff_eq.mpr c20
                          clear c20
                          have H' := Aside0.mk H
                          clear H
                          have p16 : 0 ≤ (x11_2 : Int) := of_decide_eq_true (by first | (with_reducible assumption) | assumption)
                          have q16 : x11_2 < (t224.size : Int) := of_decide_eq_true (by first | (with_reducible assumption) | assumption)
                          have hx16 := bt_at t224 x11_2
                          replace p16 := eq_true p16
                          replace q16 := eq_true q16
                          have p19 : 0 ≤ (x11_2 : Int) := of_decide_eq_true (by first | (with_reducible assumption) | assumption)
                          have q19 : x11_2 < (t229.size : Int) := of_decide_eq_true (by first | (with_reducible assumption) | assumption)
                          have hx19 := bt_at t229 x11_2
                          replace p19 := eq_true p19
                          replace q19 := eq_true q19
                          go_wp2
                          go_roundg k2
                          case measure => have := HJ6.out; have := HK2.out; omega
                          case rel => exact ⟨(wrap64 (x11_2 + 1)), (by first | rfl | (simp; done) | (simp [*]; done)), H', ⟨by have := HJ6.out; have := HK2.out; omega⟩, ⟨by repeat (first | (with_reducible first | exact HB.out | apply below_alloc | apply pw_below_drewN | apply below_drew1) | exact HB.out)⟩⟩
                        · rw [if_neg c20] at H
                          have c20b0 : ((bt t229 x11_2) == 0) = false := beq_eq_false_iff_ne.mpr c20
                          have c20b1 : ((bt t229 x11_2) != 0) = true := bne_iff_ne.mpr c20
                          obtain rfl := Option.some.inj H
                          have p16 : 0 ≤ (x11_2 : Int) := of_decide_eq_true (by first | (with_reducible assumption) | assumption)
                          have q16 : x11_2 < (t224.size : Int) := of_decide_eq_true (by first | (with_reducible assumption) | assumption)
                          have hx16 := bt_at t224 x11_2
                          replace p16 := eq_true p16
                          replace q16 := eq_true q16
                          have p19 : 0 ≤ (x11_2 : Int) := of_decide_eq_true (by first | (with_reducible assumption) | assumption)
                          have q19 : x11_2 < (t229.size : Int) := of_decide_eq_true (by first | (with_reducible assumption) | assumption)
                          have hx19 := bt_at t229 x11_2
                          replace p19 := eq_true p19
                          replace q19 := eq_true q19
                          go_wp2
                          go_ret
                          exact ⟨by first | rfl | (simp [errW_none, errW_some] <;> rfl) | (simp [*, errW_none, errW_some] <;> rfl), by repeat (first | (with_reducible first | exact HB.out | apply below_alloc | apply pw_below_drewN | apply below_drew1) | exact HB.out)⟩
                      · rw [if_neg c18] at H
                        exact absurd H (by simp)
                    · rw [if_neg c17] at H
                      have c17b0 : ((bt t224 x11_2) == 0) = false := beq_eq_false_iff_ne.mpr c17
                      have c17b1 : ((bt t224 x11_2) != 0) = true := bne_iff_ne.mpr c17
                      obtain rfl := Option.some.inj H
                      have p16 : 0 ≤ (x11_2 : Int) := of_decide_eq_true (by first | (with_reducible assumption) | assumption)
                      have q16 : x11_2 < (t224.size : Int) := of_decide_eq_true (by first | (with_reducible assumption) | assumption)
                      have hx16 := bt_at t224 x11_2
                      replace p16 := eq_true p16
                      replace q16 := eq_true q16
                      go_wp2
                      go_ret
                      exact ⟨by first | rfl | (simp [errW_none, errW_some] <;> rfl) | (simp [*, errW_none, errW_some] <;> rfl), by repeat (first | (with_reducible first | exact HB.out | apply below_alloc | apply pw_below_drewN | apply below_drew1) | exact HB.out)⟩
                  · rw [if_neg c15] at H
                    exact absurd H (by simp)
                · rw [if_neg c14] at H
                  exact absurd H (by simp)
              · rw [if_neg c13] at H
                have c13b0 : decide (x11_2 < (a1.size : Int)) = false := decide_eq_false c13
                clear c13
                by_cases c21 : t227 = 0
                · rw [if_pos c21] at H
                  have c21b0 : (t227 == 0) = true := beq_iff_eq.mpr c21
                  have c21b1 : (t227 != 0) = false := bne_eq_false_iff_eq.mpr c21
                  clear c21
                  by_cases c22 : t230 = 0
                  · rw [if_pos c22] at H
                    have c22b0 : (t230 == 0) = true := beq_iff_eq.mpr c22
                    have c22b1 : (t230 != 0) = false := bne_eq_false_iff_eq.mpr c22
                    clear c22
                    by_cases c23 : t226 ≤ 2
                    · rw [if_pos c23] at H
                      have c23b0 : decide (t226 ≤ 2) = true := decide_eq_true c23
                      clear c23
                      replace H := Option.bind_eq_some_iff.mp H
                      obtain ⟨t231, A240, H⟩ := H
                      replace H : (some t231) = some r := H
                      have A24 := Aside0.mk A240
                      clear A240
                      obtain rfl := Option.some.inj H
                      go_wp2_with (first | (go_at_call 12; (with_reducible refine (vitrinelaw09_awake.calls k2  t231 _ A24.out).mono ?_); rintro e w25 ⟨rfl, hb⟩; have n0_ := Aside0.mk (below_step (by repeat (first | (with_reducible first | exact HB.out | apply below_alloc | apply pw_below_drewN | apply below_drew1) | exact HB.out)) hb); clear HB; have HB := n0_; clear n0_; (try clear hb); (try clear hb2); (try clear hk); (try clear hi)))
                      go_ret
                      exact ⟨by first | rfl | (simp [errW_none, errW_some] <;> rfl) | (simp [*, errW_none, errW_some] <;> rfl), by repeat (first | (with_reducible first | exact HB.out | apply below_alloc | apply pw_below_drewN | apply below_drew1) | exact HB.out)⟩
                    · rw [if_neg c23] at H
                      have c23b0 : decide (t226 ≤ 2) = false := decide_eq_false c23
                      clear c23
                      obtain rfl := Option.some.inj H
                      go_wp2
                      go_ret
                      exact ⟨by first | rfl | (simp [errW_none, errW_some] <;> rfl) | (simp [*, errW_none, errW_some] <;> rfl), by repeat (first | (with_reducible first | exact HB.out | apply below_alloc | apply pw_below_drewN | apply below_drew1) | exact HB.out)⟩
                  · rw [if_neg c22] at H
                    have c22b0 : (t230 == 0) = false := beq_eq_false_iff_ne.mpr c22
                    have c22b1 : (t230 != 0) = true := bne_iff_ne.mpr c22
                    obtain rfl := Option.some.inj H
                    go_wp2
                    go_ret
                    exact ⟨by first | rfl | (simp [errW_none, errW_some] <;> rfl) | (simp [*, errW_none, errW_some] <;> rfl), by repeat (first | (with_reducible first | exact HB.out | apply below_alloc | apply pw_below_drewN | apply below_drew1) | exact HB.out)⟩
                · rw [if_neg c21] at H
                  have c21b0 : (t227 == 0) = false := beq_eq_false_iff_ne.mpr c21
                  have c21b1 : (t227 != 0) = true := bne_iff_ne.mpr c21
                  obtain rfl := Option.some.inj H
                  go_wp2
                  go_ret
                  exact ⟨by first | rfl | (simp [errW_none, errW_some] <;> rfl) | (simp [*, errW_none, errW_some] <;> rfl), by repeat (first | (with_reducible first | exact HB.out | apply below_alloc | apply pw_below_drewN | apply below_drew1) | exact HB.out)⟩
  · rw [if_neg c5] at H
    have c5b0 : (t225 == 0) = false := beq_eq_false_iff_ne.mpr c5
    have c5b1 : (t225 != 0) = true := bne_iff_ne.mpr c5
    by_cases c26 : t225 = 1
    · rw [if_pos c26] at H
      have c26b0 : (t225 == 1) = true := beq_iff_eq.mpr c26
      have c26b1 : (t225 != 1) = false := bne_eq_false_iff_eq.mpr c26
      clear c26
      by_cases c27 : t227 = t225
      · rw [if_pos c27] at H
        have c27b0 : (t227 == t225) = true := beq_iff_eq.mpr c27
        have c27b1 : (t227 != t225) = false := bne_eq_false_iff_eq.mpr c27
        clear c27
        replace H := Option.bind_eq_some_iff.mp H
        obtain ⟨t228, A280, H⟩ := H
        replace H : (some t228) = some r := H
        have A28 := Aside0.mk A280
        clear A280
        obtain rfl := Option.some.inj H
        go_enter Try.func9, Try.ntmps9
        go_wp2_with (first | ((with_reducible refine gate_callee (f := 10) rfl ?_); refine goesL_ (some 16) rfl rfl Try.func10 (by kernel_rfl) rfl #[.int .i64 a0, .int .i64 2, .string a1, .string a1] rfl (by (try simp only [List.map_toArray, List.map_cons, List.map_nil]); first | done | rfl | (simp only [List.length_drop, List.length_take]; rfl)) ?_; (with_reducible refine (filter_Do.calls k a0 2 a1 a1 t224 t225 _ A3.out).mono ?_); rintro e w29 ⟨rfl, hb⟩; refine ⟨_, rfl, ?_⟩; have n0_ := Aside0.mk (below_step (by repeat (first | (with_reducible first | exact HB.out | apply below_alloc | apply pw_below_drewN | apply below_drew1) | exact HB.out)) hb); clear HB; have HB := n0_; clear n0_; (try clear hb); (try clear hb2); (try clear hk); (try clear hi)) | ((with_reducible refine gate_callee (f := 15) rfl ?_); refine goesL_ (some 23) rfl rfl Try.func15 (by kernel_rfl) rfl #[.int .i64 a0, .string a1, .string a1] rfl (by (try simp only [List.map_toArray, List.map_cons, List.map_nil]); first | done | rfl | (simp only [List.length_drop, List.length_take]; rfl)) ?_; (with_reducible refine (filter_Pick.calls k a0 a1 a1 t226 t227 _ A4.out).mono ?_); rintro e w30 ⟨rfl, hb⟩; refine ⟨_, rfl, ?_⟩; have n0_ := Aside0.mk (below_step (by repeat (first | (with_reducible first | exact HB.out | apply below_alloc | apply pw_below_drewN | apply below_drew1) | exact HB.out)) hb); clear HB; have HB := n0_; clear n0_; (try clear hb); (try clear hb2); (try clear hk); (try clear hi)) | (go_at_call 12; (with_reducible refine (vitrinelaw09_awake.calls k  t228 _ A28.out).mono ?_); rintro e w31 ⟨rfl, hb⟩; have n0_ := Aside0.mk (below_step (by repeat (first | (with_reducible first | exact HB.out | apply below_alloc | apply pw_below_drewN | apply below_drew1) | exact HB.out)) hb); clear HB; have HB := n0_; clear n0_; (try clear hb); (try clear hb2); (try clear hk); (try clear hi)))
        go_ret
        exact ⟨by first | rfl | (simp [errW_none, errW_some] <;> rfl) | (simp [*, errW_none, errW_some] <;> rfl), by repeat (first | (with_reducible first | exact HB.out | apply below_alloc | apply pw_below_drewN | apply below_drew1) | exact HB.out)⟩
      · rw [if_neg c27] at H
        have c27b0 : (t227 == t225) = false := beq_eq_false_iff_ne.mpr c27
        have c27b1 : (t227 != t225) = true := bne_iff_ne.mpr c27
        obtain rfl := Option.some.inj H
        go_enter Try.func9, Try.ntmps9
        go_wp2_with (first | ((with_reducible refine gate_callee (f := 10) rfl ?_); refine goesL_ (some 16) rfl rfl Try.func10 (by kernel_rfl) rfl #[.int .i64 a0, .int .i64 2, .string a1, .string a1] rfl (by (try simp only [List.map_toArray, List.map_cons, List.map_nil]); first | done | rfl | (simp only [List.length_drop, List.length_take]; rfl)) ?_; (with_reducible refine (filter_Do.calls k a0 2 a1 a1 t224 t225 _ A3.out).mono ?_); rintro e w32 ⟨rfl, hb⟩; refine ⟨_, rfl, ?_⟩; have n0_ := Aside0.mk (below_step (by repeat (first | (with_reducible first | exact HB.out | apply below_alloc | apply pw_below_drewN | apply below_drew1) | exact HB.out)) hb); clear HB; have HB := n0_; clear n0_; (try clear hb); (try clear hb2); (try clear hk); (try clear hi)) | ((with_reducible refine gate_callee (f := 15) rfl ?_); refine goesL_ (some 23) rfl rfl Try.func15 (by kernel_rfl) rfl #[.int .i64 a0, .string a1, .string a1] rfl (by (try simp only [List.map_toArray, List.map_cons, List.map_nil]); first | done | rfl | (simp only [List.length_drop, List.length_take]; rfl)) ?_; (with_reducible refine (filter_Pick.calls k a0 a1 a1 t226 t227 _ A4.out).mono ?_); rintro e w33 ⟨rfl, hb⟩; refine ⟨_, rfl, ?_⟩; have n0_ := Aside0.mk (below_step (by repeat (first | (with_reducible first | exact HB.out | apply below_alloc | apply pw_below_drewN | apply below_drew1) | exact HB.out)) hb); clear HB; have HB := n0_; clear n0_; (try clear hb); (try clear hb2); (try clear hk); (try clear hi)))
        go_ret
        exact ⟨by first | rfl | (simp [errW_none, errW_some] <;> rfl) | (simp [*, errW_none, errW_some] <;> rfl), by repeat (first | (with_reducible first | exact HB.out | apply below_alloc | apply pw_below_drewN | apply below_drew1) | exact HB.out)⟩
    · rw [if_neg c26] at H
      have c26b0 : (t225 == 1) = false := beq_eq_false_iff_ne.mpr c26
      have c26b1 : (t225 != 1) = true := bne_iff_ne.mpr c26
      obtain rfl := Option.some.inj H
      go_enter Try.func9, Try.ntmps9
      go_wp2_with (first | ((with_reducible refine gate_callee (f := 10) rfl ?_); refine goesL_ (some 16) rfl rfl Try.func10 (by kernel_rfl) rfl #[.int .i64 a0, .int .i64 2, .string a1, .string a1] rfl (by (try simp only [List.map_toArray, List.map_cons, List.map_nil]); first | done | rfl | (simp only [List.length_drop, List.length_take]; rfl)) ?_; (with_reducible refine (filter_Do.calls k a0 2 a1 a1 t224 t225 _ A3.out).mono ?_); rintro e w34 ⟨rfl, hb⟩; refine ⟨_, rfl, ?_⟩; have n0_ := Aside0.mk (below_step (by repeat (first | (with_reducible first | exact HB.out | apply below_alloc | apply pw_below_drewN | apply below_drew1) | exact HB.out)) hb); clear HB; have HB := n0_; clear n0_; (try clear hb); (try clear hb2); (try clear hk); (try clear hi)) | ((with_reducible refine gate_callee (f := 15) rfl ?_); refine goesL_ (some 23) rfl rfl Try.func15 (by kernel_rfl) rfl #[.int .i64 a0, .string a1, .string a1] rfl (by (try simp only [List.map_toArray, List.map_cons, List.map_nil]); first | done | rfl | (simp only [List.length_drop, List.length_take]; rfl)) ?_; (with_reducible refine (filter_Pick.calls k a0 a1 a1 t226 t227 _ A4.out).mono ?_); rintro e w35 ⟨rfl, hb⟩; refine ⟨_, rfl, ?_⟩; have n0_ := Aside0.mk (below_step (by repeat (first | (with_reducible first | exact HB.out | apply below_alloc | apply pw_below_drewN | apply below_drew1) | exact HB.out)) hb); clear HB; have HB := n0_; clear n0_; (try clear hb); (try clear hb2); (try clear hk); (try clear hi)))
      go_ret
      exact ⟨by first | rfl | (simp [errW_none, errW_some] <;> rfl) | (simp [*, errW_none, errW_some] <;> rfl), by repeat (first | (with_reducible first | exact HB.out | apply below_alloc | apply pw_below_drewN | apply below_drew1) | exact HB.out)⟩

end Go.Proofs.Ytaomopibnehanaa.PF09
