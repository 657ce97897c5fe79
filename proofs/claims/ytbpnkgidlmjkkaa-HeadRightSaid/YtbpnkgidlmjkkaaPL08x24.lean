/- Printed for this claim by a program of this session over the kit's print program: the Go functions as Lean functions, and proofs that the calls come to these answers. No conditions. -/
import Derived.Test.YtbpnkgidlmjkkaaPL08x0
import Derived.Test.YtbpnkgidlmjkkaaPL08x6
import Derived.Test.YtbpnkgidlmjkkaaPL08x16
namespace Go.Proofs.Ytbpnkgidlmjkkaa.PL08
open Go.RowKit Go.Proofs.YtbpnkgidlmjkkaaW.PrintWords Go.Proofs.YtbpnkgidlmjkkaaW.PrintLast Go.Proofs.YtbpnkgidlmjkkaaW.PrintMore
attribute [local go_sem] max2_int min2_int max_two min_two max_three min_three max_four min_four   -- for this text's walks alone
set_option linter.unusedVariables false
set_option linter.unusedSimpArgs false

/-! ### vitrinelaw08_HeadSamples: function 8 -/
def vitrinelaw08_HeadSamples.j0 : Nat → Int → Int → Bool → Option (Bool)
  | 0, _, _, _ => none
  | k + 1, x3, x6, x7 => if x7 = true then (if x3 = 1 then ((vitrinelaw08_awake.f).bind fun t309 => (some t309)) else (some false)) else (if x6 = 2 then (if x3 = 3 then ((vitrinelaw08_awake.f).bind fun t310 => (some t310)) else (some false)) else (if x6 = 4 then (if x3 = 2 then ((vitrinelaw08_awake.f).bind fun t311 => (some t311)) else (some false)) else (if x6 = 6 then (if x3 = 4 then ((vitrinelaw08_awake.f).bind fun t312 => (some t312)) else (some false)) else (if x3 = 0 then ((vitrinelaw08_awake.f).bind fun t313 => (some t313)) else (some false)))))
def vitrinelaw08_HeadSamples.f (k : Nat) (a0 : Int) : Option (Bool) := (head_Samples.f k a0).bind fun t308 => (if a0 = 0 then (vitrinelaw08_HeadSamples.j0 k t308 a0 (a0 == 0)) else (vitrinelaw08_HeadSamples.j0 k t308 a0 (a0 == 3)))
theorem vitrinelaw08_HeadSamples.mono_l : ∀ k, (∀ y0 y1 y2, LeO (vitrinelaw08_HeadSamples.j0 k y0 y1 y2) (vitrinelaw08_HeadSamples.j0 (k + 1) y0 y1 y2))
  | 0 => fun _ _ _ r h => by simp [vitrinelaw08_HeadSamples.j0] at h
  | k + 1 => by
    have ih0 := vitrinelaw08_HeadSamples.mono_l k
    · intro y0 y1 y2
      unfold vitrinelaw08_HeadSamples.j0
      repeat' first
      | (with_reducible exact ih0 _ _ _)
      | (with_reducible exact head_Samples.mono _ _)
      | (with_reducible exact LeO.refl _)
      | (with_reducible exact LeO.none _)
      | (with_reducible refine LeO.ite ?_ ?_)
      | (with_reducible refine LeO.bind ?_ (fun _ => ?_))
      | exact ih0 _ _ _
      | exact head_Samples.mono _ _
      | exact LeO.none _
      | refine LeO.ite ?_ ?_
      | refine LeO.bind ?_ (fun _ => ?_)
theorem vitrinelaw08_HeadSamples.mono : ∀ a0 k, LeO (vitrinelaw08_HeadSamples.f k a0) (vitrinelaw08_HeadSamples.f (k + 1) a0) := by
  intro a0 k
  have ih0 := vitrinelaw08_HeadSamples.mono_l k
  unfold vitrinelaw08_HeadSamples.f
  repeat' first
      | (with_reducible exact ih0 _ _ _)
      | (with_reducible exact head_Samples.mono _ _)
      | (with_reducible exact LeO.refl _)
      | (with_reducible exact LeO.none _)
      | (with_reducible refine LeO.ite ?_ ?_)
      | (with_reducible refine LeO.bind ?_ (fun _ => ?_))
      | exact ih0 _ _ _
      | exact head_Samples.mono _ _
      | exact LeO.none _
      | refine LeO.ite ?_ ?_
      | refine LeO.bind ?_ (fun _ => ?_)
set_option maxHeartbeats 40000000 in
set_option maxRecDepth 100000 in
theorem vitrinelaw08_HeadSamples.calls (k : Nat) (a0 : Int) (r : Bool) (w : World) (h : vitrinelaw08_HeadSamples.f k a0 = some r) :
    Calls Try.prog 8 #[.int .i64 a0] w fun e w' => e = .returned (.bool r) ∧ Below w.heap.size w w' := by
  have HB := Aside0.mk (Below.refl w.heap.size w)
  have H : ((head_Samples.f k a0).bind fun t308 => (if a0 = 0 then (vitrinelaw08_HeadSamples.j0 k t308 a0 (a0 == 0)) else (vitrinelaw08_HeadSamples.j0 k t308 a0 (a0 == 3)))) = some r := h
  clear h
  replace H := Option.bind_eq_some_iff.mp H
  obtain ⟨t308, A20, H⟩ := H
  replace H : (if a0 = 0 then (vitrinelaw08_HeadSamples.j0 k t308 a0 (a0 == 0)) else (vitrinelaw08_HeadSamples.j0 k t308 a0 (a0 == 3))) = some r := H
  have A2 := Aside0.mk A20
  clear A20
  have HC3 := Aside0.mk H
  clear H
  go_enter Try.func8, Try.ntmps8
  go_upto_if 7 with (first | ((with_reducible refine gate_callee (f := 11) rfl ?_); refine goesL_ (some 5) rfl rfl Try.func11 (by kernel_rfl) rfl #[.int .i64 a0] rfl (by (try simp only [List.map_toArray, List.map_cons, List.map_nil]); first | done | rfl | (simp only [List.length_drop, List.length_take]; rfl) | (simp only [ByteArray.size_extract, Nat.min_self]; done) | (simp only [ByteArray.size_extract, Nat.min_self]; rfl)) ?_; (with_reducible refine (head_Samples.calls k a0 t308 _ A2.out).mono ?_); rintro e w4 ⟨rfl, hb⟩; refine ⟨_, rfl, ?_⟩; have n0_ := Aside0.mk (below_step (by repeat (first | (with_reducible first | exact HB.out | apply below_alloc | apply pw_below_drewN | apply below_drew1) | exact HB.out)) hb); clear HB; have HB := n0_; clear n0_; (try clear hb); (try clear hb2); (try clear hk); (try clear hi)))
  (try simp only [Act.put, List.setIfInBounds_toArray, List.set_cons_zero, List.set_cons_succ])
  go_cut [7] (fun v7 wc => ∃ (kq : Nat) (x7_2 : Bool), v7 = .bool x7_2 ∧ Aside0 (vitrinelaw08_HeadSamples.j0 kq t308 a0 x7_2 = some r) ∧ Aside0 (kq ≤ k) ∧ Aside0 (Below w.heap.size w wc))
  case first =>
    have H := HC3.out
    clear HC3
    by_cases c5 : a0 = 0
    · rw [if_pos c5] at H
      have c5b0 : (a0 == 0) = true := beq_iff_eq.mpr c5
      have c5b1 : (a0 != 0) = false := bne_eq_false_iff_eq.mpr c5
      clear c5
      (first | rw [c5b0] | (simp only [i64_w, i32_w]; rw [c5b0]) | skip)
      have H' := Aside0.mk H
      clear H
      go_wp2
      go_meet
      case rel => exact ⟨_, ((a0 == 0)), (by first | rfl | (simp; done) | (simp [*]; done)), H', ⟨by first | omega | exact Nat.le_refl _⟩, ⟨by repeat (first | (with_reducible first | exact HB.out | apply below_alloc | apply pw_below_drewN | apply below_drew1) | exact HB.out)⟩⟩
    · rw [if_neg c5] at H
      have c5b0 : (a0 == 0) = false := beq_eq_false_iff_ne.mpr c5
      have c5b1 : (a0 != 0) = true := bne_iff_ne.mpr c5
      (first | rw [c5b0] | (simp only [i64_w, i32_w]; rw [c5b0]) | skip)
      have H' := Aside0.mk H
      clear H
      go_wp2
      go_meet
      case rel => exact ⟨_, ((a0 == 3)), (by first | rfl | (simp; done) | (simp [*]; done)), H', ⟨by first | omega | exact Nat.le_refl _⟩, ⟨by repeat (first | (with_reducible first | exact HB.out | apply below_alloc | apply pw_below_drewN | apply below_drew1) | exact HB.out)⟩⟩
  case rest =>
    clear HC3
    try clear c1
    try clear p2
    try clear c5
    try clear c5b0
    try clear c5b1
    obtain ⟨kq, x7_2, rfl, HA, HJ2, HB⟩ := hcut
    cases kq with
    | zero => exact absurd HA.out (by simp [vitrinelaw08_HeadSamples.j0])
    | succ kj2 =>
      have H := HA.out
      clear HA
      simp only [vitrinelaw08_HeadSamples.j0] at H
      by_cases c6 : x7_2 = true
      · subst c6
        have H1 : (if t308 = 1 then ((vitrinelaw08_awake.f).bind fun t309 => (some t309)) else (some false)) = some r := by rw [if_pos rfl] at H; exact H
        clear H
        have H := H1
        clear H1
        by_cases c7 : t308 = 1
        · rw [if_pos c7] at H
          have c7b0 : (t308 == 1) = true := beq_iff_eq.mpr c7
          have c7b1 : (t308 != 1) = false := bne_eq_false_iff_eq.mpr c7
          clear c7
          replace H := Option.bind_eq_some_iff.mp H
          obtain ⟨t309, A80, H⟩ := H
          replace H : (some t309) = some r := H
          have A8 := Aside0.mk A80
          clear A80
          obtain rfl := Option.some.inj H
          go_wp2_with (first | (go_at_call 13; (with_reducible refine (vitrinelaw08_awake.calls  t309 _ A8.out).mono ?_); rintro e w9 ⟨rfl, hb⟩; have n0_ := Aside0.mk (below_step (by repeat (first | (with_reducible first | exact HB.out | apply below_alloc | apply pw_below_drewN | apply below_drew1) | exact HB.out)) hb); clear HB; have HB := n0_; clear n0_; (try clear hb); (try clear hb2); (try clear hk); (try clear hi)))
          go_ret
          exact ⟨by first | rfl | (simp [errW_none, errW_some] <;> rfl) | (simp [*, errW_none, errW_some] <;> rfl), by repeat (first | (with_reducible first | exact HB.out | apply below_alloc | apply pw_below_drewN | apply below_drew1) | exact HB.out)⟩
        · rw [if_neg c7] at H
          have c7b0 : (t308 == 1) = false := beq_eq_false_iff_ne.mpr c7
          have c7b1 : (t308 != 1) = true := bne_iff_ne.mpr c7
          obtain rfl := Option.some.inj H
          go_wp2
          go_ret
          exact ⟨by first | rfl | (simp [errW_none, errW_some] <;> rfl) | (simp [*, errW_none, errW_some] <;> rfl), by repeat (first | (with_reducible first | exact HB.out | apply below_alloc | apply pw_below_drewN | apply below_drew1) | exact HB.out)⟩
      · replace c6 := Bool.eq_false_iff.mpr c6
        subst c6
        have H1 : (if a0 = 2 then (if t308 = 3 then ((vitrinelaw08_awake.f).bind fun t310 => (some t310)) else (some false)) else (if a0 = 4 then (if t308 = 2 then ((vitrinelaw08_awake.f).bind fun t311 => (some t311)) else (some false)) else (if a0 = 6 then (if t308 = 4 then ((vitrinelaw08_awake.f).bind fun t312 => (some t312)) else (some false)) else (if t308 = 0 then ((vitrinelaw08_awake.f).bind fun t313 => (some t313)) else (some false))))) = some r := by rw [if_neg (show ¬ (false = true) by decide)] at H; exact H
        clear H
        have H := H1
        clear H1
        by_cases c10 : a0 = 2
        · rw [if_pos c10] at H
          have c10b0 : (a0 == 2) = true := beq_iff_eq.mpr c10
          have c10b1 : (a0 != 2) = false := bne_eq_false_iff_eq.mpr c10
          clear c10
          by_cases c11 : t308 = 3
          · rw [if_pos c11] at H
            have c11b0 : (t308 == 3) = true := beq_iff_eq.mpr c11
            have c11b1 : (t308 != 3) = false := bne_eq_false_iff_eq.mpr c11
            clear c11
            replace H := Option.bind_eq_some_iff.mp H
            obtain ⟨t310, A120, H⟩ := H
            replace H : (some t310) = some r := H
            have A12 := Aside0.mk A120
            clear A120
            obtain rfl := Option.some.inj H
            go_wp2_with (first | (go_at_call 13; (with_reducible refine (vitrinelaw08_awake.calls  t310 _ A12.out).mono ?_); rintro e w13 ⟨rfl, hb⟩; have n0_ := Aside0.mk (below_step (by repeat (first | (with_reducible first | exact HB.out | apply below_alloc | apply pw_below_drewN | apply below_drew1) | exact HB.out)) hb); clear HB; have HB := n0_; clear n0_; (try clear hb); (try clear hb2); (try clear hk); (try clear hi)))
            go_ret
            exact ⟨by first | rfl | (simp [errW_none, errW_some] <;> rfl) | (simp [*, errW_none, errW_some] <;> rfl), by repeat (first | (with_reducible first | exact HB.out | apply below_alloc | apply pw_below_drewN | apply below_drew1) | exact HB.out)⟩
          · rw [if_neg c11] at H
            have c11b0 : (t308 == 3) = false := beq_eq_false_iff_ne.mpr c11
            have c11b1 : (t308 != 3) = true := bne_iff_ne.mpr c11
            obtain rfl := Option.some.inj H
            go_wp2
            go_ret
            exact ⟨by first | rfl | (simp [errW_none, errW_some] <;> rfl) | (simp [*, errW_none, errW_some] <;> rfl), by repeat (first | (with_reducible first | exact HB.out | apply below_alloc | apply pw_below_drewN | apply below_drew1) | exact HB.out)⟩
        · rw [if_neg c10] at H
          have c10b0 : (a0 == 2) = false := beq_eq_false_iff_ne.mpr c10
          have c10b1 : (a0 != 2) = true := bne_iff_ne.mpr c10
          by_cases c14 : a0 = 4
          · rw [if_pos c14] at H
            have c14b0 : (a0 == 4) = true := beq_iff_eq.mpr c14
            have c14b1 : (a0 != 4) = false := bne_eq_false_iff_eq.mpr c14
            clear c14
            by_cases c15 : t308 = 2
            · rw [if_pos c15] at H
              have c15b0 : (t308 == 2) = true := beq_iff_eq.mpr c15
              have c15b1 : (t308 != 2) = false := bne_eq_false_iff_eq.mpr c15
              clear c15
              replace H := Option.bind_eq_some_iff.mp H
              obtain ⟨t311, A160, H⟩ := H
              replace H : (some t311) = some r := H
              have A16 := Aside0.mk A160
              clear A160
              obtain rfl := Option.some.inj H
              go_wp2_with (first | (go_at_call 13; (with_reducible refine (vitrinelaw08_awake.calls  t311 _ A16.out).mono ?_); rintro e w17 ⟨rfl, hb⟩; have n0_ := Aside0.mk (below_step (by repeat (first | (with_reducible first | exact HB.out | apply below_alloc | apply pw_below_drewN | apply below_drew1) | exact HB.out)) hb); clear HB; have HB := n0_; clear n0_; (try clear hb); (try clear hb2); (try clear hk); (try clear hi)))
              go_ret
              exact ⟨by first | rfl | (simp [errW_none, errW_some] <;> rfl) | (simp [*, errW_none, errW_some] <;> rfl), by repeat (first | (with_reducible first | exact HB.out | apply below_alloc | apply pw_below_drewN | apply below_drew1) | exact HB.out)⟩
            · rw [if_neg c15] at H
              have c15b0 : (t308 == 2) = false := beq_eq_false_iff_ne.mpr c15
              have c15b1 : (t308 != 2) = true := bne_iff_ne.mpr c15
              obtain rfl := Option.some.inj H
              go_wp2
              go_ret
              exact ⟨by first | rfl | (simp [errW_none, errW_some] <;> rfl) | (simp [*, errW_none, errW_some] <;> rfl), by repeat (first | (with_reducible first | exact HB.out | apply below_alloc | apply pw_below_drewN | apply below_drew1) | exact HB.out)⟩
          · rw [if_neg c14] at H
            have c14b0 : (a0 == 4) = false := beq_eq_false_iff_ne.mpr c14
            have c14b1 : (a0 != 4) = true := bne_iff_ne.mpr c14
            by_cases c18 : a0 = 6
            · rw [if_pos c18] at H
              have c18b0 : (a0 == 6) = true := beq_iff_eq.mpr c18
              have c18b1 : (a0 != 6) = false := bne_eq_false_iff_eq.mpr c18
              clear c18
              by_cases c19 : t308 = 4
              · rw [if_pos c19] at H
                have c19b0 : (t308 == 4) = true := beq_iff_eq.mpr c19
                have c19b1 : (t308 != 4) = false := bne_eq_false_iff_eq.mpr c19
                clear c19
                replace H := Option.bind_eq_some_iff.mp H
                obtain ⟨t312, A200, H⟩ := H
                replace H : (some t312) = some r := H
                have A20 := Aside0.mk A200
                clear A200
                obtain rfl := Option.some.inj H
                go_wp2_with (first | (go_at_call 13; (with_reducible refine (vitrinelaw08_awake.calls  t312 _ A20.out).mono ?_); rintro e w21 ⟨rfl, hb⟩; have n0_ := Aside0.mk (below_step (by repeat (first | (with_reducible first | exact HB.out | apply below_alloc | apply pw_below_drewN | apply below_drew1) | exact HB.out)) hb); clear HB; have HB := n0_; clear n0_; (try clear hb); (try clear hb2); (try clear hk); (try clear hi)))
                go_ret
                exact ⟨by first | rfl | (simp [errW_none, errW_some] <;> rfl) | (simp [*, errW_none, errW_some] <;> rfl), by repeat (first | (with_reducible first | exact HB.out | apply below_alloc | apply pw_below_drewN | apply below_drew1) | exact HB.out)⟩
              · rw [if_neg c19] at H
                have c19b0 : (t308 == 4) = false := beq_eq_false_iff_ne.mpr c19
                have c19b1 : (t308 != 4) = true := bne_iff_ne.mpr c19
                obtain rfl := Option.some.inj H
                go_wp2
                go_ret
                exact ⟨by first | rfl | (simp [errW_none, errW_some] <;> rfl) | (simp [*, errW_none, errW_some] <;> rfl), by repeat (first | (with_reducible first | exact HB.out | apply below_alloc | apply pw_below_drewN | apply below_drew1) | exact HB.out)⟩
            · rw [if_neg c18] at H
              have c18b0 : (a0 == 6) = false := beq_eq_false_iff_ne.mpr c18
              have c18b1 : (a0 != 6) = true := bne_iff_ne.mpr c18
              by_cases c22 : t308 = 0
              · rw [if_pos c22] at H
                have c22b0 : (t308 == 0) = true := beq_iff_eq.mpr c22
                have c22b1 : (t308 != 0) = false := bne_eq_false_iff_eq.mpr c22
                clear c22
                replace H := Option.bind_eq_some_iff.mp H
                obtain ⟨t313, A230, H⟩ := H
                replace H : (some t313) = some r := H
                have A23 := Aside0.mk A230
                clear A230
                obtain rfl := Option.some.inj H
                go_wp2_with (first | (go_at_call 13; (with_reducible refine (vitrinelaw08_awake.calls  t313 _ A23.out).mono ?_); rintro e w24 ⟨rfl, hb⟩; have n0_ := Aside0.mk (below_step (by repeat (first | (with_reducible first | exact HB.out | apply below_alloc | apply pw_below_drewN | apply below_drew1) | exact HB.out)) hb); clear HB; have HB := n0_; clear n0_; (try clear hb); (try clear hb2); (try clear hk); (try clear hi)))
                go_ret
                exact ⟨by first | rfl | (simp [errW_none, errW_some] <;> rfl) | (simp [*, errW_none, errW_some] <;> rfl), by repeat (first | (with_reducible first | exact HB.out | apply below_alloc | apply pw_below_drewN | apply below_drew1) | exact HB.out)⟩
              · rw [if_neg c22] at H
                have c22b0 : (t308 == 0) = false := beq_eq_false_iff_ne.mpr c22
                have c22b1 : (t308 != 0) = true := bne_iff_ne.mpr c22
                obtain rfl := Option.some.inj H
                go_wp2
                go_ret
                exact ⟨by first | rfl | (simp [errW_none, errW_some] <;> rfl) | (simp [*, errW_none, errW_some] <;> rfl), by repeat (first | (with_reducible first | exact HB.out | apply below_alloc | apply pw_below_drewN | apply below_drew1) | exact HB.out)⟩

end Go.Proofs.Ytbpnkgidlmjkkaa.PL08
