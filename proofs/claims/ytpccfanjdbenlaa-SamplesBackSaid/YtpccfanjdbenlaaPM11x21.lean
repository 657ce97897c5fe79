/- Printed for this claim by a program of this session over the kit's print program: the Go functions as Lean functions, and proofs that the calls come to these answers. No conditions. -/
import Derived.Test.YtpccfanjdbenlaaPM11x0
import Derived.Test.YtpccfanjdbenlaaPM11x2
import Derived.Test.YtpccfanjdbenlaaPM11x6
import Derived.Test.YtpccfanjdbenlaaPM11x11
namespace Go.Proofs.Ytpccfanjdbenlaa.PM11
open Go.RowKit Go.Proofs.YtpccfanjdbenlaaW.PrintWords Go.Proofs.YtpccfanjdbenlaaW.PrintLast Go.Proofs.YtpccfanjdbenlaaW.PrintMore
attribute [local go_sem] max2_int min2_int max_two min_two max_three min_three max_four min_four   -- for this text's walks alone
set_option linter.unusedVariables false
set_option linter.unusedSimpArgs false

/-! ### vitrinelaw11_SamplesBack: function 7 -/
mutual
def vitrinelaw11_SamplesBack.j0 : Nat → Int → List Int → List Int → Bool → Option (Bool)
  | 0, _, _, _, _ => none
  | k + 1, x0, x1, x7, x58 => if x58 = true then (some false) else (vitrinelaw11_SamplesBack.l0 k x0 x1 x7 0)
def vitrinelaw11_SamplesBack.l0 : Nat → Int → List Int → List Int → Int → Option (Bool)
  | 0, _, _, _, _ => none
  | k + 1, x0, x1, x7, x9 => if x9 < (x1.length : Int) then (if 0 ≤ x9 then (if x9 < (x7.length : Int) then (if 0 ≤ x0 then (if (rd x7 x9) = (Go.bits .and .i64 (rd x1 x9) (wrap64 ((shl .i64 1 x0) - 1))) then (vitrinelaw11_SamplesBack.l0 k x0 x1 x7 (wrap64 (x9 + 1))) else (some false)) else (none)) else (none)) else (none)) else ((vitrinelaw11_awake.f k).bind fun t287 => (some t287))
end
def vitrinelaw11_SamplesBack.f (k : Nat) (a0 : Int) (l1 : List Int) : Option (Bool) := if (l1.length : Int) > 4096 then ((vitrinelaw11_awake.f k).bind fun t279 => (some t279)) else ((samples_Pack.f k a0 l1).bind fun bt280 => (if bt280.2 = 0 then ((samples_Unpack.f k bt280.1 a0 (l1.length : Int)).bind fun bt283 => (if bt283.2 = 0 then (if (bt283.1.length : Int) = (l1.length : Int) then (vitrinelaw11_SamplesBack.j0 k a0 l1 bt283.1 ((bt280.1.size : Int) != (wrap64 (Int.tdiv (wrap64 ((wrap64 ((l1.length : Int) * a0)) + 7)) 8)))) else (vitrinelaw11_SamplesBack.j0 k a0 l1 bt283.1 true)) else (vitrinelaw11_SamplesBack.j0 k a0 l1 bt283.1 true))) else (if bt280.2 = 1 then (if bt280.1.toList = ([] : List UInt8) then ((vitrinelaw11_awake.f k).bind fun t282 => (some t282)) else (some false)) else (some false))))
theorem vitrinelaw11_SamplesBack.mono_l : ∀ k, (∀ y0 y1 y2 y3, LeO (vitrinelaw11_SamplesBack.j0 k y0 y1 y2 y3) (vitrinelaw11_SamplesBack.j0 (k + 1) y0 y1 y2 y3)) ∧ (∀ y0 y1 y2 y3, LeO (vitrinelaw11_SamplesBack.l0 k y0 y1 y2 y3) (vitrinelaw11_SamplesBack.l0 (k + 1) y0 y1 y2 y3))
  | 0 => ⟨fun _ _ _ _ r h => by simp [vitrinelaw11_SamplesBack.j0] at h, fun _ _ _ _ r h => by simp [vitrinelaw11_SamplesBack.l0] at h⟩
  | k + 1 => by
    obtain ⟨ih0, ih1⟩ := vitrinelaw11_SamplesBack.mono_l k
    refine ⟨?_, ?_⟩
    · intro y0 y1 y2 y3
      unfold vitrinelaw11_SamplesBack.j0
      repeat' first
      | (with_reducible exact ih0 _ _ _ _)
      | (with_reducible exact ih1 _ _ _ _)
      | (with_reducible exact samples_Pack.mono _ _ _)
      | (with_reducible exact samples_Unpack.mono _ _ _ _)
      | (with_reducible exact vitrinelaw11_awake.mono _)
      | (with_reducible exact LeO.refl _)
      | (with_reducible exact LeO.none _)
      | (with_reducible refine LeO.ite ?_ ?_)
      | (with_reducible refine LeO.bind ?_ (fun _ => ?_))
      | exact ih0 _ _ _ _
      | exact ih1 _ _ _ _
      | exact samples_Pack.mono _ _ _
      | exact samples_Unpack.mono _ _ _ _
      | exact vitrinelaw11_awake.mono _
      | exact LeO.none _
      | refine LeO.ite ?_ ?_
      | refine LeO.bind ?_ (fun _ => ?_)
    · intro y0 y1 y2 y3
      unfold vitrinelaw11_SamplesBack.l0
      repeat' first
      | (with_reducible exact ih0 _ _ _ _)
      | (with_reducible exact ih1 _ _ _ _)
      | (with_reducible exact samples_Pack.mono _ _ _)
      | (with_reducible exact samples_Unpack.mono _ _ _ _)
      | (with_reducible exact vitrinelaw11_awake.mono _)
      | (with_reducible exact LeO.refl _)
      | (with_reducible exact LeO.none _)
      | (with_reducible refine LeO.ite ?_ ?_)
      | (with_reducible refine LeO.bind ?_ (fun _ => ?_))
      | exact ih0 _ _ _ _
      | exact ih1 _ _ _ _
      | exact samples_Pack.mono _ _ _
      | exact samples_Unpack.mono _ _ _ _
      | exact vitrinelaw11_awake.mono _
      | exact LeO.none _
      | refine LeO.ite ?_ ?_
      | refine LeO.bind ?_ (fun _ => ?_)
theorem vitrinelaw11_SamplesBack.mono : ∀ a0 a1 k, LeO (vitrinelaw11_SamplesBack.f k a0 a1) (vitrinelaw11_SamplesBack.f (k + 1) a0 a1) := by
  intro a0 a1 k
  obtain ⟨ih0, ih1⟩ := vitrinelaw11_SamplesBack.mono_l k
  unfold vitrinelaw11_SamplesBack.f
  repeat' first
      | (with_reducible exact ih0 _ _ _ _)
      | (with_reducible exact ih1 _ _ _ _)
      | (with_reducible exact samples_Pack.mono _ _ _)
      | (with_reducible exact samples_Unpack.mono _ _ _ _)
      | (with_reducible exact vitrinelaw11_awake.mono _)
      | (with_reducible exact LeO.refl _)
      | (with_reducible exact LeO.none _)
      | (with_reducible refine LeO.ite ?_ ?_)
      | (with_reducible refine LeO.bind ?_ (fun _ => ?_))
      | exact ih0 _ _ _ _
      | exact ih1 _ _ _ _
      | exact samples_Pack.mono _ _ _
      | exact samples_Unpack.mono _ _ _ _
      | exact vitrinelaw11_awake.mono _
      | exact LeO.none _
      | refine LeO.ite ?_ ?_
      | refine LeO.bind ?_ (fun _ => ?_)
set_option maxHeartbeats 8000000 in
set_option maxRecDepth 100000 in
theorem vitrinelaw11_SamplesBack.calls (k : Nat) (a0 : Int) (A1 : Option Addr) (c1 : Nat) (l1 : List Int) (r : Bool) (w : World) (hr1 : Kd.C (Kd.int .i64) w A1 l1.length l1) (hc1 : l1.length ≤ c1) (h : vitrinelaw11_SamplesBack.f k a0 l1 = some r) :
    Calls Try.prog 7 #[.int .i64 a0, .slice A1 l1.length c1] w fun e w' => e = .returned (.bool r) ∧ Below w.heap.size w w' := by
  have HR1 := Aside0.mk hr1
  have HC1 := Aside0.mk hc1
  clear hr1 hc1
  have HB := Aside0.mk (Below.refl w.heap.size w)
  have H : (if (l1.length : Int) > 4096 then ((vitrinelaw11_awake.f k).bind fun t279 => (some t279)) else ((samples_Pack.f k a0 l1).bind fun bt280 => (if bt280.2 = 0 then ((samples_Unpack.f k bt280.1 a0 (l1.length : Int)).bind fun bt283 => (if bt283.2 = 0 then (if (bt283.1.length : Int) = (l1.length : Int) then (vitrinelaw11_SamplesBack.j0 k a0 l1 bt283.1 ((bt280.1.size : Int) != (wrap64 (Int.tdiv (wrap64 ((wrap64 ((l1.length : Int) * a0)) + 7)) 8)))) else (vitrinelaw11_SamplesBack.j0 k a0 l1 bt283.1 true)) else (vitrinelaw11_SamplesBack.j0 k a0 l1 bt283.1 true))) else (if bt280.2 = 1 then (if bt280.1.toList = ([] : List UInt8) then ((vitrinelaw11_awake.f k).bind fun t282 => (some t282)) else (some false)) else (some false))))) = some r := h
  clear h
  by_cases c3 : (l1.length : Int) > 4096
  · rw [if_pos c3] at H
    have c3b0 : decide (4096 < (l1.length : Int)) = true := decide_eq_true c3
    have c3b1 : decide (4096 < l1.length) = true := decide_eq_true (by omega)
    clear c3
    replace H := Option.bind_eq_some_iff.mp H
    obtain ⟨t279, A40, H⟩ := H
    replace H : (some t279) = some r := H
    have A4 := Aside0.mk A40
    clear A40
    obtain rfl := Option.some.inj H
    go_enter Try.func7, Try.ntmps7
    go_wp2_with (first | (go_at_call 14; (with_reducible refine (vitrinelaw11_awake.calls k  t279 _ A4.out).mono ?_); rintro e w5 ⟨rfl, hb⟩; have n0_ := Aside0.mk (below_step (by repeat (first | (with_reducible first | exact HB.out | apply below_alloc | apply pw_below_drewN | apply below_drew1) | exact HB.out)) hb); clear HB; have HB := n0_; clear n0_; (try clear hb); (try clear hb2); (try clear hk); (try clear hi)))
    repeat (go_quiet (first | (go_at_call 14; (with_reducible refine (vitrinelaw11_awake.calls k  t279 _ A4.out).mono ?_); rintro e w5 ⟨rfl, hb⟩; have n0_ := Aside0.mk (below_step (by repeat (first | (with_reducible first | exact HB.out | apply below_alloc | apply pw_below_drewN | apply below_drew1) | exact HB.out)) hb); clear HB; have HB := n0_; clear n0_; (try clear hb); (try clear hb2); (try clear hk); (try clear hi))); try go_wp2_with (first | (go_at_call 14; (with_reducible refine (vitrinelaw11_awake.calls k  t279 _ A4.out).mono ?_); rintro e w5 ⟨rfl, hb⟩; have n0_ := Aside0.mk (below_step (by repeat (first | (with_reducible first | exact HB.out | apply below_alloc | apply pw_below_drewN | apply below_drew1) | exact HB.out)) hb); clear HB; have HB := n0_; clear n0_; (try clear hb); (try clear hb2); (try clear hk); (try clear hi))))
    go_ret
    exact ⟨by first | rfl | (simp [errW_none, errW_some] <;> rfl) | (simp [*, errW_none, errW_some] <;> rfl), by repeat (first | (with_reducible first | exact HB.out | apply below_alloc | apply pw_below_drewN | apply below_drew1) | exact HB.out)⟩
  · rw [if_neg c3] at H
    have c3b0 : decide (4096 < (l1.length : Int)) = false := decide_eq_false c3
    have c3b1 : decide (4096 < l1.length) = false := decide_eq_false (by omega)
    clear c3
    replace H := Option.bind_eq_some_iff.mp H
    obtain ⟨⟨t280, t281⟩, A60, H⟩ := H
    replace H : (if t281 = 0 then ((samples_Unpack.f k t280 a0 (l1.length : Int)).bind fun bt283 => (if bt283.2 = 0 then (if (bt283.1.length : Int) = (l1.length : Int) then (vitrinelaw11_SamplesBack.j0 k a0 l1 bt283.1 ((t280.size : Int) != (wrap64 (Int.tdiv (wrap64 ((wrap64 ((l1.length : Int) * a0)) + 7)) 8)))) else (vitrinelaw11_SamplesBack.j0 k a0 l1 bt283.1 true)) else (vitrinelaw11_SamplesBack.j0 k a0 l1 bt283.1 true))) else (if t281 = 1 then (if t280.toList = ([] : List UInt8) then ((vitrinelaw11_awake.f k).bind fun t282 => (some t282)) else (some false)) else (some false))) = some r := H
    have A6 := Aside0.mk A60
    clear A60
    by_cases c7 : t281 = 0
    · rw [if_pos c7] at H
      have c7b0 : (t281 == 0) = true := beq_iff_eq.mpr c7
      have c7b1 : (t281 != 0) = false := bne_eq_false_iff_eq.mpr c7
      clear c7
      replace H := Option.bind_eq_some_iff.mp H
      obtain ⟨⟨t283, t284⟩, A80, H⟩ := H
      replace H : (if t284 = 0 then (if (t283.length : Int) = (l1.length : Int) then (vitrinelaw11_SamplesBack.j0 k a0 l1 t283 ((t280.size : Int) != (wrap64 (Int.tdiv (wrap64 ((wrap64 ((l1.length : Int) * a0)) + 7)) 8)))) else (vitrinelaw11_SamplesBack.j0 k a0 l1 t283 true)) else (vitrinelaw11_SamplesBack.j0 k a0 l1 t283 true)) = some r := H
      have A8 := Aside0.mk A80
      clear A80
      have HC9 := Aside0.mk H
      clear H
      go_enter Try.func7, Try.ntmps7
      go_upto_region 7 with (first | (go_at_call 15; (with_reducible refine (samples_Pack.calls k a0 _ _ l1 t280 t281 _ ?side1 ?side2 A6.out).mono ?_); (case side1 => repeat (first | exact HR1.out | (with_reducible refine Kd.C_alloc ?_ _) | (with_reducible refine Kd.C_drewN ?_ _) | (with_reducible refine Kd.C_drew ?_))); (case side2 => exact HC1.out); rintro e w10 ⟨rfl, hb⟩; have n0_ := Aside0.mk (below_step (by repeat (first | (with_reducible first | exact HB.out | apply below_alloc | apply pw_below_drewN | apply below_drew1) | exact HB.out)) hb); clear HB; have HB := n0_; clear n0_; (try clear hb); (try clear hb2); (try clear hk); (try clear hi)) | (go_at_call 11; (with_reducible refine (samples_Unpack.calls k t280 a0 (l1.length : Int) t283 t284 _ A8.out).mono ?_); rintro e w11 ⟨v285, rfl, ho0, hb⟩; have n0_ := Aside0.mk (Kd.R_lower ho0 (below_size (by repeat (first | (with_reducible first | exact HB.out | apply below_alloc | apply pw_below_drewN | apply below_drew1) | exact HB.out)))); have n1_ := Aside0.mk (below_step (by repeat (first | (with_reducible first | exact HB.out | apply below_alloc | apply pw_below_drewN | apply below_drew1) | exact HB.out)) hb); clear HB; have HO286 := n0_; have HB := n1_; clear n0_ n1_; (try clear hb); (try clear hb2); (try clear hk); (try clear hi); (try clear ho0)))
      repeat (go_quiet (first | (go_at_call 15; (with_reducible refine (samples_Pack.calls k a0 _ _ l1 t280 t281 _ ?side1 ?side2 A6.out).mono ?_); (case side1 => repeat (first | exact HR1.out | (with_reducible refine Kd.C_alloc ?_ _) | (with_reducible refine Kd.C_drewN ?_ _) | (with_reducible refine Kd.C_drew ?_))); (case side2 => exact HC1.out); rintro e w10 ⟨rfl, hb⟩; have n0_ := Aside0.mk (below_step (by repeat (first | (with_reducible first | exact HB.out | apply below_alloc | apply pw_below_drewN | apply below_drew1) | exact HB.out)) hb); clear HB; have HB := n0_; clear n0_; (try clear hb); (try clear hb2); (try clear hk); (try clear hi)) | (go_at_call 11; (with_reducible refine (samples_Unpack.calls k t280 a0 (l1.length : Int) t283 t284 _ A8.out).mono ?_); rintro e w11 ⟨v285, rfl, ho0, hb⟩; have n0_ := Aside0.mk (Kd.R_lower ho0 (below_size (by repeat (first | (with_reducible first | exact HB.out | apply below_alloc | apply pw_below_drewN | apply below_drew1) | exact HB.out)))); have n1_ := Aside0.mk (below_step (by repeat (first | (with_reducible first | exact HB.out | apply below_alloc | apply pw_below_drewN | apply below_drew1) | exact HB.out)) hb); clear HB; have HO286 := n0_; have HB := n1_; clear n0_ n1_; (try clear hb); (try clear hb2); (try clear hk); (try clear hi); (try clear ho0))); go_upto_region 7 with (first | (go_at_call 15; (with_reducible refine (samples_Pack.calls k a0 _ _ l1 t280 t281 _ ?side1 ?side2 A6.out).mono ?_); (case side1 => repeat (first | exact HR1.out | (with_reducible refine Kd.C_alloc ?_ _) | (with_reducible refine Kd.C_drewN ?_ _) | (with_reducible refine Kd.C_drew ?_))); (case side2 => exact HC1.out); rintro e w10 ⟨rfl, hb⟩; have n0_ := Aside0.mk (below_step (by repeat (first | (with_reducible first | exact HB.out | apply below_alloc | apply pw_below_drewN | apply below_drew1) | exact HB.out)) hb); clear HB; have HB := n0_; clear n0_; (try clear hb); (try clear hb2); (try clear hk); (try clear hi)) | (go_at_call 11; (with_reducible refine (samples_Unpack.calls k t280 a0 (l1.length : Int) t283 t284 _ A8.out).mono ?_); rintro e w11 ⟨v285, rfl, ho0, hb⟩; have n0_ := Aside0.mk (Kd.R_lower ho0 (below_size (by repeat (first | (with_reducible first | exact HB.out | apply below_alloc | apply pw_below_drewN | apply below_drew1) | exact HB.out)))); have n1_ := Aside0.mk (below_step (by repeat (first | (with_reducible first | exact HB.out | apply below_alloc | apply pw_below_drewN | apply below_drew1) | exact HB.out)) hb); clear HB; have HO286 := n0_; have HB := n1_; clear n0_ n1_; (try clear hb); (try clear hb2); (try clear hk); (try clear hi); (try clear ho0))))
      (try simp only [Act.put, List.setIfInBounds_toArray, List.set_cons_zero, List.set_cons_succ])
      go_cut [58] (fun v58 wc => ∃ (kq : Nat) (x58_8 : Bool), v58 = .bool x58_8 ∧ Aside0 (vitrinelaw11_SamplesBack.j0 kq a0 l1 t283 x58_8 = some r) ∧ Aside0 (kq ≤ k) ∧ Aside0 (Kd.R (Kd.int .i64) 3 wc w.heap.size (fun _ => True) v285 t283) ∧ Aside0 (Below w.heap.size w wc))
      case first =>
        have H := HC9.out
        clear HC9
        by_cases c12 : t284 = 0
        · rw [if_pos c12] at H
          have c12b0 : (t284 == 0) = true := beq_iff_eq.mpr c12
          have c12b1 : (t284 != 0) = false := bne_eq_false_iff_eq.mpr c12
          clear c12
          (first | rw [c12b0] | (simp only [i64_w, i32_w]; rw [c12b0]) | skip)
          by_cases c13 : (t283.length : Int) = (l1.length : Int)
          · rw [if_pos c13] at H
            have c13b0 : ((t283.length : Int) == (l1.length : Int)) = true := beq_iff_eq.mpr c13
            have c13b1 : ((t283.length : Int) != (l1.length : Int)) = false := bne_eq_false_iff_eq.mpr c13
            have c13b2 : (t283.length == l1.length) = true := by first | simpa using c13 | (simp at c13 ⊢; omega)
            clear c13
            have H' := Aside0.mk H
            clear H
            obtain ⟨Ao14, co14, eo14⟩ := Kd.R_slice HO286.out
            subst eo14
            go_wp2
            repeat (go_quiet (fail); try go_wp2)
            go_meet
            case rel => exact ⟨_, (((t280.size : Int) != (wrap64 (Int.tdiv (wrap64 ((wrap64 ((l1.length : Int) * a0)) + 7)) 8)))), (by first | rfl | (simp; done) | (simp [*]; done)), H', ⟨by first | omega | exact Nat.le_refl _⟩, ⟨by (with_reducible repeat (first | apply Kd.R_alloc | apply Kd.R_drewN | apply Kd.R_drew)); exact HO286.out⟩, ⟨by repeat (first | (with_reducible first | exact HB.out | apply below_alloc | apply pw_below_drewN | apply below_drew1) | exact HB.out)⟩⟩
          · rw [if_neg c13] at H
            have c13b0 : ((t283.length : Int) == (l1.length : Int)) = false := beq_eq_false_iff_ne.mpr c13
            have c13b1 : ((t283.length : Int) != (l1.length : Int)) = true := bne_iff_ne.mpr c13
            have c13b2 : (t283.length == l1.length) = false := by first | simpa using c13 | (simp at c13 ⊢; omega)
            have H' := Aside0.mk H
            clear H
            obtain ⟨Ao15, co15, eo15⟩ := Kd.R_slice HO286.out
            subst eo15
            go_wp2
            repeat (go_quiet (fail); try go_wp2)
            go_meet
            case rel => exact ⟨_, (true), (by first | rfl | (simp; done) | (simp [*]; done)), H', ⟨by first | omega | exact Nat.le_refl _⟩, ⟨by (with_reducible repeat (first | apply Kd.R_alloc | apply Kd.R_drewN | apply Kd.R_drew)); exact HO286.out⟩, ⟨by repeat (first | (with_reducible first | exact HB.out | apply below_alloc | apply pw_below_drewN | apply below_drew1) | exact HB.out)⟩⟩
        · rw [if_neg c12] at H
          have c12b0 : (t284 == 0) = false := beq_eq_false_iff_ne.mpr c12
          have c12b1 : (t284 != 0) = true := bne_iff_ne.mpr c12
          (first | rw [c12b0] | (simp only [i64_w, i32_w]; rw [c12b0]) | skip)
          have H' := Aside0.mk H
          clear H
          go_wp2
          repeat (go_quiet (fail); try go_wp2)
          go_meet
          case rel => exact ⟨_, (true), (by first | rfl | (simp; done) | (simp [*]; done)), H', ⟨by first | omega | exact Nat.le_refl _⟩, ⟨by (with_reducible repeat (first | apply Kd.R_alloc | apply Kd.R_drewN | apply Kd.R_drew)); exact HO286.out⟩, ⟨by repeat (first | (with_reducible first | exact HB.out | apply below_alloc | apply pw_below_drewN | apply below_drew1) | exact HB.out)⟩⟩
      case rest =>
        clear HC9
        try clear c1
        try clear p2
        try clear c3
        try clear c3b0
        try clear c3b1
        try clear p6
        try clear c7
        try clear c7b0
        try clear c7b1
        try clear c12
        try clear c12b0
        try clear c12b1
        try clear c13
        try clear c13b0
        try clear c13b1
        try clear c13b2
        obtain ⟨kq, x58_8, rfl, HA, HJ8, HO_7, HB⟩ := hcut
        cases kq with
        | zero => exact absurd HA.out (by simp [vitrinelaw11_SamplesBack.j0])
        | succ kj8 =>
          have H := HA.out
          clear HA
          simp only [vitrinelaw11_SamplesBack.j0] at H
          by_cases c16 : x58_8 = true
          · subst c16
            have H1 : (some false) = some r := by rw [if_pos rfl] at H; exact H
            clear H
            have H := H1
            clear H1
            obtain rfl := Option.some.inj H
            go_wp2
            repeat (go_quiet (fail); try go_wp2)
            go_ret
            exact ⟨by first | rfl | (simp [errW_none, errW_some] <;> rfl) | (simp [*, errW_none, errW_some] <;> rfl), by repeat (first | (with_reducible first | exact HB.out | apply below_alloc | apply pw_below_drewN | apply below_drew1) | exact HB.out)⟩
          · replace c16 := Bool.eq_false_iff.mpr c16
            subst c16
            have H1 : (vitrinelaw11_SamplesBack.l0 kj8 a0 l1 t283 0) = some r := by rw [if_neg (show ¬ (false = true) by decide)] at H; exact H
            clear H
            have H := H1
            clear H1
            have H' := Aside0.mk H
            clear H
            go_wp2
            repeat (go_quiet (fail); try go_wp2)
            go_loopg [9] kj8 (fun kq v9 w' => ∃ (x9_2 : Int), v9 = .int .i64 x9_2 ∧ Aside0 (vitrinelaw11_SamplesBack.l0 kq a0 l1 t283 x9_2 = some r) ∧ Aside0 (kq ≤ kj8) ∧ Aside0 (Kd.R (Kd.int .i64) 3 w' w.heap.size (fun _ => True) v285 t283) ∧ Aside0 (Below w.heap.size w w'))
            case atStart => exact ⟨(0), (by first | rfl | (simp; done) | (simp [*]; done)), H', ⟨Nat.le_refl _⟩, ⟨by (with_reducible repeat (first | apply Kd.R_alloc | apply Kd.R_drewN | apply Kd.R_drew)); exact HO_7.out⟩, ⟨by repeat (first | (with_reducible first | exact HB.out | apply below_alloc | apply pw_below_drewN | apply below_drew1) | exact HB.out)⟩⟩
            case round =>
              clear H'
              try clear c1
              try clear p2
              try clear c3
              try clear c3b0
              try clear c3b1
              try clear p6
              try clear c7
              try clear c7b0
              try clear c7b1
              try clear c12
              try clear c12b0
              try clear c12b1
              try clear c13
              try clear c13b0
              try clear c13b1
              try clear c13b2
              try clear c16
              try clear p2
              try clear p6
              obtain ⟨x9_2, rfl, HA, HK2, HO_7, HB⟩ := hrel
              cases gk with
              | zero => exact absurd HA.out (by simp [vitrinelaw11_SamplesBack.l0])
              | succ k2 =>
                have H := HA.out
                clear HA
                simp only [vitrinelaw11_SamplesBack.l0] at H
                by_cases c17 : x9_2 < (l1.length : Int)
                · rw [if_pos c17] at H
                  have c17b0 : decide (x9_2 < (l1.length : Int)) = true := decide_eq_true c17
                  clear c17
                  by_cases c18 : 0 ≤ x9_2
                  · rw [if_pos c18] at H
                    have c18b0 : decide (0 ≤ x9_2) = true := decide_eq_true c18
                    clear c18
                    by_cases c19 : x9_2 < (t283.length : Int)
                    · rw [if_pos c19] at H
                      have c19b0 : decide (x9_2 < (t283.length : Int)) = true := decide_eq_true c19
                      clear c19
                      by_cases c20 : 0 ≤ a0
                      · rw [if_pos c20] at H
                        have c20b0 := eq_true c20
                        have c20b1 : decide (0 ≤ a0) = true := decide_eq_true c20
                        clear c20
                        obtain ⟨ji21, hji21⟩ : ∃ j_ : Int, (shl .i64 1 a0) = j_ := ⟨_, rfl⟩
                        replace H : (if (rd t283 x9_2) = (Go.bits .and .i64 (rd l1 x9_2) (wrap64 ((ji21) - 1))) then (vitrinelaw11_SamplesBack.l0 k2 a0 l1 t283 (wrap64 (x9_2 + 1))) else (some false)) = some r := by first | (rw [hji21] at H; exact H) | (simp only [hji21] at H ⊢; exact H)
                        have hji21_ : (IntKind.i64.wrap (1 * 2 ^ min a0.toNat 64)) = ji21 := hji21
                        have hji21z : a0 ≤ 64 → (IntKind.i64.wrap (1 * 2 ^ a0.toNat)) = ji21 := shl_small hji21
                        have hji21u : (IntKind.i64.wrap (2 ^ min a0.toNat 64)) = ji21 := by have h_ := hji21_; rw [Int.one_mul] at h_; exact h_
                        have hji21v : a0 ≤ 64 → (IntKind.i64.wrap (2 ^ a0.toNat)) = ji21 := fun hle_ => by have h_ := hji21z hle_; rw [Int.one_mul] at h_; exact h_
                        have hji21y : (wrap64 (1 * 2 ^ min a0.toNat 64)) = ji21 := (i64_w _).symm.trans hji21_
                        have hji21x : a0 ≤ 64 → (wrap64 (1 * 2 ^ a0.toNat)) = ji21 := fun h_ => (i64_w _).symm.trans (hji21z h_)
                        by_cases c22 : (rd t283 x9_2) = (Go.bits .and .i64 (rd l1 x9_2) (wrap64 ((ji21) - 1)))
                        · rw [if_pos c22] at H
                          have c22b0 : ((rd t283 x9_2) == (Go.bits .and .i64 (rd l1 x9_2) (wrap64 ((ji21) - 1)))) = true := beq_iff_eq.mpr c22
                          have c22b1 : ((rd t283 x9_2) != (Go.bits .and .i64 (rd l1 x9_2) (wrap64 ((ji21) - 1)))) = false := bne_eq_false_iff_eq.mpr c22
                          clear c22
                          have H' := Aside0.mk H
                          clear H
                          obtain ⟨Ao23, co23, eo23⟩ := Kd.R_slice HO_7.out
                          subst eo23
                          have p288 : 0 ≤ (x9_2 : Int) := of_decide_eq_true (by first | (with_reducible assumption) | assumption)
                          have q288 : x9_2 < (t283.length : Int) := of_decide_eq_true (by first | (with_reducible assumption) | assumption)
                          obtain ⟨ad288, e288, hx288_0⟩ := Kd.at_int (Kd.R_reads' HO_7.out).2.2 x9_2 p288 q288
                          cases e288
                          replace p288 := eq_true p288
                          replace q288 := eq_true q288
                          have p289 : 0 ≤ (x9_2 : Int) := of_decide_eq_true (by first | (with_reducible assumption) | assumption)
                          have q289 : x9_2 < (l1.length : Int) := of_decide_eq_true (by first | (with_reducible assumption) | assumption)
                          obtain ⟨ad289, e289, hx289_0⟩ := Kd.at_int HR1.out x9_2 p289 q289
                          cases e289
                          replace hx289_0 := (HB.out.cell (World.block_lt_of_cell? w _ hx289_0)).trans hx289_0
                          replace p289 := eq_true p289
                          replace q289 := eq_true q289
                          go_wp2
                          repeat (go_quiet (fail); try go_wp2)
                          go_roundg k2
                          case measure => have := HJ8.out; have := HK2.out; omega
                          case rel => exact ⟨(wrap64 (x9_2 + 1)), (by first | rfl | (simp; done) | (simp [*]; done)), H', ⟨by have := HJ8.out; have := HK2.out; omega⟩, ⟨by (with_reducible repeat (first | apply Kd.R_alloc | apply Kd.R_drewN | apply Kd.R_drew)); exact HO_7.out⟩, ⟨by repeat (first | (with_reducible first | exact HB.out | apply below_alloc | apply pw_below_drewN | apply below_drew1) | exact HB.out)⟩⟩
                        · rw [if_neg c22] at H
                          have c22b0 : ((rd t283 x9_2) == (Go.bits .and .i64 (rd l1 x9_2) (wrap64 ((ji21) - 1)))) = false := beq_eq_false_iff_ne.mpr c22
                          have c22b1 : ((rd t283 x9_2) != (Go.bits .and .i64 (rd l1 x9_2) (wrap64 ((ji21) - 1)))) = true := bne_iff_ne.mpr c22
                          obtain rfl := Option.some.inj H
                          obtain ⟨Ao24, co24, eo24⟩ := Kd.R_slice HO_7.out
                          subst eo24
                          have p288 : 0 ≤ (x9_2 : Int) := of_decide_eq_true (by first | (with_reducible assumption) | assumption)
                          have q288 : x9_2 < (t283.length : Int) := of_decide_eq_true (by first | (with_reducible assumption) | assumption)
                          obtain ⟨ad288, e288, hx288_0⟩ := Kd.at_int (Kd.R_reads' HO_7.out).2.2 x9_2 p288 q288
                          cases e288
                          replace p288 := eq_true p288
                          replace q288 := eq_true q288
                          have p289 : 0 ≤ (x9_2 : Int) := of_decide_eq_true (by first | (with_reducible assumption) | assumption)
                          have q289 : x9_2 < (l1.length : Int) := of_decide_eq_true (by first | (with_reducible assumption) | assumption)
                          obtain ⟨ad289, e289, hx289_0⟩ := Kd.at_int HR1.out x9_2 p289 q289
                          cases e289
                          replace hx289_0 := (HB.out.cell (World.block_lt_of_cell? w _ hx289_0)).trans hx289_0
                          replace p289 := eq_true p289
                          replace q289 := eq_true q289
                          go_wp2
                          repeat (go_quiet (fail); try go_wp2)
                          go_ret
                          exact ⟨by first | rfl | (simp [errW_none, errW_some] <;> rfl) | (simp only [← hji21]; first | rfl | (simp [errW_none, errW_some] <;> rfl)) | (simp [*, errW_none, errW_some] <;> rfl), by repeat (first | (with_reducible first | exact HB.out | apply below_alloc | apply pw_below_drewN | apply below_drew1) | exact HB.out)⟩
                      · rw [if_neg c20] at H
                        exact absurd H (by simp)
                    · rw [if_neg c19] at H
                      exact absurd H (by simp)
                  · rw [if_neg c18] at H
                    exact absurd H (by simp)
                · rw [if_neg c17] at H
                  have c17b0 : decide (x9_2 < (l1.length : Int)) = false := decide_eq_false c17
                  clear c17
                  replace H := Option.bind_eq_some_iff.mp H
                  obtain ⟨t287, A250, H⟩ := H
                  replace H : (some t287) = some r := H
                  have A25 := Aside0.mk A250
                  clear A250
                  obtain rfl := Option.some.inj H
                  go_wp2_with (first | (go_at_call 14; (with_reducible refine (vitrinelaw11_awake.calls k2  t287 _ A25.out).mono ?_); rintro e w26 ⟨rfl, hb⟩; have n0_ := Aside0.mk (Kd.R_below (by (with_reducible repeat (first | apply Kd.R_alloc | apply Kd.R_drewN | apply Kd.R_drew)); exact HO_7.out) hb); have n1_ := Aside0.mk (below_step (by repeat (first | (with_reducible first | exact HB.out | apply below_alloc | apply pw_below_drewN | apply below_drew1) | exact HB.out)) hb); clear HO_7; clear HB; have HO_7 := n0_; have HB := n1_; clear n0_ n1_; (try clear hb); (try clear hb2); (try clear hk); (try clear hi)))
                  repeat (go_quiet (first | (go_at_call 14; (with_reducible refine (vitrinelaw11_awake.calls k2  t287 _ A25.out).mono ?_); rintro e w26 ⟨rfl, hb⟩; have n0_ := Aside0.mk (Kd.R_below (by (with_reducible repeat (first | apply Kd.R_alloc | apply Kd.R_drewN | apply Kd.R_drew)); exact HO_7.out) hb); have n1_ := Aside0.mk (below_step (by repeat (first | (with_reducible first | exact HB.out | apply below_alloc | apply pw_below_drewN | apply below_drew1) | exact HB.out)) hb); clear HO_7; clear HB; have HO_7 := n0_; have HB := n1_; clear n0_ n1_; (try clear hb); (try clear hb2); (try clear hk); (try clear hi))); try go_wp2_with (first | (go_at_call 14; (with_reducible refine (vitrinelaw11_awake.calls k2  t287 _ A25.out).mono ?_); rintro e w26 ⟨rfl, hb⟩; have n0_ := Aside0.mk (Kd.R_below (by (with_reducible repeat (first | apply Kd.R_alloc | apply Kd.R_drewN | apply Kd.R_drew)); exact HO_7.out) hb); have n1_ := Aside0.mk (below_step (by repeat (first | (with_reducible first | exact HB.out | apply below_alloc | apply pw_below_drewN | apply below_drew1) | exact HB.out)) hb); clear HO_7; clear HB; have HO_7 := n0_; have HB := n1_; clear n0_ n1_; (try clear hb); (try clear hb2); (try clear hk); (try clear hi))))
                  go_ret
                  exact ⟨by first | rfl | (simp [errW_none, errW_some] <;> rfl) | (simp [*, errW_none, errW_some] <;> rfl), by repeat (first | (with_reducible first | exact HB.out | apply below_alloc | apply pw_below_drewN | apply below_drew1) | exact HB.out)⟩
    · rw [if_neg c7] at H
      have c7b0 : (t281 == 0) = false := beq_eq_false_iff_ne.mpr c7
      have c7b1 : (t281 != 0) = true := bne_iff_ne.mpr c7
      by_cases c27 : t281 = 1
      · rw [if_pos c27] at H
        have c27b0 : (t281 == 1) = true := beq_iff_eq.mpr c27
        have c27b1 : (t281 != 1) = false := bne_eq_false_iff_eq.mpr c27
        clear c27
        by_cases c28 : t280.toList = ([] : List UInt8)
        · rw [if_pos c28] at H
          have c28b0 : (t280.toList == ([] : List UInt8)) = true := beq_iff_eq.mpr c28
          have c28b1 : (t280.toList != ([] : List UInt8)) = false := bne_eq_false_iff_eq.mpr c28
          clear c28
          replace H := Option.bind_eq_some_iff.mp H
          obtain ⟨t282, A290, H⟩ := H
          replace H : (some t282) = some r := H
          have A29 := Aside0.mk A290
          clear A290
          obtain rfl := Option.some.inj H
          go_enter Try.func7, Try.ntmps7
          go_wp2_with (first | (go_at_call 15; (with_reducible refine (samples_Pack.calls k a0 _ _ l1 t280 t281 _ ?side1 ?side2 A6.out).mono ?_); (case side1 => repeat (first | exact HR1.out | (with_reducible refine Kd.C_alloc ?_ _) | (with_reducible refine Kd.C_drewN ?_ _) | (with_reducible refine Kd.C_drew ?_))); (case side2 => exact HC1.out); rintro e w30 ⟨rfl, hb⟩; have n0_ := Aside0.mk (below_step (by repeat (first | (with_reducible first | exact HB.out | apply below_alloc | apply pw_below_drewN | apply below_drew1) | exact HB.out)) hb); clear HB; have HB := n0_; clear n0_; (try clear hb); (try clear hb2); (try clear hk); (try clear hi)) | (go_at_call 14; (with_reducible refine (vitrinelaw11_awake.calls k  t282 _ A29.out).mono ?_); rintro e w31 ⟨rfl, hb⟩; have n0_ := Aside0.mk (below_step (by repeat (first | (with_reducible first | exact HB.out | apply below_alloc | apply pw_below_drewN | apply below_drew1) | exact HB.out)) hb); clear HB; have HB := n0_; clear n0_; (try clear hb); (try clear hb2); (try clear hk); (try clear hi)))
          repeat (go_quiet (first | (go_at_call 15; (with_reducible refine (samples_Pack.calls k a0 _ _ l1 t280 t281 _ ?side1 ?side2 A6.out).mono ?_); (case side1 => repeat (first | exact HR1.out | (with_reducible refine Kd.C_alloc ?_ _) | (with_reducible refine Kd.C_drewN ?_ _) | (with_reducible refine Kd.C_drew ?_))); (case side2 => exact HC1.out); rintro e w30 ⟨rfl, hb⟩; have n0_ := Aside0.mk (below_step (by repeat (first | (with_reducible first | exact HB.out | apply below_alloc | apply pw_below_drewN | apply below_drew1) | exact HB.out)) hb); clear HB; have HB := n0_; clear n0_; (try clear hb); (try clear hb2); (try clear hk); (try clear hi)) | (go_at_call 14; (with_reducible refine (vitrinelaw11_awake.calls k  t282 _ A29.out).mono ?_); rintro e w31 ⟨rfl, hb⟩; have n0_ := Aside0.mk (below_step (by repeat (first | (with_reducible first | exact HB.out | apply below_alloc | apply pw_below_drewN | apply below_drew1) | exact HB.out)) hb); clear HB; have HB := n0_; clear n0_; (try clear hb); (try clear hb2); (try clear hk); (try clear hi))); try go_wp2_with (first | (go_at_call 15; (with_reducible refine (samples_Pack.calls k a0 _ _ l1 t280 t281 _ ?side1 ?side2 A6.out).mono ?_); (case side1 => repeat (first | exact HR1.out | (with_reducible refine Kd.C_alloc ?_ _) | (with_reducible refine Kd.C_drewN ?_ _) | (with_reducible refine Kd.C_drew ?_))); (case side2 => exact HC1.out); rintro e w30 ⟨rfl, hb⟩; have n0_ := Aside0.mk (below_step (by repeat (first | (with_reducible first | exact HB.out | apply below_alloc | apply pw_below_drewN | apply below_drew1) | exact HB.out)) hb); clear HB; have HB := n0_; clear n0_; (try clear hb); (try clear hb2); (try clear hk); (try clear hi)) | (go_at_call 14; (with_reducible refine (vitrinelaw11_awake.calls k  t282 _ A29.out).mono ?_); rintro e w31 ⟨rfl, hb⟩; have n0_ := Aside0.mk (below_step (by repeat (first | (with_reducible first | exact HB.out | apply below_alloc | apply pw_below_drewN | apply below_drew1) | exact HB.out)) hb); clear HB; have HB := n0_; clear n0_; (try clear hb); (try clear hb2); (try clear hk); (try clear hi))))
          go_ret
          exact ⟨by first | rfl | (simp [errW_none, errW_some] <;> rfl) | (simp [*, errW_none, errW_some] <;> rfl), by repeat (first | (with_reducible first | exact HB.out | apply below_alloc | apply pw_below_drewN | apply below_drew1) | exact HB.out)⟩
        · rw [if_neg c28] at H
          have c28b0 : (t280.toList == ([] : List UInt8)) = false := beq_eq_false_iff_ne.mpr c28
          have c28b1 : (t280.toList != ([] : List UInt8)) = true := bne_iff_ne.mpr c28
          obtain rfl := Option.some.inj H
          go_enter Try.func7, Try.ntmps7
          go_wp2_with (first | (go_at_call 15; (with_reducible refine (samples_Pack.calls k a0 _ _ l1 t280 t281 _ ?side1 ?side2 A6.out).mono ?_); (case side1 => repeat (first | exact HR1.out | (with_reducible refine Kd.C_alloc ?_ _) | (with_reducible refine Kd.C_drewN ?_ _) | (with_reducible refine Kd.C_drew ?_))); (case side2 => exact HC1.out); rintro e w32 ⟨rfl, hb⟩; have n0_ := Aside0.mk (below_step (by repeat (first | (with_reducible first | exact HB.out | apply below_alloc | apply pw_below_drewN | apply below_drew1) | exact HB.out)) hb); clear HB; have HB := n0_; clear n0_; (try clear hb); (try clear hb2); (try clear hk); (try clear hi)))
          repeat (go_quiet (first | (go_at_call 15; (with_reducible refine (samples_Pack.calls k a0 _ _ l1 t280 t281 _ ?side1 ?side2 A6.out).mono ?_); (case side1 => repeat (first | exact HR1.out | (with_reducible refine Kd.C_alloc ?_ _) | (with_reducible refine Kd.C_drewN ?_ _) | (with_reducible refine Kd.C_drew ?_))); (case side2 => exact HC1.out); rintro e w32 ⟨rfl, hb⟩; have n0_ := Aside0.mk (below_step (by repeat (first | (with_reducible first | exact HB.out | apply below_alloc | apply pw_below_drewN | apply below_drew1) | exact HB.out)) hb); clear HB; have HB := n0_; clear n0_; (try clear hb); (try clear hb2); (try clear hk); (try clear hi))); try go_wp2_with (first | (go_at_call 15; (with_reducible refine (samples_Pack.calls k a0 _ _ l1 t280 t281 _ ?side1 ?side2 A6.out).mono ?_); (case side1 => repeat (first | exact HR1.out | (with_reducible refine Kd.C_alloc ?_ _) | (with_reducible refine Kd.C_drewN ?_ _) | (with_reducible refine Kd.C_drew ?_))); (case side2 => exact HC1.out); rintro e w32 ⟨rfl, hb⟩; have n0_ := Aside0.mk (below_step (by repeat (first | (with_reducible first | exact HB.out | apply below_alloc | apply pw_below_drewN | apply below_drew1) | exact HB.out)) hb); clear HB; have HB := n0_; clear n0_; (try clear hb); (try clear hb2); (try clear hk); (try clear hi))))
          go_ret
          exact ⟨by first | rfl | (simp [errW_none, errW_some] <;> rfl) | (simp [*, errW_none, errW_some] <;> rfl), by repeat (first | (with_reducible first | exact HB.out | apply below_alloc | apply pw_below_drewN | apply below_drew1) | exact HB.out)⟩
      · rw [if_neg c27] at H
        have c27b0 : (t281 == 1) = false := beq_eq_false_iff_ne.mpr c27
        have c27b1 : (t281 != 1) = true := bne_iff_ne.mpr c27
        obtain rfl := Option.some.inj H
        go_enter Try.func7, Try.ntmps7
        go_wp2_with (first | (go_at_call 15; (with_reducible refine (samples_Pack.calls k a0 _ _ l1 t280 t281 _ ?side1 ?side2 A6.out).mono ?_); (case side1 => repeat (first | exact HR1.out | (with_reducible refine Kd.C_alloc ?_ _) | (with_reducible refine Kd.C_drewN ?_ _) | (with_reducible refine Kd.C_drew ?_))); (case side2 => exact HC1.out); rintro e w33 ⟨rfl, hb⟩; have n0_ := Aside0.mk (below_step (by repeat (first | (with_reducible first | exact HB.out | apply below_alloc | apply pw_below_drewN | apply below_drew1) | exact HB.out)) hb); clear HB; have HB := n0_; clear n0_; (try clear hb); (try clear hb2); (try clear hk); (try clear hi)))
        repeat (go_quiet (first | (go_at_call 15; (with_reducible refine (samples_Pack.calls k a0 _ _ l1 t280 t281 _ ?side1 ?side2 A6.out).mono ?_); (case side1 => repeat (first | exact HR1.out | (with_reducible refine Kd.C_alloc ?_ _) | (with_reducible refine Kd.C_drewN ?_ _) | (with_reducible refine Kd.C_drew ?_))); (case side2 => exact HC1.out); rintro e w33 ⟨rfl, hb⟩; have n0_ := Aside0.mk (below_step (by repeat (first | (with_reducible first | exact HB.out | apply below_alloc | apply pw_below_drewN | apply below_drew1) | exact HB.out)) hb); clear HB; have HB := n0_; clear n0_; (try clear hb); (try clear hb2); (try clear hk); (try clear hi))); try go_wp2_with (first | (go_at_call 15; (with_reducible refine (samples_Pack.calls k a0 _ _ l1 t280 t281 _ ?side1 ?side2 A6.out).mono ?_); (case side1 => repeat (first | exact HR1.out | (with_reducible refine Kd.C_alloc ?_ _) | (with_reducible refine Kd.C_drewN ?_ _) | (with_reducible refine Kd.C_drew ?_))); (case side2 => exact HC1.out); rintro e w33 ⟨rfl, hb⟩; have n0_ := Aside0.mk (below_step (by repeat (first | (with_reducible first | exact HB.out | apply below_alloc | apply pw_below_drewN | apply below_drew1) | exact HB.out)) hb); clear HB; have HB := n0_; clear n0_; (try clear hb); (try clear hb2); (try clear hk); (try clear hi))))
        go_ret
        exact ⟨by first | rfl | (simp [errW_none, errW_some] <;> rfl) | (simp [*, errW_none, errW_some] <;> rfl), by repeat (first | (with_reducible first | exact HB.out | apply below_alloc | apply pw_below_drewN | apply below_drew1) | exact HB.out)⟩

end Go.Proofs.Ytpccfanjdbenlaa.PM11
