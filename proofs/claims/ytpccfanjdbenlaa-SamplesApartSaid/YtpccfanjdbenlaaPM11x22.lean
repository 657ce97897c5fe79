/- Printed for this claim by a program of this session over the kit's print program: the Go functions as Lean functions, and proofs that the calls come to these answers. No conditions. -/
import Derived.Test.YtpccfanjdbenlaaPM11x0
import Derived.Test.YtpccfanjdbenlaaPM11x7
import Derived.Test.YtpccfanjdbenlaaPM11x11
namespace Go.Proofs.Ytpccfanjdbenlaa.PM11
open Go.RowKit Go.Proofs.YtpccfanjdbenlaaW.PrintWords Go.Proofs.YtpccfanjdbenlaaW.PrintLast Go.Proofs.YtpccfanjdbenlaaW.PrintMore
attribute [local go_sem] max2_int min2_int max_two min_two max_three min_three max_four min_four   -- for this text's walks alone
set_option linter.unusedVariables false
set_option linter.unusedSimpArgs false

/-! ### vitrinelaw11_SamplesApart: function 8 -/
def vitrinelaw11_SamplesApart.j0 : Nat → Int → Bool → Int → Int → Option (Bool)
  | 0, _, _, _, _ => none
  | k + 1, x0, x27, x291000, x291001 => if x27 = true then ((samples_Wide.f k x291000 x0).bind fun t291 => (if t291 = 0 then ((vitrinelaw11_awake.f k).bind fun t292 => (some t292)) else (some false))) else (if 0 ≤ x0 then ((samples_Wide.f k (Go.bits .and .i64 x291000 (wrap64 ((shl .i64 1 x0) - 1))) x0).bind fun t293 => ((samples_Wide.f k (Go.bits .and .i64 x291001 (wrap64 ((shl .i64 1 x0) - 1))) x0).bind fun t294 => (if ((decide ((Go.bits .and .i64 x291000 (wrap64 ((shl .i64 1 x0) - 1))) < (Go.bits .and .i64 x291001 (wrap64 ((shl .i64 1 x0) - 1))))) == (decide (t293 < t294))) = true then (if (((Go.bits .and .i64 x291000 (wrap64 ((shl .i64 1 x0) - 1))) == (Go.bits .and .i64 x291001 (wrap64 ((shl .i64 1 x0) - 1)))) == (t293 == t294)) = true then (if t293 ≥ 0 then (if t293 ≤ 65535 then ((samples_Wide.f k (wrap64 ((shl .i64 1 x0) - 1)) x0).bind fun t295 => (if t295 = 65535 then ((vitrinelaw11_awake.f k).bind fun t296 => (some t296)) else (some false))) else (some false)) else (some false)) else (some false)) else (some false)))) else (none))
def vitrinelaw11_SamplesApart.f (k : Nat) (a0 : Int) (a1_0 : Int) (a1_1 : Int) : Option (Bool) := if a0 = 1 then (vitrinelaw11_SamplesApart.j0 k a0 false a1_0 a1_1) else (if a0 = 2 then (vitrinelaw11_SamplesApart.j0 k a0 false a1_0 a1_1) else (if a0 = 4 then (vitrinelaw11_SamplesApart.j0 k a0 false a1_0 a1_1) else (if a0 = 8 then (vitrinelaw11_SamplesApart.j0 k a0 false a1_0 a1_1) else (vitrinelaw11_SamplesApart.j0 k a0 (a0 != 16) a1_0 a1_1))))
theorem vitrinelaw11_SamplesApart.mono_l : ∀ k, (∀ y0 y1 y2 y3, LeO (vitrinelaw11_SamplesApart.j0 k y0 y1 y2 y3) (vitrinelaw11_SamplesApart.j0 (k + 1) y0 y1 y2 y3))
  | 0 => fun _ _ _ _ r h => by simp [vitrinelaw11_SamplesApart.j0] at h
  | k + 1 => by
    have ih0 := vitrinelaw11_SamplesApart.mono_l k
    · intro y0 y1 y2 y3
      unfold vitrinelaw11_SamplesApart.j0
      repeat' first
      | (with_reducible exact ih0 _ _ _ _)
      | (with_reducible exact samples_Wide.mono _ _ _)
      | (with_reducible exact vitrinelaw11_awake.mono _)
      | (with_reducible exact LeO.refl _)
      | (with_reducible exact LeO.none _)
      | (with_reducible refine LeO.ite ?_ ?_)
      | (with_reducible refine LeO.bind ?_ (fun _ => ?_))
      | exact ih0 _ _ _ _
      | exact samples_Wide.mono _ _ _
      | exact vitrinelaw11_awake.mono _
      | exact LeO.none _
      | refine LeO.ite ?_ ?_
      | refine LeO.bind ?_ (fun _ => ?_)
theorem vitrinelaw11_SamplesApart.mono : ∀ a0 a1 a2 k, LeO (vitrinelaw11_SamplesApart.f k a0 a1 a2) (vitrinelaw11_SamplesApart.f (k + 1) a0 a1 a2) := by
  intro a0 a1 a2 k
  have ih0 := vitrinelaw11_SamplesApart.mono_l k
  unfold vitrinelaw11_SamplesApart.f
  repeat' first
      | (with_reducible exact ih0 _ _ _ _)
      | (with_reducible exact samples_Wide.mono _ _ _)
      | (with_reducible exact vitrinelaw11_awake.mono _)
      | (with_reducible exact LeO.refl _)
      | (with_reducible exact LeO.none _)
      | (with_reducible refine LeO.ite ?_ ?_)
      | (with_reducible refine LeO.bind ?_ (fun _ => ?_))
      | exact ih0 _ _ _ _
      | exact samples_Wide.mono _ _ _
      | exact vitrinelaw11_awake.mono _
      | exact LeO.none _
      | refine LeO.ite ?_ ?_
      | refine LeO.bind ?_ (fun _ => ?_)
set_option maxHeartbeats 8000000 in
set_option maxRecDepth 100000 in
theorem vitrinelaw11_SamplesApart.calls (k : Nat) (a0 : Int) (a1_0 : Int) (a1_1 : Int) (r : Bool) (w : World) (h : vitrinelaw11_SamplesApart.f k a0 a1_0 a1_1 = some r) :
    Calls Try.prog 8 #[.int .i64 a0, .agg #[.int .i64 a1_0, .int .i64 a1_1]] w fun e w' => e = .returned (.bool r) ∧ Below w.heap.size w w' := by
  have hu42 := Try.underlying42
  have HB := Aside0.mk (Below.refl w.heap.size w)
  have H : (if a0 = 1 then (vitrinelaw11_SamplesApart.j0 k a0 false a1_0 a1_1) else (if a0 = 2 then (vitrinelaw11_SamplesApart.j0 k a0 false a1_0 a1_1) else (if a0 = 4 then (vitrinelaw11_SamplesApart.j0 k a0 false a1_0 a1_1) else (if a0 = 8 then (vitrinelaw11_SamplesApart.j0 k a0 false a1_0 a1_1) else (vitrinelaw11_SamplesApart.j0 k a0 (a0 != 16) a1_0 a1_1))))) = some r := h
  clear h
  have HC3 := Aside0.mk H
  clear H
  go_enter Try.func8, Try.ntmps8
  go_upto_region 1 with (first | ((with_reducible refine gate_dst (N := 3) rfl ?_); refine box_event ?hg (N := 3) ?hd (cs := #[.int .i64 a1_0, .int .i64 a1_1]) (t := 42) ?hr ?_; (case hd => rfl); (case hg => rfl); (case hr => first | (go_simp; done) | (go_simp; rfl)); intro gb290 hg w4 hbox hb; have n0_ := Aside0.mk (below_step (by repeat (first | (with_reducible first | exact HB.out | apply below_alloc | apply pw_below_drewN | apply below_drew1) | exact HB.out)) hb); have n1_ := Aside0.mk (hbox); have n2_ := Aside0.mk ((by rw [hg]; exact (below_size (by repeat (first | (with_reducible first | exact HB.out | apply below_alloc | apply pw_below_drewN | apply below_drew1) | exact HB.out))) : w.heap.size ≤ gb290)); have n3_ := Aside0.mk ((by rw [hg]; exact (below_size (by repeat (first | (with_reducible first | exact HB.out | apply below_alloc | apply pw_below_drewN | apply below_drew1) | exact HB.out))) : w.heap.size ≤ gb290)); clear HB; have HB := n0_; have BK290 := n1_; have GW290 := n2_; have GE290 := n3_; clear n0_ n1_ n2_ n3_; clear hb hbox hg))
  (try simp only [Act.put, List.setIfInBounds_toArray, List.set_cons_zero, List.set_cons_succ])
  go_cut [27] (fun v27 wc => ∃ (kq : Nat) (x27_2 : Bool), v27 = .bool x27_2 ∧ Aside0 (vitrinelaw11_SamplesApart.j0 kq a0 x27_2 a1_0 a1_1 = some r) ∧ Aside0 (kq ≤ k) ∧ Aside0 (wc.heap[gb290]? = some (.cells #[.int .i64 a1_0, .int .i64 a1_1] 42 (0, 0))) ∧ Aside0 (Below w.heap.size w wc))
  case first =>
    have H := HC3.out
    clear HC3
    by_cases c5 : a0 = 1
    · rw [if_pos c5] at H
      have c5b0 : (a0 == 1) = true := beq_iff_eq.mpr c5
      have c5b1 : (a0 != 1) = false := bne_eq_false_iff_eq.mpr c5
      clear c5
      (first | rw [c5b0] | (simp only [i64_w, i32_w]; rw [c5b0]) | skip)
      have H' := Aside0.mk H
      clear H
      go_wp2
      go_meet
      case rel => exact ⟨_, (false), (by first | rfl | (simp; done) | (simp [*]; done)), H', ⟨by first | omega | exact Nat.le_refl _⟩, ⟨by (with_reducible repeat (first | refine blk_drewN ?_ _ | refine blk_drew ?_ | refine blk_alloc ?_ _)); exact BK290.out⟩, ⟨by repeat (first | (with_reducible first | exact HB.out | apply below_alloc | apply pw_below_drewN | apply below_drew1 | refine below_set ?_ GE290.out) | exact HB.out)⟩⟩
    · rw [if_neg c5] at H
      have c5b0 : (a0 == 1) = false := beq_eq_false_iff_ne.mpr c5
      have c5b1 : (a0 != 1) = true := bne_iff_ne.mpr c5
      (first | rw [c5b0] | (simp only [i64_w, i32_w]; rw [c5b0]) | skip)
      by_cases c6 : a0 = 2
      · rw [if_pos c6] at H
        have c6b0 : (a0 == 2) = true := beq_iff_eq.mpr c6
        have c6b1 : (a0 != 2) = false := bne_eq_false_iff_eq.mpr c6
        clear c6
        have H' := Aside0.mk H
        clear H
        go_wp2
        go_meet
        case rel => exact ⟨_, (false), (by first | rfl | (simp; done) | (simp [*]; done)), H', ⟨by first | omega | exact Nat.le_refl _⟩, ⟨by (with_reducible repeat (first | refine blk_drewN ?_ _ | refine blk_drew ?_ | refine blk_alloc ?_ _)); exact BK290.out⟩, ⟨by repeat (first | (with_reducible first | exact HB.out | apply below_alloc | apply pw_below_drewN | apply below_drew1 | refine below_set ?_ GE290.out) | exact HB.out)⟩⟩
      · rw [if_neg c6] at H
        have c6b0 : (a0 == 2) = false := beq_eq_false_iff_ne.mpr c6
        have c6b1 : (a0 != 2) = true := bne_iff_ne.mpr c6
        by_cases c7 : a0 = 4
        · rw [if_pos c7] at H
          have c7b0 : (a0 == 4) = true := beq_iff_eq.mpr c7
          have c7b1 : (a0 != 4) = false := bne_eq_false_iff_eq.mpr c7
          clear c7
          have H' := Aside0.mk H
          clear H
          go_wp2
          go_meet
          case rel => exact ⟨_, (false), (by first | rfl | (simp; done) | (simp [*]; done)), H', ⟨by first | omega | exact Nat.le_refl _⟩, ⟨by (with_reducible repeat (first | refine blk_drewN ?_ _ | refine blk_drew ?_ | refine blk_alloc ?_ _)); exact BK290.out⟩, ⟨by repeat (first | (with_reducible first | exact HB.out | apply below_alloc | apply pw_below_drewN | apply below_drew1 | refine below_set ?_ GE290.out) | exact HB.out)⟩⟩
        · rw [if_neg c7] at H
          have c7b0 : (a0 == 4) = false := beq_eq_false_iff_ne.mpr c7
          have c7b1 : (a0 != 4) = true := bne_iff_ne.mpr c7
          by_cases c8 : a0 = 8
          · rw [if_pos c8] at H
            have c8b0 : (a0 == 8) = true := beq_iff_eq.mpr c8
            have c8b1 : (a0 != 8) = false := bne_eq_false_iff_eq.mpr c8
            clear c8
            have H' := Aside0.mk H
            clear H
            go_wp2
            go_meet
            case rel => exact ⟨_, (false), (by first | rfl | (simp; done) | (simp [*]; done)), H', ⟨by first | omega | exact Nat.le_refl _⟩, ⟨by (with_reducible repeat (first | refine blk_drewN ?_ _ | refine blk_drew ?_ | refine blk_alloc ?_ _)); exact BK290.out⟩, ⟨by repeat (first | (with_reducible first | exact HB.out | apply below_alloc | apply pw_below_drewN | apply below_drew1 | refine below_set ?_ GE290.out) | exact HB.out)⟩⟩
          · rw [if_neg c8] at H
            have c8b0 : (a0 == 8) = false := beq_eq_false_iff_ne.mpr c8
            have c8b1 : (a0 != 8) = true := bne_iff_ne.mpr c8
            have H' := Aside0.mk H
            clear H
            go_wp2
            go_meet
            case rel => exact ⟨_, ((a0 != 16)), (by first | rfl | (simp; done) | (simp [*]; done)), H', ⟨by first | omega | exact Nat.le_refl _⟩, ⟨by (with_reducible repeat (first | refine blk_drewN ?_ _ | refine blk_drew ?_ | refine blk_alloc ?_ _)); exact BK290.out⟩, ⟨by repeat (first | (with_reducible first | exact HB.out | apply below_alloc | apply pw_below_drewN | apply below_drew1 | refine below_set ?_ GE290.out) | exact HB.out)⟩⟩
  case rest =>
    clear HC3
    try clear p2
    try clear c5
    try clear c5b0
    try clear c5b1
    try clear c6
    try clear c6b0
    try clear c6b1
    try clear c7
    try clear c7b0
    try clear c7b1
    try clear c8
    try clear c8b0
    try clear c8b1
    obtain ⟨kq, x27_2, rfl, HA, HJ2, BK290, HB⟩ := hcut
    cases kq with
    | zero => exact absurd HA.out (by simp [vitrinelaw11_SamplesApart.j0])
    | succ kj2 =>
      have H := HA.out
      clear HA
      simp only [vitrinelaw11_SamplesApart.j0] at H
      by_cases c9 : x27_2 = true
      · subst c9
        have H1 : ((samples_Wide.f kj2 a1_0 a0).bind fun t291 => (if t291 = 0 then ((vitrinelaw11_awake.f kj2).bind fun t292 => (some t292)) else (some false))) = some r := by rw [if_pos rfl] at H; exact H
        clear H
        have H := H1
        clear H1
        replace H := Option.bind_eq_some_iff.mp H
        obtain ⟨t291, A100, H⟩ := H
        replace H : (if t291 = 0 then ((vitrinelaw11_awake.f kj2).bind fun t292 => (some t292)) else (some false)) = some r := H
        have A10 := Aside0.mk A100
        clear A100
        by_cases c11 : t291 = 0
        · rw [if_pos c11] at H
          have c11b0 : (t291 == 0) = true := beq_iff_eq.mpr c11
          have c11b1 : (t291 != 0) = false := bne_eq_false_iff_eq.mpr c11
          clear c11
          replace H := Option.bind_eq_some_iff.mp H
          obtain ⟨t292, A120, H⟩ := H
          replace H : (some t292) = some r := H
          have A12 := Aside0.mk A120
          clear A120
          obtain rfl := Option.some.inj H
          have hcz13_0 : wc.cell? ⟨gb290, 0, none⟩ = some (.int .i64 a1_0) := (blk_cell BK290.out 0).trans rfl
          have hcz13_1 : wc.cell? ⟨gb290, 1, none⟩ = some (.int .i64 a1_1) := (blk_cell BK290.out 1).trans rfl
          have hfz13_0 := blk_frozen BK290.out 0
          have hfz13_1 := blk_frozen BK290.out 1
          go_wp2_with (first | ((with_reducible refine gate_callee (f := 17) rfl ?_); refine goesL_ (some 31) rfl rfl Try.func17 (by kernel_rfl) rfl #[.int .i64 a1_0, .int .i64 a0] rfl (by (try simp only [List.map_toArray, List.map_cons, List.map_nil]); first | done | rfl | (simp only [List.length_drop, List.length_take]; rfl)) ?_; (with_reducible refine (samples_Wide.calls kj2 a1_0 a0 t291 _ A10.out).mono ?_); rintro e w14 ⟨rfl, hb⟩; refine ⟨_, rfl, ?_⟩; have n0_ := Aside0.mk (blk_below (g := gb290) (o := .cells #[.int .i64 a1_0, .int .i64 a1_1] 42 (0, 0)) (by (with_reducible repeat (first | refine blk_drewN ?_ _ | refine blk_drew ?_ | refine blk_alloc ?_ _)); exact BK290.out) hb); have n1_ := Aside0.mk (below_step (by repeat (first | (with_reducible first | exact HB.out | apply below_alloc | apply pw_below_drewN | apply below_drew1 | refine below_set ?_ GE290.out) | exact HB.out)) hb); clear BK290; clear HB; have BK290 := n0_; have HB := n1_; clear n0_ n1_; (try clear hb); (try clear hb2); (try clear hk); (try clear hi)) | (go_at_call 14; (with_reducible refine (vitrinelaw11_awake.calls kj2  t292 _ A12.out).mono ?_); rintro e w15 ⟨rfl, hb⟩; have n0_ := Aside0.mk (blk_below (g := gb290) (o := .cells #[.int .i64 a1_0, .int .i64 a1_1] 42 (0, 0)) (by (with_reducible repeat (first | refine blk_drewN ?_ _ | refine blk_drew ?_ | refine blk_alloc ?_ _)); exact BK290.out) hb); have n1_ := Aside0.mk (below_step (by repeat (first | (with_reducible first | exact HB.out | apply below_alloc | apply pw_below_drewN | apply below_drew1 | refine below_set ?_ GE290.out) | exact HB.out)) hb); clear BK290; clear HB; have BK290 := n0_; have HB := n1_; clear n0_ n1_; (try clear hb); (try clear hb2); (try clear hk); (try clear hi)))
          go_ret
          exact ⟨by first | rfl | (simp [errW_none, errW_some] <;> rfl) | (simp [*, errW_none, errW_some] <;> rfl), by repeat (first | (with_reducible first | exact HB.out | apply below_alloc | apply pw_below_drewN | apply below_drew1 | refine below_set ?_ GE290.out) | exact HB.out)⟩
        · rw [if_neg c11] at H
          have c11b0 : (t291 == 0) = false := beq_eq_false_iff_ne.mpr c11
          have c11b1 : (t291 != 0) = true := bne_iff_ne.mpr c11
          obtain rfl := Option.some.inj H
          have hcz16_0 : wc.cell? ⟨gb290, 0, none⟩ = some (.int .i64 a1_0) := (blk_cell BK290.out 0).trans rfl
          have hcz16_1 : wc.cell? ⟨gb290, 1, none⟩ = some (.int .i64 a1_1) := (blk_cell BK290.out 1).trans rfl
          have hfz16_0 := blk_frozen BK290.out 0
          have hfz16_1 := blk_frozen BK290.out 1
          go_wp2_with (first | ((with_reducible refine gate_callee (f := 17) rfl ?_); refine goesL_ (some 31) rfl rfl Try.func17 (by kernel_rfl) rfl #[.int .i64 a1_0, .int .i64 a0] rfl (by (try simp only [List.map_toArray, List.map_cons, List.map_nil]); first | done | rfl | (simp only [List.length_drop, List.length_take]; rfl)) ?_; (with_reducible refine (samples_Wide.calls kj2 a1_0 a0 t291 _ A10.out).mono ?_); rintro e w17 ⟨rfl, hb⟩; refine ⟨_, rfl, ?_⟩; have n0_ := Aside0.mk (blk_below (g := gb290) (o := .cells #[.int .i64 a1_0, .int .i64 a1_1] 42 (0, 0)) (by (with_reducible repeat (first | refine blk_drewN ?_ _ | refine blk_drew ?_ | refine blk_alloc ?_ _)); exact BK290.out) hb); have n1_ := Aside0.mk (below_step (by repeat (first | (with_reducible first | exact HB.out | apply below_alloc | apply pw_below_drewN | apply below_drew1 | refine below_set ?_ GE290.out) | exact HB.out)) hb); clear BK290; clear HB; have BK290 := n0_; have HB := n1_; clear n0_ n1_; (try clear hb); (try clear hb2); (try clear hk); (try clear hi)))
          go_ret
          exact ⟨by first | rfl | (simp [errW_none, errW_some] <;> rfl) | (simp [*, errW_none, errW_some] <;> rfl), by repeat (first | (with_reducible first | exact HB.out | apply below_alloc | apply pw_below_drewN | apply below_drew1 | refine below_set ?_ GE290.out) | exact HB.out)⟩
      · replace c9 := Bool.eq_false_iff.mpr c9
        subst c9
        have H1 : (if 0 ≤ a0 then ((samples_Wide.f kj2 (Go.bits .and .i64 a1_0 (wrap64 ((shl .i64 1 a0) - 1))) a0).bind fun t293 => ((samples_Wide.f kj2 (Go.bits .and .i64 a1_1 (wrap64 ((shl .i64 1 a0) - 1))) a0).bind fun t294 => (if ((decide ((Go.bits .and .i64 a1_0 (wrap64 ((shl .i64 1 a0) - 1))) < (Go.bits .and .i64 a1_1 (wrap64 ((shl .i64 1 a0) - 1))))) == (decide (t293 < t294))) = true then (if (((Go.bits .and .i64 a1_0 (wrap64 ((shl .i64 1 a0) - 1))) == (Go.bits .and .i64 a1_1 (wrap64 ((shl .i64 1 a0) - 1)))) == (t293 == t294)) = true then (if t293 ≥ 0 then (if t293 ≤ 65535 then ((samples_Wide.f kj2 (wrap64 ((shl .i64 1 a0) - 1)) a0).bind fun t295 => (if t295 = 65535 then ((vitrinelaw11_awake.f kj2).bind fun t296 => (some t296)) else (some false))) else (some false)) else (some false)) else (some false)) else (some false)))) else (none)) = some r := by rw [if_neg (show ¬ (false = true) by decide)] at H; exact H
        clear H
        have H := H1
        clear H1
        by_cases c18 : 0 ≤ a0
        · rw [if_pos c18] at H
          have c18b0 := eq_true c18
          have c18b1 : decide (0 ≤ a0) = true := decide_eq_true c18
          clear c18
          obtain ⟨ji19, hji19⟩ : ∃ j_ : Int, (shl .i64 1 a0) = j_ := ⟨_, rfl⟩
          replace H : ((samples_Wide.f kj2 (Go.bits .and .i64 a1_0 (wrap64 ((ji19) - 1))) a0).bind fun t293 => ((samples_Wide.f kj2 (Go.bits .and .i64 a1_1 (wrap64 ((ji19) - 1))) a0).bind fun t294 => (if ((decide ((Go.bits .and .i64 a1_0 (wrap64 ((ji19) - 1))) < (Go.bits .and .i64 a1_1 (wrap64 ((ji19) - 1))))) == (decide (t293 < t294))) = true then (if (((Go.bits .and .i64 a1_0 (wrap64 ((ji19) - 1))) == (Go.bits .and .i64 a1_1 (wrap64 ((ji19) - 1)))) == (t293 == t294)) = true then (if t293 ≥ 0 then (if t293 ≤ 65535 then ((samples_Wide.f kj2 (wrap64 ((ji19) - 1)) a0).bind fun t295 => (if t295 = 65535 then ((vitrinelaw11_awake.f kj2).bind fun t296 => (some t296)) else (some false))) else (some false)) else (some false)) else (some false)) else (some false)))) = some r := by first | (rw [hji19] at H; exact H) | (simp only [hji19] at H ⊢; exact H)
          have hji19_ : (IntKind.i64.wrap (1 * 2 ^ min a0.toNat 64)) = ji19 := hji19
          have hji19z : a0 ≤ 64 → (IntKind.i64.wrap (1 * 2 ^ a0.toNat)) = ji19 := shl_small hji19
          have hji19u : (IntKind.i64.wrap (2 ^ min a0.toNat 64)) = ji19 := by have h_ := hji19_; rw [Int.one_mul] at h_; exact h_
          have hji19v : a0 ≤ 64 → (IntKind.i64.wrap (2 ^ a0.toNat)) = ji19 := fun hle_ => by have h_ := hji19z hle_; rw [Int.one_mul] at h_; exact h_
          have hji19y : (wrap64 (1 * 2 ^ min a0.toNat 64)) = ji19 := (i64_w _).symm.trans hji19_
          have hji19x : a0 ≤ 64 → (wrap64 (1 * 2 ^ a0.toNat)) = ji19 := fun h_ => (i64_w _).symm.trans (hji19z h_)
          replace H := Option.bind_eq_some_iff.mp H
          obtain ⟨t293, A200, H⟩ := H
          replace H : ((samples_Wide.f kj2 (Go.bits .and .i64 a1_1 (wrap64 ((ji19) - 1))) a0).bind fun t294 => (if ((decide ((Go.bits .and .i64 a1_0 (wrap64 ((ji19) - 1))) < (Go.bits .and .i64 a1_1 (wrap64 ((ji19) - 1))))) == (decide (t293 < t294))) = true then (if (((Go.bits .and .i64 a1_0 (wrap64 ((ji19) - 1))) == (Go.bits .and .i64 a1_1 (wrap64 ((ji19) - 1)))) == (t293 == t294)) = true then (if t293 ≥ 0 then (if t293 ≤ 65535 then ((samples_Wide.f kj2 (wrap64 ((ji19) - 1)) a0).bind fun t295 => (if t295 = 65535 then ((vitrinelaw11_awake.f kj2).bind fun t296 => (some t296)) else (some false))) else (some false)) else (some false)) else (some false)) else (some false))) = some r := H
          have A20 := Aside0.mk A200
          clear A200
          replace H := Option.bind_eq_some_iff.mp H
          obtain ⟨t294, A210, H⟩ := H
          replace H : (if ((decide ((Go.bits .and .i64 a1_0 (wrap64 ((ji19) - 1))) < (Go.bits .and .i64 a1_1 (wrap64 ((ji19) - 1))))) == (decide (t293 < t294))) = true then (if (((Go.bits .and .i64 a1_0 (wrap64 ((ji19) - 1))) == (Go.bits .and .i64 a1_1 (wrap64 ((ji19) - 1)))) == (t293 == t294)) = true then (if t293 ≥ 0 then (if t293 ≤ 65535 then ((samples_Wide.f kj2 (wrap64 ((ji19) - 1)) a0).bind fun t295 => (if t295 = 65535 then ((vitrinelaw11_awake.f kj2).bind fun t296 => (some t296)) else (some false))) else (some false)) else (some false)) else (some false)) else (some false)) = some r := H
          have A21 := Aside0.mk A210
          clear A210
          by_cases c22 : ((decide ((Go.bits .and .i64 a1_0 (wrap64 ((ji19) - 1))) < (Go.bits .and .i64 a1_1 (wrap64 ((ji19) - 1))))) == (decide (t293 < t294))) = true
          · rw [if_pos c22] at H
            have c22b0 : ((decide ((Go.bits .and .i64 a1_0 (wrap64 ((ji19) - 1))) < (Go.bits .and .i64 a1_1 (wrap64 ((ji19) - 1))))) == (decide (t293 < t294))) = true := c22
            (try (have c22b1 : decide ((decide ((Go.bits .and .i64 a1_0 (wrap64 ((ji19) - 1))) < (Go.bits .and .i64 a1_1 (wrap64 ((ji19) - 1))))) = (decide (t293 < t294))) = true := by simpa using c22))
            (try (have c22b2 : ((decide ((Go.bits .and .i64 a1_0 (wrap64 ((ji19) - 1))) < (Go.bits .and .i64 a1_1 (wrap64 ((ji19) - 1))))) == (decide (t293 < t294))) = true := by simpa using c22))
            clear c22
            by_cases c23 : (((Go.bits .and .i64 a1_0 (wrap64 ((ji19) - 1))) == (Go.bits .and .i64 a1_1 (wrap64 ((ji19) - 1)))) == (t293 == t294)) = true
            · rw [if_pos c23] at H
              have c23b0 : (((Go.bits .and .i64 a1_0 (wrap64 ((ji19) - 1))) == (Go.bits .and .i64 a1_1 (wrap64 ((ji19) - 1)))) == (t293 == t294)) = true := c23
              (try (have c23b1 : decide (((Go.bits .and .i64 a1_0 (wrap64 ((ji19) - 1))) == (Go.bits .and .i64 a1_1 (wrap64 ((ji19) - 1)))) = (t293 == t294)) = true := by simpa using c23))
              (try (have c23b2 : (((Go.bits .and .i64 a1_0 (wrap64 ((ji19) - 1))) == (Go.bits .and .i64 a1_1 (wrap64 ((ji19) - 1)))) == (t293 == t294)) = true := by simpa using c23))
              clear c23
              by_cases c24 : t293 ≥ 0
              · rw [if_pos c24] at H
                have c24b0 : decide (0 ≤ t293) = true := decide_eq_true c24
                clear c24
                by_cases c25 : t293 ≤ 65535
                · rw [if_pos c25] at H
                  have c25b0 : decide (t293 ≤ 65535) = true := decide_eq_true c25
                  clear c25
                  replace H := Option.bind_eq_some_iff.mp H
                  obtain ⟨t295, A260, H⟩ := H
                  replace H : (if t295 = 65535 then ((vitrinelaw11_awake.f kj2).bind fun t296 => (some t296)) else (some false)) = some r := H
                  have A26 := Aside0.mk A260
                  clear A260
                  by_cases c27 : t295 = 65535
                  · rw [if_pos c27] at H
                    have c27b0 : (t295 == 65535) = true := beq_iff_eq.mpr c27
                    have c27b1 : (t295 != 65535) = false := bne_eq_false_iff_eq.mpr c27
                    clear c27
                    replace H := Option.bind_eq_some_iff.mp H
                    obtain ⟨t296, A280, H⟩ := H
                    replace H : (some t296) = some r := H
                    have A28 := Aside0.mk A280
                    clear A280
                    obtain rfl := Option.some.inj H
                    have hcz29_0 : wc.cell? ⟨gb290, 0, none⟩ = some (.int .i64 a1_0) := (blk_cell BK290.out 0).trans rfl
                    have hcz29_1 : wc.cell? ⟨gb290, 1, none⟩ = some (.int .i64 a1_1) := (blk_cell BK290.out 1).trans rfl
                    have hfz29_0 := blk_frozen BK290.out 0
                    have hfz29_1 := blk_frozen BK290.out 1
                    go_wp2_with (first | ((with_reducible refine gate_callee (f := 17) rfl ?_); refine goesL_ (some 49) rfl rfl Try.func17 (by kernel_rfl) rfl #[.int .i64 (Go.bits .and .i64 a1_0 (wrap64 ((ji19) - 1))), .int .i64 a0] rfl (by (try simp only [List.map_toArray, List.map_cons, List.map_nil]); first | done | (simp only [hji19]; rfl) | rfl | (simp only [List.length_drop, List.length_take]; rfl)) ?_; (with_reducible refine (samples_Wide.calls kj2 (Go.bits .and .i64 a1_0 (wrap64 ((ji19) - 1))) a0 t293 _ A20.out).mono ?_); rintro e w30 ⟨rfl, hb⟩; refine ⟨_, rfl, ?_⟩; have n0_ := Aside0.mk (blk_below (g := gb290) (o := .cells #[.int .i64 a1_0, .int .i64 a1_1] 42 (0, 0)) (by (with_reducible repeat (first | refine blk_drewN ?_ _ | refine blk_drew ?_ | refine blk_alloc ?_ _)); exact BK290.out) hb); have n1_ := Aside0.mk (below_step (by repeat (first | (with_reducible first | exact HB.out | apply below_alloc | apply pw_below_drewN | apply below_drew1 | refine below_set ?_ GE290.out) | exact HB.out)) hb); clear BK290; clear HB; have BK290 := n0_; have HB := n1_; clear n0_ n1_; (try clear hb); (try clear hb2); (try clear hk); (try clear hi)) | ((with_reducible refine gate_callee (f := 17) rfl ?_); refine goesL_ (some 52) rfl rfl Try.func17 (by kernel_rfl) rfl #[.int .i64 (Go.bits .and .i64 a1_1 (wrap64 ((ji19) - 1))), .int .i64 a0] rfl (by (try simp only [List.map_toArray, List.map_cons, List.map_nil]); first | done | (simp only [hji19]; rfl) | rfl | (simp only [List.length_drop, List.length_take]; rfl)) ?_; (with_reducible refine (samples_Wide.calls kj2 (Go.bits .and .i64 a1_1 (wrap64 ((ji19) - 1))) a0 t294 _ A21.out).mono ?_); rintro e w31 ⟨rfl, hb⟩; refine ⟨_, rfl, ?_⟩; have n0_ := Aside0.mk (blk_below (g := gb290) (o := .cells #[.int .i64 a1_0, .int .i64 a1_1] 42 (0, 0)) (by (with_reducible repeat (first | refine blk_drewN ?_ _ | refine blk_drew ?_ | refine blk_alloc ?_ _)); exact BK290.out) hb); have n1_ := Aside0.mk (below_step (by repeat (first | (with_reducible first | exact HB.out | apply below_alloc | apply pw_below_drewN | apply below_drew1 | refine below_set ?_ GE290.out) | exact HB.out)) hb); clear BK290; clear HB; have BK290 := n0_; have HB := n1_; clear n0_ n1_; (try clear hb); (try clear hb2); (try clear hk); (try clear hi)) | (go_at_call 17; (with_reducible refine (samples_Wide.calls kj2 (wrap64 ((ji19) - 1)) a0 t295 _ A26.out).mono ?_); rintro e w32 ⟨rfl, hb⟩; have n0_ := Aside0.mk (blk_below (g := gb290) (o := .cells #[.int .i64 a1_0, .int .i64 a1_1] 42 (0, 0)) (by (with_reducible repeat (first | refine blk_drewN ?_ _ | refine blk_drew ?_ | refine blk_alloc ?_ _)); exact BK290.out) hb); have n1_ := Aside0.mk (below_step (by repeat (first | (with_reducible first | exact HB.out | apply below_alloc | apply pw_below_drewN | apply below_drew1 | refine below_set ?_ GE290.out) | exact HB.out)) hb); clear BK290; clear HB; have BK290 := n0_; have HB := n1_; clear n0_ n1_; (try clear hb); (try clear hb2); (try clear hk); (try clear hi)) | (go_at_call 14; (with_reducible refine (vitrinelaw11_awake.calls kj2  t296 _ A28.out).mono ?_); rintro e w33 ⟨rfl, hb⟩; have n0_ := Aside0.mk (blk_below (g := gb290) (o := .cells #[.int .i64 a1_0, .int .i64 a1_1] 42 (0, 0)) (by (with_reducible repeat (first | refine blk_drewN ?_ _ | refine blk_drew ?_ | refine blk_alloc ?_ _)); exact BK290.out) hb); have n1_ := Aside0.mk (below_step (by repeat (first | (with_reducible first | exact HB.out | apply below_alloc | apply pw_below_drewN | apply below_drew1 | refine below_set ?_ GE290.out) | exact HB.out)) hb); clear BK290; clear HB; have BK290 := n0_; have HB := n1_; clear n0_ n1_; (try clear hb); (try clear hb2); (try clear hk); (try clear hi)))
                    go_ret
                    exact ⟨by first | rfl | (simp [errW_none, errW_some] <;> rfl) | (simp only [← hji19]; first | rfl | (simp [errW_none, errW_some] <;> rfl)) | (simp [*, errW_none, errW_some] <;> rfl), by repeat (first | (with_reducible first | exact HB.out | apply below_alloc | apply pw_below_drewN | apply below_drew1 | refine below_set ?_ GE290.out) | exact HB.out)⟩
                  · rw [if_neg c27] at H
                    have c27b0 : (t295 == 65535) = false := beq_eq_false_iff_ne.mpr c27
                    have c27b1 : (t295 != 65535) = true := bne_iff_ne.mpr c27
                    obtain rfl := Option.some.inj H
                    have hcz34_0 : wc.cell? ⟨gb290, 0, none⟩ = some (.int .i64 a1_0) := (blk_cell BK290.out 0).trans rfl
                    have hcz34_1 : wc.cell? ⟨gb290, 1, none⟩ = some (.int .i64 a1_1) := (blk_cell BK290.out 1).trans rfl
                    have hfz34_0 := blk_frozen BK290.out 0
                    have hfz34_1 := blk_frozen BK290.out 1
                    go_wp2_with (first | ((with_reducible refine gate_callee (f := 17) rfl ?_); refine goesL_ (some 49) rfl rfl Try.func17 (by kernel_rfl) rfl #[.int .i64 (Go.bits .and .i64 a1_0 (wrap64 ((ji19) - 1))), .int .i64 a0] rfl (by (try simp only [List.map_toArray, List.map_cons, List.map_nil]); first | done | (simp only [hji19]; rfl) | rfl | (simp only [List.length_drop, List.length_take]; rfl)) ?_; (with_reducible refine (samples_Wide.calls kj2 (Go.bits .and .i64 a1_0 (wrap64 ((ji19) - 1))) a0 t293 _ A20.out).mono ?_); rintro e w35 ⟨rfl, hb⟩; refine ⟨_, rfl, ?_⟩; have n0_ := Aside0.mk (blk_below (g := gb290) (o := .cells #[.int .i64 a1_0, .int .i64 a1_1] 42 (0, 0)) (by (with_reducible repeat (first | refine blk_drewN ?_ _ | refine blk_drew ?_ | refine blk_alloc ?_ _)); exact BK290.out) hb); have n1_ := Aside0.mk (below_step (by repeat (first | (with_reducible first | exact HB.out | apply below_alloc | apply pw_below_drewN | apply below_drew1 | refine below_set ?_ GE290.out) | exact HB.out)) hb); clear BK290; clear HB; have BK290 := n0_; have HB := n1_; clear n0_ n1_; (try clear hb); (try clear hb2); (try clear hk); (try clear hi)) | ((with_reducible refine gate_callee (f := 17) rfl ?_); refine goesL_ (some 52) rfl rfl Try.func17 (by kernel_rfl) rfl #[.int .i64 (Go.bits .and .i64 a1_1 (wrap64 ((ji19) - 1))), .int .i64 a0] rfl (by (try simp only [List.map_toArray, List.map_cons, List.map_nil]); first | done | (simp only [hji19]; rfl) | rfl | (simp only [List.length_drop, List.length_take]; rfl)) ?_; (with_reducible refine (samples_Wide.calls kj2 (Go.bits .and .i64 a1_1 (wrap64 ((ji19) - 1))) a0 t294 _ A21.out).mono ?_); rintro e w36 ⟨rfl, hb⟩; refine ⟨_, rfl, ?_⟩; have n0_ := Aside0.mk (blk_below (g := gb290) (o := .cells #[.int .i64 a1_0, .int .i64 a1_1] 42 (0, 0)) (by (with_reducible repeat (first | refine blk_drewN ?_ _ | refine blk_drew ?_ | refine blk_alloc ?_ _)); exact BK290.out) hb); have n1_ := Aside0.mk (below_step (by repeat (first | (with_reducible first | exact HB.out | apply below_alloc | apply pw_below_drewN | apply below_drew1 | refine below_set ?_ GE290.out) | exact HB.out)) hb); clear BK290; clear HB; have BK290 := n0_; have HB := n1_; clear n0_ n1_; (try clear hb); (try clear hb2); (try clear hk); (try clear hi)) | (go_at_call 17; (with_reducible refine (samples_Wide.calls kj2 (wrap64 ((ji19) - 1)) a0 t295 _ A26.out).mono ?_); rintro e w37 ⟨rfl, hb⟩; have n0_ := Aside0.mk (blk_below (g := gb290) (o := .cells #[.int .i64 a1_0, .int .i64 a1_1] 42 (0, 0)) (by (with_reducible repeat (first | refine blk_drewN ?_ _ | refine blk_drew ?_ | refine blk_alloc ?_ _)); exact BK290.out) hb); have n1_ := Aside0.mk (below_step (by repeat (first | (with_reducible first | exact HB.out | apply below_alloc | apply pw_below_drewN | apply below_drew1 | refine below_set ?_ GE290.out) | exact HB.out)) hb); clear BK290; clear HB; have BK290 := n0_; have HB := n1_; clear n0_ n1_; (try clear hb); (try clear hb2); (try clear hk); (try clear hi)))
                    go_ret
                    exact ⟨by first | rfl | (simp [errW_none, errW_some] <;> rfl) | (simp only [← hji19]; first | rfl | (simp [errW_none, errW_some] <;> rfl)) | (simp [*, errW_none, errW_some] <;> rfl), by repeat (first | (with_reducible first | exact HB.out | apply below_alloc | apply pw_below_drewN | apply below_drew1 | refine below_set ?_ GE290.out) | exact HB.out)⟩
                · rw [if_neg c25] at H
                  have c25b0 : decide (t293 ≤ 65535) = false := decide_eq_false c25
                  clear c25
                  obtain rfl := Option.some.inj H
                  have hcz38_0 : wc.cell? ⟨gb290, 0, none⟩ = some (.int .i64 a1_0) := (blk_cell BK290.out 0).trans rfl
                  have hcz38_1 : wc.cell? ⟨gb290, 1, none⟩ = some (.int .i64 a1_1) := (blk_cell BK290.out 1).trans rfl
                  have hfz38_0 := blk_frozen BK290.out 0
                  have hfz38_1 := blk_frozen BK290.out 1
                  go_wp2_with (first | ((with_reducible refine gate_callee (f := 17) rfl ?_); refine goesL_ (some 49) rfl rfl Try.func17 (by kernel_rfl) rfl #[.int .i64 (Go.bits .and .i64 a1_0 (wrap64 ((ji19) - 1))), .int .i64 a0] rfl (by (try simp only [List.map_toArray, List.map_cons, List.map_nil]); first | done | (simp only [hji19]; rfl) | rfl | (simp only [List.length_drop, List.length_take]; rfl)) ?_; (with_reducible refine (samples_Wide.calls kj2 (Go.bits .and .i64 a1_0 (wrap64 ((ji19) - 1))) a0 t293 _ A20.out).mono ?_); rintro e w39 ⟨rfl, hb⟩; refine ⟨_, rfl, ?_⟩; have n0_ := Aside0.mk (blk_below (g := gb290) (o := .cells #[.int .i64 a1_0, .int .i64 a1_1] 42 (0, 0)) (by (with_reducible repeat (first | refine blk_drewN ?_ _ | refine blk_drew ?_ | refine blk_alloc ?_ _)); exact BK290.out) hb); have n1_ := Aside0.mk (below_step (by repeat (first | (with_reducible first | exact HB.out | apply below_alloc | apply pw_below_drewN | apply below_drew1 | refine below_set ?_ GE290.out) | exact HB.out)) hb); clear BK290; clear HB; have BK290 := n0_; have HB := n1_; clear n0_ n1_; (try clear hb); (try clear hb2); (try clear hk); (try clear hi)) | ((with_reducible refine gate_callee (f := 17) rfl ?_); refine goesL_ (some 52) rfl rfl Try.func17 (by kernel_rfl) rfl #[.int .i64 (Go.bits .and .i64 a1_1 (wrap64 ((ji19) - 1))), .int .i64 a0] rfl (by (try simp only [List.map_toArray, List.map_cons, List.map_nil]); first | done | (simp only [hji19]; rfl) | rfl | (simp only [List.length_drop, List.length_take]; rfl)) ?_; (with_reducible refine (samples_Wide.calls kj2 (Go.bits .and .i64 a1_1 (wrap64 ((ji19) - 1))) a0 t294 _ A21.out).mono ?_); rintro e w40 ⟨rfl, hb⟩; refine ⟨_, rfl, ?_⟩; have n0_ := Aside0.mk (blk_below (g := gb290) (o := .cells #[.int .i64 a1_0, .int .i64 a1_1] 42 (0, 0)) (by (with_reducible repeat (first | refine blk_drewN ?_ _ | refine blk_drew ?_ | refine blk_alloc ?_ _)); exact BK290.out) hb); have n1_ := Aside0.mk (below_step (by repeat (first | (with_reducible first | exact HB.out | apply below_alloc | apply pw_below_drewN | apply below_drew1 | refine below_set ?_ GE290.out) | exact HB.out)) hb); clear BK290; clear HB; have BK290 := n0_; have HB := n1_; clear n0_ n1_; (try clear hb); (try clear hb2); (try clear hk); (try clear hi)))
                  go_ret
                  exact ⟨by first | rfl | (simp [errW_none, errW_some] <;> rfl) | (simp only [← hji19]; first | rfl | (simp [errW_none, errW_some] <;> rfl)) | (simp [*, errW_none, errW_some] <;> rfl), by repeat (first | (with_reducible first | exact HB.out | apply below_alloc | apply pw_below_drewN | apply below_drew1 | refine below_set ?_ GE290.out) | exact HB.out)⟩
              · rw [if_neg c24] at H
                have c24b0 : decide (0 ≤ t293) = false := decide_eq_false c24
                clear c24
                obtain rfl := Option.some.inj H
                have hcz41_0 : wc.cell? ⟨gb290, 0, none⟩ = some (.int .i64 a1_0) := (blk_cell BK290.out 0).trans rfl
                have hcz41_1 : wc.cell? ⟨gb290, 1, none⟩ = some (.int .i64 a1_1) := (blk_cell BK290.out 1).trans rfl
                have hfz41_0 := blk_frozen BK290.out 0
                have hfz41_1 := blk_frozen BK290.out 1
                go_wp2_with (first | ((with_reducible refine gate_callee (f := 17) rfl ?_); refine goesL_ (some 49) rfl rfl Try.func17 (by kernel_rfl) rfl #[.int .i64 (Go.bits .and .i64 a1_0 (wrap64 ((ji19) - 1))), .int .i64 a0] rfl (by (try simp only [List.map_toArray, List.map_cons, List.map_nil]); first | done | (simp only [hji19]; rfl) | rfl | (simp only [List.length_drop, List.length_take]; rfl)) ?_; (with_reducible refine (samples_Wide.calls kj2 (Go.bits .and .i64 a1_0 (wrap64 ((ji19) - 1))) a0 t293 _ A20.out).mono ?_); rintro e w42 ⟨rfl, hb⟩; refine ⟨_, rfl, ?_⟩; have n0_ := Aside0.mk (blk_below (g := gb290) (o := .cells #[.int .i64 a1_0, .int .i64 a1_1] 42 (0, 0)) (by (with_reducible repeat (first | refine blk_drewN ?_ _ | refine blk_drew ?_ | refine blk_alloc ?_ _)); exact BK290.out) hb); have n1_ := Aside0.mk (below_step (by repeat (first | (with_reducible first | exact HB.out | apply below_alloc | apply pw_below_drewN | apply below_drew1 | refine below_set ?_ GE290.out) | exact HB.out)) hb); clear BK290; clear HB; have BK290 := n0_; have HB := n1_; clear n0_ n1_; (try clear hb); (try clear hb2); (try clear hk); (try clear hi)) | ((with_reducible refine gate_callee (f := 17) rfl ?_); refine goesL_ (some 52) rfl rfl Try.func17 (by kernel_rfl) rfl #[.int .i64 (Go.bits .and .i64 a1_1 (wrap64 ((ji19) - 1))), .int .i64 a0] rfl (by (try simp only [List.map_toArray, List.map_cons, List.map_nil]); first | done | (simp only [hji19]; rfl) | rfl | (simp only [List.length_drop, List.length_take]; rfl)) ?_; (with_reducible refine (samples_Wide.calls kj2 (Go.bits .and .i64 a1_1 (wrap64 ((ji19) - 1))) a0 t294 _ A21.out).mono ?_); rintro e w43 ⟨rfl, hb⟩; refine ⟨_, rfl, ?_⟩; have n0_ := Aside0.mk (blk_below (g := gb290) (o := .cells #[.int .i64 a1_0, .int .i64 a1_1] 42 (0, 0)) (by (with_reducible repeat (first | refine blk_drewN ?_ _ | refine blk_drew ?_ | refine blk_alloc ?_ _)); exact BK290.out) hb); have n1_ := Aside0.mk (below_step (by repeat (first | (with_reducible first | exact HB.out | apply below_alloc | apply pw_below_drewN | apply below_drew1 | refine below_set ?_ GE290.out) | exact HB.out)) hb); clear BK290; clear HB; have BK290 := n0_; have HB := n1_; clear n0_ n1_; (try clear hb); (try clear hb2); (try clear hk); (try clear hi)))
                go_ret
                exact ⟨by first | rfl | (simp [errW_none, errW_some] <;> rfl) | (simp only [← hji19]; first | rfl | (simp [errW_none, errW_some] <;> rfl)) | (simp [*, errW_none, errW_some] <;> rfl), by repeat (first | (with_reducible first | exact HB.out | apply below_alloc | apply pw_below_drewN | apply below_drew1 | refine below_set ?_ GE290.out) | exact HB.out)⟩
            · rw [if_neg c23] at H
              have c23b0 : (((Go.bits .and .i64 a1_0 (wrap64 ((ji19) - 1))) == (Go.bits .and .i64 a1_1 (wrap64 ((ji19) - 1)))) == (t293 == t294)) = false := by simpa using c23
              (try (have c23b1 : decide (((Go.bits .and .i64 a1_0 (wrap64 ((ji19) - 1))) == (Go.bits .and .i64 a1_1 (wrap64 ((ji19) - 1)))) = (t293 == t294)) = false := by simpa using c23))
              (try (have c23b2 : (((Go.bits .and .i64 a1_0 (wrap64 ((ji19) - 1))) == (Go.bits .and .i64 a1_1 (wrap64 ((ji19) - 1)))) == (t293 == t294)) = false := by simpa using c23))
              (try (have c23b3 : ¬ (((Go.bits .and .i64 a1_0 (wrap64 ((ji19) - 1))) == (Go.bits .and .i64 a1_1 (wrap64 ((ji19) - 1)))) = (t293 == t294)) := by simpa using c23))
              clear c23
              obtain rfl := Option.some.inj H
              have hcz44_0 : wc.cell? ⟨gb290, 0, none⟩ = some (.int .i64 a1_0) := (blk_cell BK290.out 0).trans rfl
              have hcz44_1 : wc.cell? ⟨gb290, 1, none⟩ = some (.int .i64 a1_1) := (blk_cell BK290.out 1).trans rfl
              have hfz44_0 := blk_frozen BK290.out 0
              have hfz44_1 := blk_frozen BK290.out 1
              go_wp2_with (first | ((with_reducible refine gate_callee (f := 17) rfl ?_); refine goesL_ (some 49) rfl rfl Try.func17 (by kernel_rfl) rfl #[.int .i64 (Go.bits .and .i64 a1_0 (wrap64 ((ji19) - 1))), .int .i64 a0] rfl (by (try simp only [List.map_toArray, List.map_cons, List.map_nil]); first | done | (simp only [hji19]; rfl) | rfl | (simp only [List.length_drop, List.length_take]; rfl)) ?_; (with_reducible refine (samples_Wide.calls kj2 (Go.bits .and .i64 a1_0 (wrap64 ((ji19) - 1))) a0 t293 _ A20.out).mono ?_); rintro e w45 ⟨rfl, hb⟩; refine ⟨_, rfl, ?_⟩; have n0_ := Aside0.mk (blk_below (g := gb290) (o := .cells #[.int .i64 a1_0, .int .i64 a1_1] 42 (0, 0)) (by (with_reducible repeat (first | refine blk_drewN ?_ _ | refine blk_drew ?_ | refine blk_alloc ?_ _)); exact BK290.out) hb); have n1_ := Aside0.mk (below_step (by repeat (first | (with_reducible first | exact HB.out | apply below_alloc | apply pw_below_drewN | apply below_drew1 | refine below_set ?_ GE290.out) | exact HB.out)) hb); clear BK290; clear HB; have BK290 := n0_; have HB := n1_; clear n0_ n1_; (try clear hb); (try clear hb2); (try clear hk); (try clear hi)) | ((with_reducible refine gate_callee (f := 17) rfl ?_); refine goesL_ (some 52) rfl rfl Try.func17 (by kernel_rfl) rfl #[.int .i64 (Go.bits .and .i64 a1_1 (wrap64 ((ji19) - 1))), .int .i64 a0] rfl (by (try simp only [List.map_toArray, List.map_cons, List.map_nil]); first | done | (simp only [hji19]; rfl) | rfl | (simp only [List.length_drop, List.length_take]; rfl)) ?_; (with_reducible refine (samples_Wide.calls kj2 (Go.bits .and .i64 a1_1 (wrap64 ((ji19) - 1))) a0 t294 _ A21.out).mono ?_); rintro e w46 ⟨rfl, hb⟩; refine ⟨_, rfl, ?_⟩; have n0_ := Aside0.mk (blk_below (g := gb290) (o := .cells #[.int .i64 a1_0, .int .i64 a1_1] 42 (0, 0)) (by (with_reducible repeat (first | refine blk_drewN ?_ _ | refine blk_drew ?_ | refine blk_alloc ?_ _)); exact BK290.out) hb); have n1_ := Aside0.mk (below_step (by repeat (first | (with_reducible first | exact HB.out | apply below_alloc | apply pw_below_drewN | apply below_drew1 | refine below_set ?_ GE290.out) | exact HB.out)) hb); clear BK290; clear HB; have BK290 := n0_; have HB := n1_; clear n0_ n1_; (try clear hb); (try clear hb2); (try clear hk); (try clear hi)))
              go_ret
              exact ⟨by first | rfl | (simp [errW_none, errW_some] <;> rfl) | (simp only [← hji19]; first | rfl | (simp [errW_none, errW_some] <;> rfl)) | (simp [*, errW_none, errW_some] <;> rfl), by repeat (first | (with_reducible first | exact HB.out | apply below_alloc | apply pw_below_drewN | apply below_drew1 | refine below_set ?_ GE290.out) | exact HB.out)⟩
          · rw [if_neg c22] at H
            have c22b0 : ((decide ((Go.bits .and .i64 a1_0 (wrap64 ((ji19) - 1))) < (Go.bits .and .i64 a1_1 (wrap64 ((ji19) - 1))))) == (decide (t293 < t294))) = false := by simpa using c22
            (try (have c22b1 : decide ((decide ((Go.bits .and .i64 a1_0 (wrap64 ((ji19) - 1))) < (Go.bits .and .i64 a1_1 (wrap64 ((ji19) - 1))))) = (decide (t293 < t294))) = false := by simpa using c22))
            (try (have c22b2 : ((decide ((Go.bits .and .i64 a1_0 (wrap64 ((ji19) - 1))) < (Go.bits .and .i64 a1_1 (wrap64 ((ji19) - 1))))) == (decide (t293 < t294))) = false := by simpa using c22))
            (try (have c22b3 : ¬ ((decide ((Go.bits .and .i64 a1_0 (wrap64 ((ji19) - 1))) < (Go.bits .and .i64 a1_1 (wrap64 ((ji19) - 1))))) = (decide (t293 < t294))) := by simpa using c22))
            clear c22
            obtain rfl := Option.some.inj H
            have hcz47_0 : wc.cell? ⟨gb290, 0, none⟩ = some (.int .i64 a1_0) := (blk_cell BK290.out 0).trans rfl
            have hcz47_1 : wc.cell? ⟨gb290, 1, none⟩ = some (.int .i64 a1_1) := (blk_cell BK290.out 1).trans rfl
            have hfz47_0 := blk_frozen BK290.out 0
            have hfz47_1 := blk_frozen BK290.out 1
            go_wp2_with (first | ((with_reducible refine gate_callee (f := 17) rfl ?_); refine goesL_ (some 49) rfl rfl Try.func17 (by kernel_rfl) rfl #[.int .i64 (Go.bits .and .i64 a1_0 (wrap64 ((ji19) - 1))), .int .i64 a0] rfl (by (try simp only [List.map_toArray, List.map_cons, List.map_nil]); first | done | (simp only [hji19]; rfl) | rfl | (simp only [List.length_drop, List.length_take]; rfl)) ?_; (with_reducible refine (samples_Wide.calls kj2 (Go.bits .and .i64 a1_0 (wrap64 ((ji19) - 1))) a0 t293 _ A20.out).mono ?_); rintro e w48 ⟨rfl, hb⟩; refine ⟨_, rfl, ?_⟩; have n0_ := Aside0.mk (blk_below (g := gb290) (o := .cells #[.int .i64 a1_0, .int .i64 a1_1] 42 (0, 0)) (by (with_reducible repeat (first | refine blk_drewN ?_ _ | refine blk_drew ?_ | refine blk_alloc ?_ _)); exact BK290.out) hb); have n1_ := Aside0.mk (below_step (by repeat (first | (with_reducible first | exact HB.out | apply below_alloc | apply pw_below_drewN | apply below_drew1 | refine below_set ?_ GE290.out) | exact HB.out)) hb); clear BK290; clear HB; have BK290 := n0_; have HB := n1_; clear n0_ n1_; (try clear hb); (try clear hb2); (try clear hk); (try clear hi)) | ((with_reducible refine gate_callee (f := 17) rfl ?_); refine goesL_ (some 52) rfl rfl Try.func17 (by kernel_rfl) rfl #[.int .i64 (Go.bits .and .i64 a1_1 (wrap64 ((ji19) - 1))), .int .i64 a0] rfl (by (try simp only [List.map_toArray, List.map_cons, List.map_nil]); first | done | (simp only [hji19]; rfl) | rfl | (simp only [List.length_drop, List.length_take]; rfl)) ?_; (with_reducible refine (samples_Wide.calls kj2 (Go.bits .and .i64 a1_1 (wrap64 ((ji19) - 1))) a0 t294 _ A21.out).mono ?_); rintro e w49 ⟨rfl, hb⟩; refine ⟨_, rfl, ?_⟩; have n0_ := Aside0.mk (blk_below (g := gb290) (o := .cells #[.int .i64 a1_0, .int .i64 a1_1] 42 (0, 0)) (by (with_reducible repeat (first | refine blk_drewN ?_ _ | refine blk_drew ?_ | refine blk_alloc ?_ _)); exact BK290.out) hb); have n1_ := Aside0.mk (below_step (by repeat (first | (with_reducible first | exact HB.out | apply below_alloc | apply pw_below_drewN | apply below_drew1 | refine below_set ?_ GE290.out) | exact HB.out)) hb); clear BK290; clear HB; have BK290 := n0_; have HB := n1_; clear n0_ n1_; (try clear hb); (try clear hb2); (try clear hk); (try clear hi)))
            go_ret
            exact ⟨by first | rfl | (simp [errW_none, errW_some] <;> rfl) | (simp only [← hji19]; first | rfl | (simp [errW_none, errW_some] <;> rfl)) | (simp [*, errW_none, errW_some] <;> rfl), by repeat (first | (with_reducible first | exact HB.out | apply below_alloc | apply pw_below_drewN | apply below_drew1 | refine below_set ?_ GE290.out) | exact HB.out)⟩
        · rw [if_neg c18] at H
          exact absurd H (by simp)

end Go.Proofs.Ytpccfanjdbenlaa.PM11
