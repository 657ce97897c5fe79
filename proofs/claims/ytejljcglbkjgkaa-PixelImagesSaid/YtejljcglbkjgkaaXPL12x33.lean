/- Printed for this claim by a program of this session over the kit's print program: the Go functions as Lean functions, and proofs that the calls come to these answers. No conditions. -/
import Derived.Test.YtejljcglbkjgkaaXH
import Derived.Test.YtejljcglbkjgkaaXPL12x1
import Derived.Test.YtejljcglbkjgkaaXPL12x21
import Derived.Test.YtejljcglbkjgkaaXPL12x26
namespace Go.Proofs.Ytejljcglbkjgkaa.PL12
open Go.RowKit Go.Proofs.YtejljcglbkjgkaaW.PrintWords Go.Proofs.YtejljcglbkjgkaaW.PrintLast Go.Proofs.YtejljcglbkjgkaaW.PrintMore
attribute [local go_sem] max2_int min2_int max_two min_two max_three min_three max_four min_four   -- for this text's walks alone
set_option linter.unusedVariables false
set_option linter.unusedSimpArgs false

def vitrineref10_Row.j0 : Nat → Int → Bool → Int → Int → Int → Int → Int → Option (Int)
 | 0, _, _, _, _, _, _, _ => none
 | k + 1, x1, x15, x328000, x328001, x328002, x328003, x328004 => if x15 = true then (some 0) else ((vitrineref08_Samples.f k x328003).bind fun t329 => (some (wrap64 (Int.tdiv (wrap64 ((wrap64 ((wrap64 (x328002 * t329)) * x1)) + 7)) 8))))
def vitrineref10_Row.f (k : Nat) (a0_0 : Int) (a0_1 : Int) (a0_2 : Int) (a0_3 : Int) (a0_4 : Int) (a1 : Int) : Option (Int) := (vitrineref08_Right.f k a0_0 a0_1 a0_2 a0_3 a0_4).bind fun t328 => (if t328 = 0 then (if a1 < 1 then (vitrineref10_Row.j0 k a1 true a0_0 a0_1 a0_2 a0_3 a0_4) else (vitrineref10_Row.j0 k a1 (decide (a1 > 1024)) a0_0 a0_1 a0_2 a0_3 a0_4)) else (vitrineref10_Row.j0 k a1 true a0_0 a0_1 a0_2 a0_3 a0_4))
set_option maxHeartbeats 40000000 in
set_option maxRecDepth 100000 in
theorem vitrineref10_Row.calls (k : Nat) (a0_0 : Int) (a0_1 : Int) (a0_2 : Int) (a0_3 : Int) (a0_4 : Int) (a1 : Int) (r : Int) (w : World) (h : vitrineref10_Row.f k a0_0 a0_1 a0_2 a0_3 a0_4 a1 = some r) :
  Calls Try.prog 26 #[.agg #[.int .i64 a0_0, .int .i64 a0_1, .int .i64 a0_2, .int .i64 a0_3, .int .i64 a0_4], .int .i64 a1] w fun e w' => e = .returned (.int .i64 r) ∧ Below w.heap.size w w' := by
 have hu29 := Try.underlying29
 have HB := Aside0.mk (Below.refl w.heap.size w)
 have H : ((vitrineref08_Right.f k a0_0 a0_1 a0_2 a0_3 a0_4).bind fun t328 => (if t328 = 0 then (if a1 < 1 then (vitrineref10_Row.j0 k a1 true a0_0 a0_1 a0_2 a0_3 a0_4) else (vitrineref10_Row.j0 k a1 (decide (a1 > 1024)) a0_0 a0_1 a0_2 a0_3 a0_4)) else (vitrineref10_Row.j0 k a1 true a0_0 a0_1 a0_2 a0_3 a0_4))) = some r := h
 clear h
 have HC3 := Aside0.mk H
 clear H
 go_enter Try.func26, Try.ntmps26
 go_upto_region 1 with (first | ((with_reducible refine gate_dst (N := 2) rfl ?_); refine box_event ?hg (N := 2) ?hd (cs := #[.int .i64 a0_0, .int .i64 a0_1, .int .i64 a0_2, .int .i64 a0_3, .int .i64 a0_4]) (t := 29) ?hr ?_; (case hd => rfl); (case hg => rfl); (case hr => first | (go_simp; done) | (go_simp; rfl)); intro gb327 hg w4 hbox hb; have n0_ := Aside0.mk (below_step (hz HB) hb); have n1_ := Aside0.mk (hbox); have n2_ := Aside0.mk ((by rw [hg]; exact (below_size (hz HB)) : w.heap.size ≤ gb327)); have n3_ := Aside0.mk ((by rw [hg]; exact (below_size (hz HB)) : w.heap.size ≤ gb327)); clear HB; have HB := n0_; have BK327 := n1_; have GW327 := n2_; have GE327 := n3_; clear n0_ n1_ n2_ n3_; clear hb hbox hg))
 repeat (go_quiet (first | ((with_reducible refine gate_dst (N := 2) rfl ?_); refine box_event ?hg (N := 2) ?hd (cs := #[.int .i64 a0_0, .int .i64 a0_1, .int .i64 a0_2, .int .i64 a0_3, .int .i64 a0_4]) (t := 29) ?hr ?_; (case hd => rfl); (case hg => rfl); (case hr => first | (go_simp; done) | (go_simp; rfl)); intro gb327 hg w4 hbox hb; have n0_ := Aside0.mk (below_step (hz HB) hb); have n1_ := Aside0.mk (hbox); have n2_ := Aside0.mk ((by rw [hg]; exact (below_size (hz HB)) : w.heap.size ≤ gb327)); have n3_ := Aside0.mk ((by rw [hg]; exact (below_size (hz HB)) : w.heap.size ≤ gb327)); clear HB; have HB := n0_; have BK327 := n1_; have GW327 := n2_; have GE327 := n3_; clear n0_ n1_ n2_ n3_; clear hb hbox hg)); go_upto_region 1 with (first | ((with_reducible refine gate_dst (N := 2) rfl ?_); refine box_event ?hg (N := 2) ?hd (cs := #[.int .i64 a0_0, .int .i64 a0_1, .int .i64 a0_2, .int .i64 a0_3, .int .i64 a0_4]) (t := 29) ?hr ?_; (case hd => rfl); (case hg => rfl); (case hr => first | (go_simp; done) | (go_simp; rfl)); intro gb327 hg w4 hbox hb; have n0_ := Aside0.mk (below_step (hz HB) hb); have n1_ := Aside0.mk (hbox); have n2_ := Aside0.mk ((by rw [hg]; exact (below_size (hz HB)) : w.heap.size ≤ gb327)); have n3_ := Aside0.mk ((by rw [hg]; exact (below_size (hz HB)) : w.heap.size ≤ gb327)); clear HB; have HB := n0_; have BK327 := n1_; have GW327 := n2_; have GE327 := n3_; clear n0_ n1_ n2_ n3_; clear hb hbox hg)))
 (try simp only [Act.put, List.setIfInBounds_toArray, List.set_cons_zero, List.set_cons_succ])
 go_cut [15] (fun v15 wc => ∃ (kq : Nat) (x15_2 : Bool), v15 = .bool x15_2 ∧ Aside0 (vitrineref10_Row.j0 kq a1 x15_2 a0_0 a0_1 a0_2 a0_3 a0_4 = some r) ∧ Aside0 (kq ≤ k) ∧ Aside0 (wc.heap[gb327]? = some (.cells #[.int .i64 a0_0, .int .i64 a0_1, .int .i64 a0_2, .int .i64 a0_3, .int .i64 a0_4] 29 (0, 0))) ∧ Aside0 (Below w.heap.size w wc))
 case first =>
  have H := HC3.out
  clear HC3
  replace H := Option.bind_eq_some_iff.mp H
  obtain ⟨t328, A50, H⟩ := H
  replace H : (if t328 = 0 then (if a1 < 1 then (vitrineref10_Row.j0 k a1 true a0_0 a0_1 a0_2 a0_3 a0_4) else (vitrineref10_Row.j0 k a1 (decide (a1 > 1024)) a0_0 a0_1 a0_2 a0_3 a0_4)) else (vitrineref10_Row.j0 k a1 true a0_0 a0_1 a0_2 a0_3 a0_4)) = some r := H
  have A5 := Aside0.mk A50
  clear A50
  by_cases c6 : t328 = 0
  ·rw [if_pos c6] at H
   have c6b0 : (t328 == 0) = true := beq_iff_eq.mpr c6
   have c6b1 : (t328 != 0) = false := bne_eq_false_iff_eq.mpr c6
   clear c6
   (first | rw [c6b0] | (simp only [i64_w, i32_w]; rw [c6b0]) | skip)
   by_cases c7 : a1 < 1
   ·rw [if_pos c7] at H
    have c7b0 : decide (a1 < 1) = true := decide_eq_true c7
    clear c7
    have H' := Aside0.mk H
    clear H
    have hcz8_0 : w4.cell? ⟨gb327, 0, none⟩ = some (.int .i64 a0_0) := (blk_cell BK327.out 0).trans rfl
    have hcz8_1 : w4.cell? ⟨gb327, 1, none⟩ = some (.int .i64 a0_1) := (blk_cell BK327.out 1).trans rfl
    have hcz8_2 : w4.cell? ⟨gb327, 2, none⟩ = some (.int .i64 a0_2) := (blk_cell BK327.out 2).trans rfl
    have hcz8_3 : w4.cell? ⟨gb327, 3, none⟩ = some (.int .i64 a0_3) := (blk_cell BK327.out 3).trans rfl
    have hcz8_4 : w4.cell? ⟨gb327, 4, none⟩ = some (.int .i64 a0_4) := (blk_cell BK327.out 4).trans rfl
    have hfz8_0 := blk_frozen BK327.out 0
    have hfz8_1 := blk_frozen BK327.out 1
    have hfz8_2 := blk_frozen BK327.out 2
    have hfz8_3 := blk_frozen BK327.out 3
    have hfz8_4 := blk_frozen BK327.out 4
    go_wp2_with (first | (go_at_call 15; (with_reducible refine (vitrineref08_Right.calls k a0_0 a0_1 a0_2 a0_3 a0_4 t328 _ A5.out).mono ?_); rintro e w9 ⟨rfl, hb⟩; have n0_ := Aside0.mk (blk_below (g := gb327) (o := .cells #[.int .i64 a0_0, .int .i64 a0_1, .int .i64 a0_2, .int .i64 a0_3, .int .i64 a0_4] 29 (0, 0)) (kz BK327) hb); have n1_ := Aside0.mk (below_step (hz HB) hb); clear BK327; clear HB; have BK327 := n0_; have HB := n1_; clear n0_ n1_; (try clear hb); (try clear hb2); (try clear hk); (try clear hi)))
    repeat (go_quiet (first | (go_at_call 15; (with_reducible refine (vitrineref08_Right.calls k a0_0 a0_1 a0_2 a0_3 a0_4 t328 _ A5.out).mono ?_); rintro e w9 ⟨rfl, hb⟩; have n0_ := Aside0.mk (blk_below (g := gb327) (o := .cells #[.int .i64 a0_0, .int .i64 a0_1, .int .i64 a0_2, .int .i64 a0_3, .int .i64 a0_4] 29 (0, 0)) (kz BK327) hb); have n1_ := Aside0.mk (below_step (hz HB) hb); clear BK327; clear HB; have BK327 := n0_; have HB := n1_; clear n0_ n1_; (try clear hb); (try clear hb2); (try clear hk); (try clear hi))); try go_wp2_with (first | (go_at_call 15; (with_reducible refine (vitrineref08_Right.calls k a0_0 a0_1 a0_2 a0_3 a0_4 t328 _ A5.out).mono ?_); rintro e w9 ⟨rfl, hb⟩; have n0_ := Aside0.mk (blk_below (g := gb327) (o := .cells #[.int .i64 a0_0, .int .i64 a0_1, .int .i64 a0_2, .int .i64 a0_3, .int .i64 a0_4] 29 (0, 0)) (kz BK327) hb); have n1_ := Aside0.mk (below_step (hz HB) hb); clear BK327; clear HB; have BK327 := n0_; have HB := n1_; clear n0_ n1_; (try clear hb); (try clear hb2); (try clear hk); (try clear hi))))
    go_meet
    case rel => exact ⟨_, (true), (by first | rfl | (simp; done) | (simp [*]; done)), H', ⟨by first | omega | exact Nat.le_refl _⟩, ⟨kz BK327⟩, ⟨hz HB⟩⟩
   ·rw [if_neg c7] at H
    have c7b0 : decide (a1 < 1) = false := decide_eq_false c7
    clear c7
    have H' := Aside0.mk H
    clear H
    have hcz10_0 : w4.cell? ⟨gb327, 0, none⟩ = some (.int .i64 a0_0) := (blk_cell BK327.out 0).trans rfl
    have hcz10_1 : w4.cell? ⟨gb327, 1, none⟩ = some (.int .i64 a0_1) := (blk_cell BK327.out 1).trans rfl
    have hcz10_2 : w4.cell? ⟨gb327, 2, none⟩ = some (.int .i64 a0_2) := (blk_cell BK327.out 2).trans rfl
    have hcz10_3 : w4.cell? ⟨gb327, 3, none⟩ = some (.int .i64 a0_3) := (blk_cell BK327.out 3).trans rfl
    have hcz10_4 : w4.cell? ⟨gb327, 4, none⟩ = some (.int .i64 a0_4) := (blk_cell BK327.out 4).trans rfl
    have hfz10_0 := blk_frozen BK327.out 0
    have hfz10_1 := blk_frozen BK327.out 1
    have hfz10_2 := blk_frozen BK327.out 2
    have hfz10_3 := blk_frozen BK327.out 3
    have hfz10_4 := blk_frozen BK327.out 4
    go_wp2_with (first | (go_at_call 15; (with_reducible refine (vitrineref08_Right.calls k a0_0 a0_1 a0_2 a0_3 a0_4 t328 _ A5.out).mono ?_); rintro e w11 ⟨rfl, hb⟩; have n0_ := Aside0.mk (blk_below (g := gb327) (o := .cells #[.int .i64 a0_0, .int .i64 a0_1, .int .i64 a0_2, .int .i64 a0_3, .int .i64 a0_4] 29 (0, 0)) (kz BK327) hb); have n1_ := Aside0.mk (below_step (hz HB) hb); clear BK327; clear HB; have BK327 := n0_; have HB := n1_; clear n0_ n1_; (try clear hb); (try clear hb2); (try clear hk); (try clear hi)))
    repeat (go_quiet (first | (go_at_call 15; (with_reducible refine (vitrineref08_Right.calls k a0_0 a0_1 a0_2 a0_3 a0_4 t328 _ A5.out).mono ?_); rintro e w11 ⟨rfl, hb⟩; have n0_ := Aside0.mk (blk_below (g := gb327) (o := .cells #[.int .i64 a0_0, .int .i64 a0_1, .int .i64 a0_2, .int .i64 a0_3, .int .i64 a0_4] 29 (0, 0)) (kz BK327) hb); have n1_ := Aside0.mk (below_step (hz HB) hb); clear BK327; clear HB; have BK327 := n0_; have HB := n1_; clear n0_ n1_; (try clear hb); (try clear hb2); (try clear hk); (try clear hi))); try go_wp2_with (first | (go_at_call 15; (with_reducible refine (vitrineref08_Right.calls k a0_0 a0_1 a0_2 a0_3 a0_4 t328 _ A5.out).mono ?_); rintro e w11 ⟨rfl, hb⟩; have n0_ := Aside0.mk (blk_below (g := gb327) (o := .cells #[.int .i64 a0_0, .int .i64 a0_1, .int .i64 a0_2, .int .i64 a0_3, .int .i64 a0_4] 29 (0, 0)) (kz BK327) hb); have n1_ := Aside0.mk (below_step (hz HB) hb); clear BK327; clear HB; have BK327 := n0_; have HB := n1_; clear n0_ n1_; (try clear hb); (try clear hb2); (try clear hk); (try clear hi))))
    go_meet
    case rel => exact ⟨_, (decide (a1 > 1024)), (by first | rfl | (simp; done) | (simp [*]; done)), H', ⟨by first | omega | exact Nat.le_refl _⟩, ⟨kz BK327⟩, ⟨hz HB⟩⟩
  ·rw [if_neg c6] at H
   have c6b0 : (t328 == 0) = false := beq_eq_false_iff_ne.mpr c6
   have c6b1 : (t328 != 0) = true := bne_iff_ne.mpr c6
   (first | rw [c6b0] | (simp only [i64_w, i32_w]; rw [c6b0]) | skip)
   have H' := Aside0.mk H
   clear H
   have hcz12_0 : w4.cell? ⟨gb327, 0, none⟩ = some (.int .i64 a0_0) := (blk_cell BK327.out 0).trans rfl
   have hcz12_1 : w4.cell? ⟨gb327, 1, none⟩ = some (.int .i64 a0_1) := (blk_cell BK327.out 1).trans rfl
   have hcz12_2 : w4.cell? ⟨gb327, 2, none⟩ = some (.int .i64 a0_2) := (blk_cell BK327.out 2).trans rfl
   have hcz12_3 : w4.cell? ⟨gb327, 3, none⟩ = some (.int .i64 a0_3) := (blk_cell BK327.out 3).trans rfl
   have hcz12_4 : w4.cell? ⟨gb327, 4, none⟩ = some (.int .i64 a0_4) := (blk_cell BK327.out 4).trans rfl
   have hfz12_0 := blk_frozen BK327.out 0
   have hfz12_1 := blk_frozen BK327.out 1
   have hfz12_2 := blk_frozen BK327.out 2
   have hfz12_3 := blk_frozen BK327.out 3
   have hfz12_4 := blk_frozen BK327.out 4
   go_wp2_with (first | (go_at_call 15; (with_reducible refine (vitrineref08_Right.calls k a0_0 a0_1 a0_2 a0_3 a0_4 t328 _ A5.out).mono ?_); rintro e w13 ⟨rfl, hb⟩; have n0_ := Aside0.mk (blk_below (g := gb327) (o := .cells #[.int .i64 a0_0, .int .i64 a0_1, .int .i64 a0_2, .int .i64 a0_3, .int .i64 a0_4] 29 (0, 0)) (kz BK327) hb); have n1_ := Aside0.mk (below_step (hz HB) hb); clear BK327; clear HB; have BK327 := n0_; have HB := n1_; clear n0_ n1_; (try clear hb); (try clear hb2); (try clear hk); (try clear hi)))
   repeat (go_quiet (first | (go_at_call 15; (with_reducible refine (vitrineref08_Right.calls k a0_0 a0_1 a0_2 a0_3 a0_4 t328 _ A5.out).mono ?_); rintro e w13 ⟨rfl, hb⟩; have n0_ := Aside0.mk (blk_below (g := gb327) (o := .cells #[.int .i64 a0_0, .int .i64 a0_1, .int .i64 a0_2, .int .i64 a0_3, .int .i64 a0_4] 29 (0, 0)) (kz BK327) hb); have n1_ := Aside0.mk (below_step (hz HB) hb); clear BK327; clear HB; have BK327 := n0_; have HB := n1_; clear n0_ n1_; (try clear hb); (try clear hb2); (try clear hk); (try clear hi))); try go_wp2_with (first | (go_at_call 15; (with_reducible refine (vitrineref08_Right.calls k a0_0 a0_1 a0_2 a0_3 a0_4 t328 _ A5.out).mono ?_); rintro e w13 ⟨rfl, hb⟩; have n0_ := Aside0.mk (blk_below (g := gb327) (o := .cells #[.int .i64 a0_0, .int .i64 a0_1, .int .i64 a0_2, .int .i64 a0_3, .int .i64 a0_4] 29 (0, 0)) (kz BK327) hb); have n1_ := Aside0.mk (below_step (hz HB) hb); clear BK327; clear HB; have BK327 := n0_; have HB := n1_; clear n0_ n1_; (try clear hb); (try clear hb2); (try clear hk); (try clear hi))))
   go_meet
   case rel => exact ⟨_, (true), (by first | rfl | (simp; done) | (simp [*]; done)), H', ⟨by first | omega | exact Nat.le_refl _⟩, ⟨kz BK327⟩, ⟨hz HB⟩⟩
 case rest =>
  clear HC3
  obtain ⟨kq, x15_2, rfl, HA, HJ2, BK327, HB⟩ := hcut
  cases kq with
  | zero => exact absurd HA.out (by simp [vitrineref10_Row.j0])
  | succ kj2 =>
   have H := HA.out
   clear HA
   simp only [vitrineref10_Row.j0] at H
   by_cases c14 : x15_2 = true
   ·subst c14
    have H1 : (some 0) = some r := by rw [if_pos rfl] at H; exact H
    clear H
    have H := H1
    clear H1
    obtain rfl := Option.some.inj H
    go_wp2
    repeat (go_quiet (fail); try go_wp2)
    go_ret
    exact ⟨by first | rfl | (simp [errW_none, errW_some] <;> rfl) | (simp [*, errW_none, errW_some] <;> rfl), by repeat (first | (with_reducible first | exact HB.out | apply below_alloc | apply pw_below_drewN | apply below_drew1 | refine below_set ?_ GE327.out) | exact HB.out)⟩
   ·replace c14 := Bool.eq_false_iff.mpr c14
    subst c14
    have H1 : ((vitrineref08_Samples.f kj2 a0_3).bind fun t329 => (some (wrap64 (Int.tdiv (wrap64 ((wrap64 ((wrap64 (a0_2 * t329)) * a1)) + 7)) 8)))) = some r := by rw [if_neg (show ¬ (false = true) by decide)] at H; exact H
    clear H
    have H := H1
    clear H1
    replace H := Option.bind_eq_some_iff.mp H
    obtain ⟨t329, A150, H⟩ := H
    replace H : (some (wrap64 (Int.tdiv (wrap64 ((wrap64 ((wrap64 (a0_2 * t329)) * a1)) + 7)) 8))) = some r := H
    have A15 := Aside0.mk A150
    clear A150
    obtain rfl := Option.some.inj H
    have hcz16_0 : wc.cell? ⟨gb327, 0, none⟩ = some (.int .i64 a0_0) := (blk_cell BK327.out 0).trans rfl
    have hcz16_1 : wc.cell? ⟨gb327, 1, none⟩ = some (.int .i64 a0_1) := (blk_cell BK327.out 1).trans rfl
    have hcz16_2 : wc.cell? ⟨gb327, 2, none⟩ = some (.int .i64 a0_2) := (blk_cell BK327.out 2).trans rfl
    have hcz16_3 : wc.cell? ⟨gb327, 3, none⟩ = some (.int .i64 a0_3) := (blk_cell BK327.out 3).trans rfl
    have hcz16_4 : wc.cell? ⟨gb327, 4, none⟩ = some (.int .i64 a0_4) := (blk_cell BK327.out 4).trans rfl
    have hfz16_0 := blk_frozen BK327.out 0
    have hfz16_1 := blk_frozen BK327.out 1
    have hfz16_2 := blk_frozen BK327.out 2
    have hfz16_3 := blk_frozen BK327.out 3
    have hfz16_4 := blk_frozen BK327.out 4
    go_wp2_with (first | (go_at_call 16; (with_reducible refine (vitrineref08_Samples.calls kj2 a0_3 t329 _ A15.out).mono ?_); rintro e w' ⟨rfl, ⟨nd, rfl⟩⟩; (try first | exact ⟨rfl, _, World.drewN_drewN _ _ _⟩ | exact ⟨rfl, _, Eq.trans (World.drewN_drewN _ _ _) (congrArg (World.drewN _) (Nat.add_assoc _ _ _))⟩)))
    repeat (go_quiet (first | (go_at_call 16; (with_reducible refine (vitrineref08_Samples.calls kj2 a0_3 t329 _ A15.out).mono ?_); rintro e w' ⟨rfl, ⟨nd, rfl⟩⟩; (try first | exact ⟨rfl, _, World.drewN_drewN _ _ _⟩ | exact ⟨rfl, _, Eq.trans (World.drewN_drewN _ _ _) (congrArg (World.drewN _) (Nat.add_assoc _ _ _))⟩))); try go_wp2_with (first | (go_at_call 16; (with_reducible refine (vitrineref08_Samples.calls kj2 a0_3 t329 _ A15.out).mono ?_); rintro e w' ⟨rfl, ⟨nd, rfl⟩⟩; (try first | exact ⟨rfl, _, World.drewN_drewN _ _ _⟩ | exact ⟨rfl, _, Eq.trans (World.drewN_drewN _ _ _) (congrArg (World.drewN _) (Nat.add_assoc _ _ _))⟩))))
    go_ret
    exact ⟨by first | rfl | (simp [errW_none, errW_some] <;> rfl) | (simp [*, errW_none, errW_some] <;> rfl), by repeat (first | (with_reducible first | exact HB.out | apply below_alloc | apply pw_below_drewN | apply below_drew1 | refine below_set ?_ GE327.out) | exact HB.out)⟩

end Go.Proofs.Ytejljcglbkjgkaa.PL12

namespace Go.Proofs.Ytejljcglbkjgkaa.PL12
open Go.RowKit Go.Proofs.YtejljcglbkjgkaaW.PrintWords Go.Proofs.YtejljcglbkjgkaaW.PrintLast Go.Proofs.YtejljcglbkjgkaaW.PrintMore
attribute [local go_sem] max2_int min2_int max_two min_two max_three min_three max_four min_four   -- for this text's walks alone
set_option linter.unusedVariables false
set_option linter.unusedSimpArgs false

def vitrineref10_Size.l0 : Nat → Int → List (S53) → Int → Int → Int → Int → Int → Int → Option (Int)
 | 0, _, _, _, _, _, _, _, _ => none
 | k + 1, x3, x4, x5, x331000, x331001, x331002, x331003, x331004 => if x5 < (x4.length : Int) then (if 0 ≤ x5 then ((vitrineref10_Row.f k x331000 x331001 x331002 x331003 x331004 ((rd_T53 x4 x5).f4)).bind fun t336 => (vitrineref10_Size.l0 k (wrap64 (x3 + (wrap64 (((rd_T53 x4 x5).f5) * (wrap64 (1 + t336)))))) x4 (wrap64 (x5 + 1)) x331000 x331001 x331002 x331003 x331004)) else (none)) else (some x3)
def vitrineref10_Size.f (k : Nat) (a0_0 : Int) (a0_1 : Int) (a0_2 : Int) (a0_3 : Int) (a0_4 : Int) : Option (Int) := (vitrineref10_Passes.f k a0_0 a0_1 a0_2 a0_3 a0_4).bind fun t331 => (vitrineref10_Size.l0 k 0 t331 0 a0_0 a0_1 a0_2 a0_3 a0_4)
def vitrineref10_Size.T6 : Bool × List (List Nat × List Nat) := (true, [([], []), ([], []), ([], []), ([1, 2], [1, 2]), ([3], [3]), ([4], [4]), ([], []), ([], []), ([], []), ([7, 8], [7, 8]), ([9], [9]), ([10], [10]), ([6, 11], [6, 11]), ([12], [12]), ([5, 13], [5, 13]), ([0, 14], [0, 14]), ([15, 12, 0, 1, 2, 3, 4, 5, 6, 7, 8, 9, 10, 11, 12, 13, 14, 15], [0, 15])])
def vitrineref10_Size.B6 : List Nat := [0, 0, 0, 6, 14, 30, 0, 0, 0, 384, 896, 1920, 4032, 8128, 16382, 32767, 65535]
theorem vitrineref10_Size.tab6 : rtab .any (opsOf Try.f24 6) = vitrineref10_Size.T6 := by kernel_rfl
theorem vitrineref10_Size.bits6 : waitsOk vitrineref10_Size.T6.2 vitrineref10_Size.B6 = true := by kernel_rfl
set_option maxHeartbeats 40000000 in
set_option maxRecDepth 100000 in
theorem vitrineref10_Size.calls (k : Nat) (a0_0 : Int) (a0_1 : Int) (a0_2 : Int) (a0_3 : Int) (a0_4 : Int) (r : Int) (w : World) (h : vitrineref10_Size.f k a0_0 a0_1 a0_2 a0_3 a0_4 = some r) :
  Calls Try.prog 24 #[.agg #[.int .i64 a0_0, .int .i64 a0_1, .int .i64 a0_2, .int .i64 a0_3, .int .i64 a0_4]] w fun e w' => e = .returned (.int .i64 r) ∧ Below w.heap.size w w' := by
 have hu29 := Try.underlying29
 have HB := Aside0.mk (Below.refl w.heap.size w)
 have H : ((vitrineref10_Passes.f k a0_0 a0_1 a0_2 a0_3 a0_4).bind fun t331 => (vitrineref10_Size.l0 k 0 t331 0 a0_0 a0_1 a0_2 a0_3 a0_4)) = some r := h
 clear h
 replace H := Option.bind_eq_some_iff.mp H
 obtain ⟨t331, A20, H⟩ := H
 replace H : (vitrineref10_Size.l0 k 0 t331 0 a0_0 a0_1 a0_2 a0_3 a0_4) = some r := H
 have A2 := Aside0.mk A20
 clear A20
 have H' := Aside0.mk H
 clear H
 go_enter Try.func24, Try.ntmps24
 go_wp2_with (first | ((with_reducible refine gate_dst (N := 1) rfl ?_); refine box_event ?hg (N := 1) ?hd (cs := #[.int .i64 a0_0, .int .i64 a0_1, .int .i64 a0_2, .int .i64 a0_3, .int .i64 a0_4]) (t := 29) ?hr ?_; (case hd => rfl); (case hg => rfl); (case hr => first | (go_simp; done) | (go_simp; rfl)); intro gb330 hg w3 hbox hb; have n0_ := Aside0.mk (below_step (hz HB) hb); have n1_ := Aside0.mk (hbox); have n2_ := Aside0.mk ((by rw [hg]; exact (below_size (hz HB)) : w.heap.size ≤ gb330)); have n3_ := Aside0.mk ((by rw [hg]; exact (below_size (hz HB)) : w.heap.size ≤ gb330)); clear HB; have HB := n0_; have BK330 := n1_; have GW330 := n2_; have GE330 := n3_; clear n0_ n1_ n2_ n3_; clear hb hbox hg; have hcz4_0 : w3.cell? ⟨gb330, 0, none⟩ = some (.int .i64 a0_0) := (blk_cell BK330.out 0).trans rfl; have hcz4_1 : w3.cell? ⟨gb330, 1, none⟩ = some (.int .i64 a0_1) := (blk_cell BK330.out 1).trans rfl; have hcz4_2 : w3.cell? ⟨gb330, 2, none⟩ = some (.int .i64 a0_2) := (blk_cell BK330.out 2).trans rfl; have hcz4_3 : w3.cell? ⟨gb330, 3, none⟩ = some (.int .i64 a0_3) := (blk_cell BK330.out 3).trans rfl; have hcz4_4 : w3.cell? ⟨gb330, 4, none⟩ = some (.int .i64 a0_4) := (blk_cell BK330.out 4).trans rfl; have hfz4_0 := blk_frozen BK330.out 0; have hfz4_1 := blk_frozen BK330.out 1; have hfz4_2 := blk_frozen BK330.out 2; have hfz4_3 := blk_frozen BK330.out 3; have hfz4_4 := blk_frozen BK330.out 4) | ((with_reducible refine gate_callee (f := 25) rfl ?_); refine gz 7 Try.func25 #[.agg #[.int .i64 a0_0, .int .i64 a0_1, .int .i64 a0_2, .int .i64 a0_3, .int .i64 a0_4]] ?_; (with_reducible refine (vitrineref10_Passes.calls k a0_0 a0_1 a0_2 a0_3 a0_4 t331 _ A2.out).mono ?_); rintro e w5 ⟨v332, rfl, ho0, hb⟩; refine ⟨_, rfl, ?_⟩; have n0_ := Aside0.mk (Kd.R_lower ho0 (below_size (hz HB))); have n1_ := Aside0.mk (blk_below (g := gb330) (o := .cells #[.int .i64 a0_0, .int .i64 a0_1, .int .i64 a0_2, .int .i64 a0_3, .int .i64 a0_4] 29 (0, 0)) (kz BK330) hb); have n2_ := Aside0.mk (below_step (hz HB) hb); clear BK330; clear HB; have HO333 := n0_; have BK330 := n1_; have HB := n2_; clear n0_ n1_ n2_; (try clear hb); (try clear hb2); (try clear hk); (try clear hi); (try clear ho0)))
 go_loopg [3, 5] k (fun kq v3 v5 w' => ∃ (x3_1 : Int) (x5_1 : Int), v3 = .int .i64 x3_1 ∧ v5 = .int .i64 x5_1 ∧ Aside0 (vitrineref10_Size.l0 kq x3_1 t331 x5_1 a0_0 a0_1 a0_2 a0_3 a0_4 = some r) ∧ Aside0 (kq ≤ k) ∧ Aside0 (Kd.R k53 53 w' w.heap.size (fun _ => True) v332 t331) ∧ Aside0 (w'.heap[gb330]? = some (.cells #[.int .i64 a0_0, .int .i64 a0_1, .int .i64 a0_2, .int .i64 a0_3, .int .i64 a0_4] 29 (0, 0))) ∧ Aside0 (Below w.heap.size w w'))
 case atStart => exact ⟨(0), (0), (by first | rfl | (simp; done) | (simp [*]; done)), (by first | rfl | (simp; done) | (simp [*]; done)), H', ⟨Nat.le_refl _⟩, ⟨oz HO333⟩, ⟨kz BK330⟩, ⟨hz HB⟩⟩
 case round =>
  clear H'
  try clear hcz4_0
  try clear hcz4_1
  try clear hcz4_2
  try clear hcz4_3
  try clear hcz4_4
  try clear hfz4_0
  try clear hfz4_1
  try clear hfz4_2
  try clear hfz4_3
  try clear hfz4_4
  obtain ⟨x3_1, x5_1, rfl, rfl, HA, HK1, HO_4, BK330, HB⟩ := hrel
  cases gk with
  | zero => exact absurd HA.out (by simp [vitrineref10_Size.l0])
  | succ k1 =>
   have H := HA.out
   clear HA
   simp only [vitrineref10_Size.l0] at H
   by_cases c6 : x5_1 < (t331.length : Int)
   ·rw [if_pos c6] at H
    have c6b0 : decide (x5_1 < (t331.length : Int)) = true := decide_eq_true c6
    clear c6
    by_cases c7 : 0 ≤ x5_1
    ·rw [if_pos c7] at H
     have c7b0 : decide (0 ≤ x5_1) = true := decide_eq_true c7
     clear c7
     replace H := Option.bind_eq_some_iff.mp H
     obtain ⟨t336, A80, H⟩ := H
     replace H : (vitrineref10_Size.l0 k1 (wrap64 (x3_1 + (wrap64 (((rd_T53 t331 x5_1).f5) * (wrap64 (1 + t336)))))) t331 (wrap64 (x5_1 + 1)) a0_0 a0_1 a0_2 a0_3 a0_4) = some r := H
     have A8 := Aside0.mk A80
     clear A80
     have H' := Aside0.mk H
     clear H
     obtain ⟨Ao9, co9, eo9⟩ := Kd.R_slice HO_4.out
     subst eo9
     try go_wp2
     have n0_ := Aside0.mk (Kd.R_drew HO_4.out)
     have n1_ := Aside0.mk (blk_drew BK330.out)
     have n2_ := Aside0.mk (below_drew1 HB.out)
     clear HO_4
     clear BK330
     clear HB
     have HO_4 := n0_
     have BK330 := n1_
     have HB := n2_
     clear n0_ n1_ n2_
     have p334 : 0 ≤ (x5_1 : Int) := of_decide_eq_true (by first | (with_reducible assumption) | assumption)
     have q334 : x5_1 < (t331.length : Int) := of_decide_eq_true (by first | (with_reducible assumption) | assumption)
     obtain ⟨ad334, e334, hx334_0, hx334_1, hx334_2, hx334_3, hx334_4, hx334_5⟩ := at_T53 (Kd.R_reads' HO_4.out).2.2 x5_1 p334 q334
     cases e334
     replace p334 := eq_true p334
     replace q334 := eq_true q334
     have p335 : 0 ≤ (x5_1 : Int) := of_decide_eq_true (by first | (with_reducible assumption) | assumption)
     have q335 : x5_1 < (t331.length : Int) := of_decide_eq_true (by first | (with_reducible assumption) | assumption)
     obtain ⟨ad335, e335, hx335_0, hx335_1, hx335_2, hx335_3, hx335_4, hx335_5⟩ := at_T53 (Kd.R_reads' HO_4.out).2.2 x5_1 p335 q335
     obtain rfl : ad334 = ad335 := (by injection e335)
     replace p335 := eq_true p335
     replace q335 := eq_true q335
     refine start_ (n := 17) (S := fun w' => w'.cell? ⟨gb330, 0, none⟩ = some (.int .i64 a0_0) ∧ w'.cell? ⟨gb330, 1, none⟩ = some (.int .i64 a0_1) ∧ w'.cell? ⟨gb330, 2, none⟩ = some (.int .i64 a0_2) ∧ w'.cell? ⟨gb330, 3, none⟩ = some (.int .i64 a0_3) ∧ w'.cell? ⟨gb330, 4, none⟩ = some (.int .i64 a0_4) ∧ w'.cell? (ad334.add ((x5_1).toNat * 6)) = some (.int .i64 ((rd_T53 t331 x5_1).f0)) ∧ w'.cell? ⟨(ad334.add ((x5_1).toNat * 6)).block, (ad334.add ((x5_1).toNat * 6)).off + 1, none⟩ = some (.int .i64 ((rd_T53 t331 x5_1).f1)) ∧ w'.cell? ⟨(ad334.add ((x5_1).toNat * 6)).block, (ad334.add ((x5_1).toNat * 6)).off + 2, none⟩ = some (.int .i64 ((rd_T53 t331 x5_1).f2)) ∧ w'.cell? ⟨(ad334.add ((x5_1).toNat * 6)).block, (ad334.add ((x5_1).toNat * 6)).off + 3, none⟩ = some (.int .i64 ((rd_T53 t331 x5_1).f3)) ∧ w'.cell? ⟨(ad334.add ((x5_1).toNat * 6)).block, (ad334.add ((x5_1).toNat * 6)).off + 4, none⟩ = some (.int .i64 ((rd_T53 t331 x5_1).f4)) ∧ w'.cell? ⟨(ad334.add ((x5_1).toNat * 6)).block, (ad334.add ((x5_1).toNat * 6)).off + 5, none⟩ = some (.int .i64 ((rd_T53 t331 x5_1).f5)) ∧ w'.cell? (ad334.add ((x5_1).toNat * 6)) = some (.int .i64 ((rd_T53 t331 x5_1).f0)) ∧ w'.cell? ⟨(ad334.add ((x5_1).toNat * 6)).block, (ad334.add ((x5_1).toNat * 6)).off + 1, none⟩ = some (.int .i64 ((rd_T53 t331 x5_1).f1)) ∧ w'.cell? ⟨(ad334.add ((x5_1).toNat * 6)).block, (ad334.add ((x5_1).toNat * 6)).off + 2, none⟩ = some (.int .i64 ((rd_T53 t331 x5_1).f2)) ∧ w'.cell? ⟨(ad334.add ((x5_1).toNat * 6)).block, (ad334.add ((x5_1).toNat * 6)).off + 3, none⟩ = some (.int .i64 ((rd_T53 t331 x5_1).f3)) ∧ w'.cell? ⟨(ad334.add ((x5_1).toNat * 6)).block, (ad334.add ((x5_1).toNat * 6)).off + 4, none⟩ = some (.int .i64 ((rd_T53 t331 x5_1).f4)) ∧ w'.cell? ⟨(ad334.add ((x5_1).toNat * 6)).block, (ad334.add ((x5_1).toNat * 6)).off + 5, none⟩ = some (.int .i64 ((rd_T53 t331 x5_1).f5))) (ds := []) (bm 17 0) (by kernel_rfl) rfl rfl ⟨(blk_cell BK330.out 0).trans rfl, (blk_cell BK330.out 1).trans rfl, (blk_cell BK330.out 2).trans rfl, (blk_cell BK330.out 3).trans rfl, (blk_cell BK330.out 4).trans rfl, hx334_0, hx334_1, hx334_2, hx334_3, hx334_4, hx334_5, hx335_0, hx335_1, hx335_2, hx335_3, hx335_4, hx335_5⟩ (fun hHeld => ?_); refine with_tabW vitrineref10_Size.tab6 vitrineref10_Size.bits6 (fun HT_ HW_ => ?_)
     generalize wr.drew = w10 at HO_4 BK330 HB hx334_0 hx334_1 hx334_2 hx334_3 hx334_4 hx334_5 hx335_0 hx335_1 hx335_2 hx335_3 hx335_4 hx335_5 hHeld ⊢
     refine zp 0 14 (bm 17 1) ?_
     refine zp 1 15 (bm 17 3) ?_
     refine zp 2 16 (bm 17 7) ?_
     refine zp 3 17 (bm 17 15) ?_
     refine zp 4 18 (bm 17 31) ?_
     refine zp 7 21 (bm 17 159) ?_
     refine zp 8 22 (bm 17 415) ?_
     refine zp 9 23 (bm 17 927) ?_
     refine zp 10 24 (bm 17 1951) ?_
     refine zt 5 19 (bm 17 1983) rfl (by rintro w' ⟨s0, s1, s2, s3, s4, s5, s6, s7, s8, s9, s10, s11, s12, s13, s14, s15, s16⟩; go_simp; with_reducible rfl) ?_
     refine zt 6 20 (bm 17 2047) rfl (by rintro w' ⟨s0, s1, s2, s3, s4, s5, s6, s7, s8, s9, s10, s11, s12, s13, s14, s15, s16⟩; go_simp; with_reducible rfl) ?_
     refine zt 11 25 (bm 17 4095) rfl (by rintro w' ⟨s0, s1, s2, s3, s4, s5, s6, s7, s8, s9, s10, s11, s12, s13, s14, s15, s16⟩; go_simp; with_reducible rfl) ?_
     refine one_ (i := 12) (N := some 26) (bm 17 8191) rfl rfl (one_of HT_.out (by kernel_rfl)) (by decide) (fun K hK => ?_)
     refine goes_ Try.func26 (by kernel_rfl) rfl #[.agg #[.int .i64 a0_0, .int .i64 a0_1, .int .i64 a0_2, .int .i64 a0_3, .int .i64 a0_4], .int .i64 ((rd_T53 t331 x5_1).f4)] (by rfl) rfl rfl (by (try simp only [List.map_toArray, List.map_cons, List.map_nil]); first | done | rfl | (simp only [List.length_drop, List.length_take]; rfl) | (simp only [ByteArray.size_extract, Nat.min_self]; done) | (simp only [ByteArray.size_extract, Nat.min_self]; rfl)) ?_
     with_reducible refine (vitrineref10_Row.calls k1 a0_0 a0_1 a0_2 a0_3 a0_4 ((rd_T53 t331 x5_1).f4) t336 _ A8.out).mono ?_
     rintro e w11 ⟨rfl, hb⟩
     have HS5_ := (hb.cell (World.block_lt_of_cell? _ _ (hHeld.2.2.2.2.2.1))).trans (hHeld.2.2.2.2.2.1)
     have HS6_ := (hb.cell (World.block_lt_of_cell? _ _ (hHeld.2.2.2.2.2.2.1))).trans (hHeld.2.2.2.2.2.2.1)
     have HS7_ := (hb.cell (World.block_lt_of_cell? _ _ (hHeld.2.2.2.2.2.2.2.1))).trans (hHeld.2.2.2.2.2.2.2.1)
     have HS8_ := (hb.cell (World.block_lt_of_cell? _ _ (hHeld.2.2.2.2.2.2.2.2.1))).trans (hHeld.2.2.2.2.2.2.2.2.1)
     have HS9_ := (hb.cell (World.block_lt_of_cell? _ _ (hHeld.2.2.2.2.2.2.2.2.2.1))).trans (hHeld.2.2.2.2.2.2.2.2.2.1)
     have HS10_ := (hb.cell (World.block_lt_of_cell? _ _ (hHeld.2.2.2.2.2.2.2.2.2.2.1))).trans (hHeld.2.2.2.2.2.2.2.2.2.2.1)
     have HS11_ := (hb.cell (World.block_lt_of_cell? _ _ (hHeld.2.2.2.2.2.2.2.2.2.2.2.1))).trans (hHeld.2.2.2.2.2.2.2.2.2.2.2.1)
     have HS12_ := (hb.cell (World.block_lt_of_cell? _ _ (hHeld.2.2.2.2.2.2.2.2.2.2.2.2.1))).trans (hHeld.2.2.2.2.2.2.2.2.2.2.2.2.1)
     have HS13_ := (hb.cell (World.block_lt_of_cell? _ _ (hHeld.2.2.2.2.2.2.2.2.2.2.2.2.2.1))).trans (hHeld.2.2.2.2.2.2.2.2.2.2.2.2.2.1)
     have HS14_ := (hb.cell (World.block_lt_of_cell? _ _ (hHeld.2.2.2.2.2.2.2.2.2.2.2.2.2.2.1))).trans (hHeld.2.2.2.2.2.2.2.2.2.2.2.2.2.2.1)
     have HS15_ := (hb.cell (World.block_lt_of_cell? _ _ (hHeld.2.2.2.2.2.2.2.2.2.2.2.2.2.2.2.1))).trans (hHeld.2.2.2.2.2.2.2.2.2.2.2.2.2.2.2.1)
     have HS16_ := (hb.cell (World.block_lt_of_cell? _ _ (hHeld.2.2.2.2.2.2.2.2.2.2.2.2.2.2.2.2))).trans (hHeld.2.2.2.2.2.2.2.2.2.2.2.2.2.2.2.2)
     refine ⟨_, rfl, ?_⟩
     have n0_ := Aside0.mk (Kd.R_below (oz HO_4) hb)
     have n1_ := Aside0.mk (blk_below (g := gb330) (o := .cells #[.int .i64 a0_0, .int .i64 a0_1, .int .i64 a0_2, .int .i64 a0_3, .int .i64 a0_4] 29 (0, 0)) (kz BK330) hb)
     have n2_ := Aside0.mk (below_step (hz HB) hb)
     clear HO_4
     clear BK330
     clear HB
     have HO_4 := n0_
     have BK330 := n1_
     have HB := n2_
     clear n0_ n1_ n2_
     (try clear hb)
     refine hK.out _ _ ⟨(blk_cell BK330.out 0).trans rfl, (blk_cell BK330.out 1).trans rfl, (blk_cell BK330.out 2).trans rfl, (blk_cell BK330.out 3).trans rfl, (blk_cell BK330.out 4).trans rfl, HS5_, HS6_, HS7_, HS8_, HS9_, HS10_, HS11_, HS12_, HS13_, HS14_, HS15_, HS16_⟩ (fun hHeld => ?_)
     clear hK K
     refine norm_ (a' := ?_) ?_ ?_
     rotate_left
     ·show Act.put _ (some 26) _ = _
      simp only [Act.put, zq1, zq2, zq3, i64_w, i32_w]
      rfl
     refine zp 13 27 (bm 17 16383) ?_
     refine zp 14 28 (bm 17 32767) ?_
     refine zp 15 29 (bm 17 65535) ?_
     refine zp 16 3 (bm 17 131071) ?_
     refine done_ (done_of HT_.out (by kernel_rfl)) ?_
     try go_wp2
     go_roundg k1
     case measure => have := HK1.out; omega
     case rel => exact ⟨(wrap64 (x3_1 + (wrap64 (((rd_T53 t331 x5_1).f5) * (wrap64 (1 + t336)))))), (wrap64 (x5_1 + 1)), (by first | rfl | (simp; done) | (simp [*]; done)), (by first | rfl | (simp; done) | (simp [*]; done)), H', ⟨by have := HK1.out; omega⟩, ⟨oz HO_4⟩, ⟨kz BK330⟩, ⟨hz HB⟩⟩
    ·rw [if_neg c7] at H
     exact absurd H (by simp)
   ·rw [if_neg c6] at H
    have c6b0 : decide (x5_1 < (t331.length : Int)) = false := decide_eq_false c6
    clear c6
    obtain rfl := Option.some.inj H
    obtain ⟨Ao12, co12, eo12⟩ := Kd.R_slice HO_4.out
    subst eo12
    go_wp2
    go_ret
    exact ⟨by first | rfl | (simp [errW_none, errW_some] <;> rfl) | (simp [*, errW_none, errW_some] <;> rfl), by repeat (first | (with_reducible first | exact HB.out | apply below_alloc | apply pw_below_drewN | apply below_drew1 | refine below_set ?_ GE330.out) | exact HB.out)⟩

end Go.Proofs.Ytejljcglbkjgkaa.PL12

namespace Go.Proofs.Ytejljcglbkjgkaa.PL12
open Go.RowKit Go.Proofs.YtejljcglbkjgkaaW.PrintWords Go.Proofs.YtejljcglbkjgkaaW.PrintLast Go.Proofs.YtejljcglbkjgkaaW.PrintMore
attribute [local go_sem] max2_int min2_int max_two min_two max_three min_three max_four min_four   -- for this text's walks alone
set_option linter.unusedVariables false
set_option linter.unusedSimpArgs false

def vitrineref09_wrong.j0 : Nat → Int → Bool → Option (Int)
 | 0, _, _ => none
 | k + 1, x1, x25 => if x25 = true then (some 1) else (if x1 < 0 then (some 28) else (if x1 > 4 then (some 28) else (some 0)))
def vitrineref09_wrong.f (k : Nat) (a0 : Int) (a1 : Int) (a2 : ByteArray) (a3 : ByteArray) : Option (Int) := if a0 < 1 then (vitrineref09_wrong.j0 k a1 true) else (if a0 > 8 then (vitrineref09_wrong.j0 k a1 true) else (if a3.toList = ([] : List UInt8) then (vitrineref09_wrong.j0 k a1 false) else (vitrineref09_wrong.j0 k a1 ((a3.size : Int) != (a2.size : Int)))))
set_option maxHeartbeats 40000000 in
set_option maxRecDepth 100000 in
theorem vitrineref09_wrong.calls (k : Nat) (a0 : Int) (a1 : Int) (a2 : ByteArray) (a3 : ByteArray) (r : Int) (w : World) (h : vitrineref09_wrong.f k a0 a1 a2 a3 = some r) :
  Calls Try.prog 45 #[.int .i64 a0, .int .i64 a1, .string a2, .string a3] w fun e w' => e = .returned (.int .i64 r) ∧ Drawn0 w w' := by
 have H : (if a0 < 1 then (vitrineref09_wrong.j0 k a1 true) else (if a0 > 8 then (vitrineref09_wrong.j0 k a1 true) else (if a3.toList = ([] : List UInt8) then (vitrineref09_wrong.j0 k a1 false) else (vitrineref09_wrong.j0 k a1 ((a3.size : Int) != (a2.size : Int)))))) = some r := h
 clear h
 have HC5 := Aside0.mk H
 clear H
 go_enter Try.func45, Try.ntmps45
 go_upto_region 1 with (fail)
 go_cut [25] (fun v25 wc => ∃ (kq : Nat) (x25_4 : Bool), v25 = .bool x25_4 ∧ Aside0 (vitrineref09_wrong.j0 kq a1 x25_4 = some r) ∧ Aside0 (kq ≤ k) ∧ Drawn0 w wc)
 case first =>
  have H := HC5.out
  clear HC5
  by_cases c6 : a0 < 1
  ·rw [if_pos c6] at H
   have c6b0 : decide (a0 < 1) = true := decide_eq_true c6
   clear c6
   (first | rw [c6b0] | (simp only [i64_w, i32_w]; rw [c6b0]) | skip)
   have H' := Aside0.mk H
   clear H
   go_wp2
   go_meet
   case rel => exact ⟨_, (true), (by first | rfl | (simp; done) | (simp [*]; done)), H', ⟨by first | omega | exact Nat.le_refl _⟩, by repeat (first | exact Drawn0.refl _ | apply Drawn0.step)⟩
  ·rw [if_neg c6] at H
   have c6b0 : decide (a0 < 1) = false := decide_eq_false c6
   clear c6
   (first | rw [c6b0] | (simp only [i64_w, i32_w]; rw [c6b0]) | skip)
   by_cases c7 : a0 > 8
   ·rw [if_pos c7] at H
    have c7b0 : decide (8 < a0) = true := decide_eq_true c7
    clear c7
    have H' := Aside0.mk H
    clear H
    go_wp2
    go_meet
    case rel => exact ⟨_, (true), (by first | rfl | (simp; done) | (simp [*]; done)), H', ⟨by first | omega | exact Nat.le_refl _⟩, by repeat (first | exact Drawn0.refl _ | apply Drawn0.step)⟩
   ·rw [if_neg c7] at H
    have c7b0 : decide (8 < a0) = false := decide_eq_false c7
    clear c7
    by_cases c8 : a3.toList = ([] : List UInt8)
    ·rw [if_pos c8] at H
     have c8b0 : (a3.toList == ([] : List UInt8)) = true := beq_iff_eq.mpr c8
     have c8b1 : (a3.toList != ([] : List UInt8)) = false := bne_eq_false_iff_eq.mpr c8
     clear c8
     have H' := Aside0.mk H
     clear H
     go_wp2
     go_meet
     case rel => exact ⟨_, (false), (by first | rfl | (simp; done) | (simp [*]; done)), H', ⟨by first | omega | exact Nat.le_refl _⟩, by repeat (first | exact Drawn0.refl _ | apply Drawn0.step)⟩
    ·rw [if_neg c8] at H
     have c8b0 : (a3.toList == ([] : List UInt8)) = false := beq_eq_false_iff_ne.mpr c8
     have c8b1 : (a3.toList != ([] : List UInt8)) = true := bne_iff_ne.mpr c8
     have H' := Aside0.mk H
     clear H
     go_wp2
     go_meet
     case rel => exact ⟨_, (((a3.size : Int) != (a2.size : Int))), (by first | rfl | (simp; done) | (simp [*]; done)), H', ⟨by first | omega | exact Nat.le_refl _⟩, by repeat (first | exact Drawn0.refl _ | apply Drawn0.step)⟩
 case rest =>
  clear HC5
  obtain ⟨kq, x25_4, rfl, HA, HJ4, ⟨mc4, rfl⟩⟩ := hcut
  cases kq with
  | zero => exact absurd HA.out (by simp [vitrineref09_wrong.j0])
  | succ kj4 =>
   have H := HA.out
   clear HA
   simp only [vitrineref09_wrong.j0] at H
   by_cases c9 : x25_4 = true
   ·subst c9
    have H1 : (some 1) = some r := by rw [if_pos rfl] at H; exact H
    clear H
    have H := H1
    clear H1
    obtain rfl := Option.some.inj H
    go_wp2
    go_ret
    exact ⟨by first | rfl | (simp; done) | (simp [*]; done), by repeat (first | exact Drawn0.refl _ | apply Drawn0.step)⟩
   ·replace c9 := Bool.eq_false_iff.mpr c9
    subst c9
    have H1 : (if a1 < 0 then (some 28) else (if a1 > 4 then (some 28) else (some 0))) = some r := by rw [if_neg (show ¬ (false = true) by decide)] at H; exact H
    clear H
    have H := H1
    clear H1
    by_cases c10 : a1 < 0
    ·rw [if_pos c10] at H
     have c10b0 : decide (a1 < 0) = true := decide_eq_true c10
     clear c10
     obtain rfl := Option.some.inj H
     go_wp2
     go_ret
     exact ⟨by first | rfl | (simp; done) | (simp [*]; done), by repeat (first | exact Drawn0.refl _ | apply Drawn0.step)⟩
    ·rw [if_neg c10] at H
     have c10b0 : decide (a1 < 0) = false := decide_eq_false c10
     clear c10
     by_cases c11 : a1 > 4
     ·rw [if_pos c11] at H
      have c11b0 : decide (4 < a1) = true := decide_eq_true c11
      clear c11
      obtain rfl := Option.some.inj H
      go_wp2
      go_ret
      exact ⟨by first | rfl | (simp; done) | (simp [*]; done), by repeat (first | exact Drawn0.refl _ | apply Drawn0.step)⟩
     ·rw [if_neg c11] at H
      have c11b0 : decide (4 < a1) = false := decide_eq_false c11
      clear c11
      obtain rfl := Option.some.inj H
      go_wp2
      go_ret
      exact ⟨by first | rfl | (simp; done) | (simp [*]; done), by repeat (first | exact Drawn0.refl _ | apply Drawn0.step)⟩

def vitrineref09_away.f (a0 : Int) (a1 : Int) : Option (Int) := some (mx (wrap64 (a0 - a1)) (wrap64 (a1 - a0)))
set_option maxHeartbeats 40000000 in
set_option maxRecDepth 100000 in
theorem vitrineref09_away.calls (a0 : Int) (a1 : Int) (r : Int) (w : World) (h : vitrineref09_away.f a0 a1 = some r) :
  Calls Try.prog 60 #[.int .i64 a0, .int .i64 a1] w fun e w' => e = .returned (.int .i64 r) ∧ Below w.heap.size w w' := by
 have HB := Aside0.mk (Below.refl w.heap.size w)
 have H : (some (mx (wrap64 (a0 - a1)) (wrap64 (a1 - a0)))) = some r := h
 clear h
 obtain ⟨ji3, hji3⟩ : ∃ j_ : Int, (mx (wrap64 (a0 - a1)) (wrap64 (a1 - a0))) = j_ := ⟨_, rfl⟩
 replace H : (some ji3) = some r := by first | (rw [hji3] at H; exact H) | (simp only [hji3] at H ⊢; exact H)
 have hji3_ : (if (wrap64 (a0 - a1)) < (wrap64 (a1 - a0)) then (wrap64 (a1 - a0)) else (wrap64 (a0 - a1))) = ji3 := hji3
 obtain rfl := Option.some.inj H
 go_enter Try.func60, Try.ntmps60
 go_wp2
 go_ret
 exact ⟨by first | rfl | (simp [errW_none, errW_some] <;> rfl) | (simp only [← hji3]; first | rfl | (simp [errW_none, errW_some] <;> rfl)) | (simp [*, errW_none, errW_some] <;> rfl), by repeat (first | (with_reducible first | exact HB.out | apply below_alloc | apply pw_below_drewN | apply below_drew1) | exact HB.out)⟩

end Go.Proofs.Ytejljcglbkjgkaa.PL12

namespace Go.Proofs.Ytejljcglbkjgkaa.PL12
open Go.RowKit Go.Proofs.YtejljcglbkjgkaaW.PrintWords Go.Proofs.YtejljcglbkjgkaaW.PrintLast Go.Proofs.YtejljcglbkjgkaaW.PrintMore
attribute [local go_sem] max2_int min2_int max_two min_two max_three min_three max_four min_four   -- for this text's walks alone
set_option linter.unusedVariables false
set_option linter.unusedSimpArgs false

def vitrineref09_tells.j0 : Nat → Int → Int → Int → Int → Bool → Option (Int)
 | 0, _, _, _, _, _ => none
 | k + 1, x1, x2, x3, x9, x45 => if x45 = true then (some x1) else ((vitrineref09_away.f x9 x2).bind fun t341 => ((vitrineref09_away.f x9 x3).bind fun t342 => (if t341 ≤ t342 then (some x2) else (some x3))))
def vitrineref09_tells.f (k : Nat) (a0 : Int) (a1 : Int) (a2 : Int) (a3 : Int) : Option (Int) := if a0 = 1 then (some a1) else (if a0 = 2 then (some a2) else (if a0 = 3 then (some (wrap64 (Int.tdiv (wrap64 (a1 + a2)) 2))) else (if a0 = 4 then ((vitrineref09_away.f (wrap64 ((wrap64 (a1 + a2)) - a3)) a1).bind fun t337 => ((vitrineref09_away.f (wrap64 ((wrap64 (a1 + a2)) - a3)) a2).bind fun t338 => (if t337 ≤ t338 then ((vitrineref09_away.f (wrap64 ((wrap64 (a1 + a2)) - a3)) a1).bind fun t339 => ((vitrineref09_away.f (wrap64 ((wrap64 (a1 + a2)) - a3)) a3).bind fun t340 => (vitrineref09_tells.j0 k a1 a2 a3 (wrap64 ((wrap64 (a1 + a2)) - a3)) (decide (t339 ≤ t340))))) else (vitrineref09_tells.j0 k a1 a2 a3 (wrap64 ((wrap64 (a1 + a2)) - a3)) false)))) else (some 0))))
set_option maxHeartbeats 40000000 in
set_option maxRecDepth 100000 in
theorem vitrineref09_tells.calls (k : Nat) (a0 : Int) (a1 : Int) (a2 : Int) (a3 : Int) (r : Int) (w : World) (h : vitrineref09_tells.f k a0 a1 a2 a3 = some r) :
  Calls Try.prog 46 #[.int .i64 a0, .int .i64 a1, .int .i64 a2, .int .i64 a3] w fun e w' => e = .returned (.int .i64 r) ∧ Below w.heap.size w w' := by
 have HB := Aside0.mk (Below.refl w.heap.size w)
 have H : (if a0 = 1 then (some a1) else (if a0 = 2 then (some a2) else (if a0 = 3 then (some (wrap64 (Int.tdiv (wrap64 (a1 + a2)) 2))) else (if a0 = 4 then ((vitrineref09_away.f (wrap64 ((wrap64 (a1 + a2)) - a3)) a1).bind fun t337 => ((vitrineref09_away.f (wrap64 ((wrap64 (a1 + a2)) - a3)) a2).bind fun t338 => (if t337 ≤ t338 then ((vitrineref09_away.f (wrap64 ((wrap64 (a1 + a2)) - a3)) a1).bind fun t339 => ((vitrineref09_away.f (wrap64 ((wrap64 (a1 + a2)) - a3)) a3).bind fun t340 => (vitrineref09_tells.j0 k a1 a2 a3 (wrap64 ((wrap64 (a1 + a2)) - a3)) (decide (t339 ≤ t340))))) else (vitrineref09_tells.j0 k a1 a2 a3 (wrap64 ((wrap64 (a1 + a2)) - a3)) false)))) else (some 0))))) = some r := h
 clear h
 by_cases c5 : a0 = 1
 ·rw [if_pos c5] at H
  have c5b0 : (a0 == 1) = true := beq_iff_eq.mpr c5
  have c5b1 : (a0 != 1) = false := bne_eq_false_iff_eq.mpr c5
  clear c5
  obtain rfl := Option.some.inj H
  go_enter Try.func46, Try.ntmps46
  go_wp2
  go_ret
  exact ⟨by first | rfl | (simp [errW_none, errW_some] <;> rfl) | (simp [*, errW_none, errW_some] <;> rfl), by repeat (first | (with_reducible first | exact HB.out | apply below_alloc | apply pw_below_drewN | apply below_drew1) | exact HB.out)⟩
 ·rw [if_neg c5] at H
  have c5b0 : (a0 == 1) = false := beq_eq_false_iff_ne.mpr c5
  have c5b1 : (a0 != 1) = true := bne_iff_ne.mpr c5
  by_cases c6 : a0 = 2
  ·rw [if_pos c6] at H
   have c6b0 : (a0 == 2) = true := beq_iff_eq.mpr c6
   have c6b1 : (a0 != 2) = false := bne_eq_false_iff_eq.mpr c6
   clear c6
   obtain rfl := Option.some.inj H
   go_enter Try.func46, Try.ntmps46
   go_wp2
   go_ret
   exact ⟨by first | rfl | (simp [errW_none, errW_some] <;> rfl) | (simp [*, errW_none, errW_some] <;> rfl), by repeat (first | (with_reducible first | exact HB.out | apply below_alloc | apply pw_below_drewN | apply below_drew1) | exact HB.out)⟩
  ·rw [if_neg c6] at H
   have c6b0 : (a0 == 2) = false := beq_eq_false_iff_ne.mpr c6
   have c6b1 : (a0 != 2) = true := bne_iff_ne.mpr c6
   by_cases c7 : a0 = 3
   ·rw [if_pos c7] at H
    have c7b0 : (a0 == 3) = true := beq_iff_eq.mpr c7
    have c7b1 : (a0 != 3) = false := bne_eq_false_iff_eq.mpr c7
    clear c7
    obtain rfl := Option.some.inj H
    go_enter Try.func46, Try.ntmps46
    go_wp2
    go_ret
    exact ⟨by first | rfl | (simp [errW_none, errW_some] <;> rfl) | (simp [*, errW_none, errW_some] <;> rfl), by repeat (first | (with_reducible first | exact HB.out | apply below_alloc | apply pw_below_drewN | apply below_drew1) | exact HB.out)⟩
   ·rw [if_neg c7] at H
    have c7b0 : (a0 == 3) = false := beq_eq_false_iff_ne.mpr c7
    have c7b1 : (a0 != 3) = true := bne_iff_ne.mpr c7
    by_cases c8 : a0 = 4
    ·rw [if_pos c8] at H
     have c8b0 : (a0 == 4) = true := beq_iff_eq.mpr c8
     have c8b1 : (a0 != 4) = false := bne_eq_false_iff_eq.mpr c8
     clear c8
     have HC9 := Aside0.mk H
     clear H
     go_enter Try.func46, Try.ntmps46
     go_upto_region 10 with (fail)
     go_cut [45] (fun v45 wc => ∃ (kq : Nat) (x45_8 : Bool), v45 = .bool x45_8 ∧ Aside0 (vitrineref09_tells.j0 kq a1 a2 a3 (wrap64 ((wrap64 (a1 + a2)) - a3)) x45_8 = some r) ∧ Aside0 (kq ≤ k) ∧ Aside0 (Below w.heap.size w wc))
     case first =>
      have H := HC9.out
      clear HC9
      replace H := Option.bind_eq_some_iff.mp H
      obtain ⟨t337, A100, H⟩ := H
      replace H : ((vitrineref09_away.f (wrap64 ((wrap64 (a1 + a2)) - a3)) a2).bind fun t338 => (if t337 ≤ t338 then ((vitrineref09_away.f (wrap64 ((wrap64 (a1 + a2)) - a3)) a1).bind fun t339 => ((vitrineref09_away.f (wrap64 ((wrap64 (a1 + a2)) - a3)) a3).bind fun t340 => (vitrineref09_tells.j0 k a1 a2 a3 (wrap64 ((wrap64 (a1 + a2)) - a3)) (decide (t339 ≤ t340))))) else (vitrineref09_tells.j0 k a1 a2 a3 (wrap64 ((wrap64 (a1 + a2)) - a3)) false))) = some r := H
      have A10 := Aside0.mk A100
      clear A100
      replace H := Option.bind_eq_some_iff.mp H
      obtain ⟨t338, A110, H⟩ := H
      replace H : (if t337 ≤ t338 then ((vitrineref09_away.f (wrap64 ((wrap64 (a1 + a2)) - a3)) a1).bind fun t339 => ((vitrineref09_away.f (wrap64 ((wrap64 (a1 + a2)) - a3)) a3).bind fun t340 => (vitrineref09_tells.j0 k a1 a2 a3 (wrap64 ((wrap64 (a1 + a2)) - a3)) (decide (t339 ≤ t340))))) else (vitrineref09_tells.j0 k a1 a2 a3 (wrap64 ((wrap64 (a1 + a2)) - a3)) false)) = some r := H
      have A11 := Aside0.mk A110
      clear A110
      by_cases c12 : t337 ≤ t338
      ·rw [if_pos c12] at H
       have c12b0 : decide (t337 ≤ t338) = true := decide_eq_true c12
       clear c12
       (first | rw [c12b0] | (simp only [i64_w, i32_w]; rw [c12b0]) | skip)
       replace H := Option.bind_eq_some_iff.mp H
       obtain ⟨t339, A130, H⟩ := H
       replace H : ((vitrineref09_away.f (wrap64 ((wrap64 (a1 + a2)) - a3)) a3).bind fun t340 => (vitrineref09_tells.j0 k a1 a2 a3 (wrap64 ((wrap64 (a1 + a2)) - a3)) (decide (t339 ≤ t340)))) = some r := H
       have A13 := Aside0.mk A130
       clear A130
       replace H := Option.bind_eq_some_iff.mp H
       obtain ⟨t340, A140, H⟩ := H
       replace H : (vitrineref09_tells.j0 k a1 a2 a3 (wrap64 ((wrap64 (a1 + a2)) - a3)) (decide (t339 ≤ t340))) = some r := H
       have A14 := Aside0.mk A140
       clear A140
       have H' := Aside0.mk H
       clear H
       go_wp2_with (first | ((with_reducible refine gate_callee (f := 60) rfl ?_); refine gz 32 Try.func60 #[.int .i64 (wrap64 ((wrap64 (a1 + a2)) - a3)), .int .i64 a1] ?_; (with_reducible refine (vitrineref09_away.calls (wrap64 ((wrap64 (a1 + a2)) - a3)) a1 t337 _ A10.out).mono ?_); rintro e w15 ⟨rfl, hb⟩; refine ⟨_, rfl, ?_⟩; have n0_ := Aside0.mk (below_step (hz HB) hb); clear HB; have HB := n0_; clear n0_; (try clear hb); (try clear hb2); (try clear hk); (try clear hi)) | ((with_reducible refine gate_callee (f := 60) rfl ?_); refine gz 35 Try.func60 #[.int .i64 (wrap64 ((wrap64 (a1 + a2)) - a3)), .int .i64 a2] ?_; (with_reducible refine (vitrineref09_away.calls (wrap64 ((wrap64 (a1 + a2)) - a3)) a2 t338 _ A11.out).mono ?_); rintro e w16 ⟨rfl, hb⟩; refine ⟨_, rfl, ?_⟩; have n0_ := Aside0.mk (below_step (hz HB) hb); clear HB; have HB := n0_; clear n0_; (try clear hb); (try clear hb2); (try clear hk); (try clear hi)) | (go_at_call 60; (with_reducible refine (vitrineref09_away.calls (wrap64 ((wrap64 (a1 + a2)) - a3)) a1 t339 _ A13.out).mono ?_); rintro e w17 ⟨rfl, hb⟩; have n0_ := Aside0.mk (below_step (hz HB) hb); clear HB; have HB := n0_; clear n0_; (try clear hb); (try clear hb2); (try clear hk); (try clear hi)) | (go_at_call 60; (with_reducible refine (vitrineref09_away.calls (wrap64 ((wrap64 (a1 + a2)) - a3)) a3 t340 _ A14.out).mono ?_); rintro e w18 ⟨rfl, hb⟩; have n0_ := Aside0.mk (below_step (hz HB) hb); clear HB; have HB := n0_; clear n0_; (try clear hb); (try clear hb2); (try clear hk); (try clear hi)))
       go_meet
       case rel => exact ⟨_, (decide (t339 ≤ t340)), (by first | rfl | (simp; done) | (simp [*]; done)), H', ⟨by first | omega | exact Nat.le_refl _⟩, ⟨hz HB⟩⟩
      ·rw [if_neg c12] at H
       have c12b0 : decide (t337 ≤ t338) = false := decide_eq_false c12
       clear c12
       (first | rw [c12b0] | (simp only [i64_w, i32_w]; rw [c12b0]) | skip)
       have H' := Aside0.mk H
       clear H
       go_wp2_with (first | ((with_reducible refine gate_callee (f := 60) rfl ?_); refine gz 32 Try.func60 #[.int .i64 (wrap64 ((wrap64 (a1 + a2)) - a3)), .int .i64 a1] ?_; (with_reducible refine (vitrineref09_away.calls (wrap64 ((wrap64 (a1 + a2)) - a3)) a1 t337 _ A10.out).mono ?_); rintro e w19 ⟨rfl, hb⟩; refine ⟨_, rfl, ?_⟩; have n0_ := Aside0.mk (below_step (hz HB) hb); clear HB; have HB := n0_; clear n0_; (try clear hb); (try clear hb2); (try clear hk); (try clear hi)) | ((with_reducible refine gate_callee (f := 60) rfl ?_); refine gz 35 Try.func60 #[.int .i64 (wrap64 ((wrap64 (a1 + a2)) - a3)), .int .i64 a2] ?_; (with_reducible refine (vitrineref09_away.calls (wrap64 ((wrap64 (a1 + a2)) - a3)) a2 t338 _ A11.out).mono ?_); rintro e w20 ⟨rfl, hb⟩; refine ⟨_, rfl, ?_⟩; have n0_ := Aside0.mk (below_step (hz HB) hb); clear HB; have HB := n0_; clear n0_; (try clear hb); (try clear hb2); (try clear hk); (try clear hi)))
       go_meet
       case rel => exact ⟨_, (false), (by first | rfl | (simp; done) | (simp [*]; done)), H', ⟨by first | omega | exact Nat.le_refl _⟩, ⟨hz HB⟩⟩
     case rest =>
      clear HC9
      try clear c5
      try clear c5b0
      try clear c5b1
      try clear c6
      try clear c6b0
      try clear c6b1
      try clear c7
      try clear c7b0
      try clear c7b1
      try clear c8
      try clear c8b0
      try clear c8b1
      obtain ⟨kq, x45_8, rfl, HA, HJ8, HB⟩ := hcut
      cases kq with
      | zero => exact absurd HA.out (by simp [vitrineref09_tells.j0])
      | succ kj8 =>
       have H := HA.out
       clear HA
       simp only [vitrineref09_tells.j0] at H
       by_cases c21 : x45_8 = true
       ·subst c21
        have H1 : (some a1) = some r := by rw [if_pos rfl] at H; exact H
        clear H
        have H := H1
        clear H1
        obtain rfl := Option.some.inj H
        go_wp2
        go_ret
        exact ⟨by first | rfl | (simp [errW_none, errW_some] <;> rfl) | (simp [*, errW_none, errW_some] <;> rfl), by repeat (first | (with_reducible first | exact HB.out | apply below_alloc | apply pw_below_drewN | apply below_drew1) | exact HB.out)⟩
       ·replace c21 := Bool.eq_false_iff.mpr c21
        subst c21
        have H1 : ((vitrineref09_away.f (wrap64 ((wrap64 (a1 + a2)) - a3)) a2).bind fun t341 => ((vitrineref09_away.f (wrap64 ((wrap64 (a1 + a2)) - a3)) a3).bind fun t342 => (if t341 ≤ t342 then (some a2) else (some a3)))) = some r := by rw [if_neg (show ¬ (false = true) by decide)] at H; exact H
        clear H
        have H := H1
        clear H1
        replace H := Option.bind_eq_some_iff.mp H
        obtain ⟨t341, A220, H⟩ := H
        replace H : ((vitrineref09_away.f (wrap64 ((wrap64 (a1 + a2)) - a3)) a3).bind fun t342 => (if t341 ≤ t342 then (some a2) else (some a3))) = some r := H
        have A22 := Aside0.mk A220
        clear A220
        replace H := Option.bind_eq_some_iff.mp H
        obtain ⟨t342, A230, H⟩ := H
        replace H : (if t341 ≤ t342 then (some a2) else (some a3)) = some r := H
        have A23 := Aside0.mk A230
        clear A230
        by_cases c24 : t341 ≤ t342
        ·rw [if_pos c24] at H
         have c24b0 : decide (t341 ≤ t342) = true := decide_eq_true c24
         clear c24
         obtain rfl := Option.some.inj H
         go_wp2_with (first | ((with_reducible refine gate_callee (f := 60) rfl ?_); refine gz 49 Try.func60 #[.int .i64 (wrap64 ((wrap64 (a1 + a2)) - a3)), .int .i64 a2] ?_; (with_reducible refine (vitrineref09_away.calls (wrap64 ((wrap64 (a1 + a2)) - a3)) a2 t341 _ A22.out).mono ?_); rintro e w25 ⟨rfl, hb⟩; refine ⟨_, rfl, ?_⟩; have n0_ := Aside0.mk (below_step (hz HB) hb); clear HB; have HB := n0_; clear n0_; (try clear hb); (try clear hb2); (try clear hk); (try clear hi)) | ((with_reducible refine gate_callee (f := 60) rfl ?_); refine gz 52 Try.func60 #[.int .i64 (wrap64 ((wrap64 (a1 + a2)) - a3)), .int .i64 a3] ?_; (with_reducible refine (vitrineref09_away.calls (wrap64 ((wrap64 (a1 + a2)) - a3)) a3 t342 _ A23.out).mono ?_); rintro e w26 ⟨rfl, hb⟩; refine ⟨_, rfl, ?_⟩; have n0_ := Aside0.mk (below_step (hz HB) hb); clear HB; have HB := n0_; clear n0_; (try clear hb); (try clear hb2); (try clear hk); (try clear hi)))
         go_ret
         exact ⟨by first | rfl | (simp [errW_none, errW_some] <;> rfl) | (simp [*, errW_none, errW_some] <;> rfl), by repeat (first | (with_reducible first | exact HB.out | apply below_alloc | apply pw_below_drewN | apply below_drew1) | exact HB.out)⟩
        ·rw [if_neg c24] at H
         have c24b0 : decide (t341 ≤ t342) = false := decide_eq_false c24
         clear c24
         obtain rfl := Option.some.inj H
         go_wp2_with (first | ((with_reducible refine gate_callee (f := 60) rfl ?_); refine gz 49 Try.func60 #[.int .i64 (wrap64 ((wrap64 (a1 + a2)) - a3)), .int .i64 a2] ?_; (with_reducible refine (vitrineref09_away.calls (wrap64 ((wrap64 (a1 + a2)) - a3)) a2 t341 _ A22.out).mono ?_); rintro e w27 ⟨rfl, hb⟩; refine ⟨_, rfl, ?_⟩; have n0_ := Aside0.mk (below_step (hz HB) hb); clear HB; have HB := n0_; clear n0_; (try clear hb); (try clear hb2); (try clear hk); (try clear hi)) | ((with_reducible refine gate_callee (f := 60) rfl ?_); refine gz 52 Try.func60 #[.int .i64 (wrap64 ((wrap64 (a1 + a2)) - a3)), .int .i64 a3] ?_; (with_reducible refine (vitrineref09_away.calls (wrap64 ((wrap64 (a1 + a2)) - a3)) a3 t342 _ A23.out).mono ?_); rintro e w28 ⟨rfl, hb⟩; refine ⟨_, rfl, ?_⟩; have n0_ := Aside0.mk (below_step (hz HB) hb); clear HB; have HB := n0_; clear n0_; (try clear hb); (try clear hb2); (try clear hk); (try clear hi)))
         go_ret
         exact ⟨by first | rfl | (simp [errW_none, errW_some] <;> rfl) | (simp [*, errW_none, errW_some] <;> rfl), by repeat (first | (with_reducible first | exact HB.out | apply below_alloc | apply pw_below_drewN | apply below_drew1) | exact HB.out)⟩
    ·rw [if_neg c8] at H
     have c8b0 : (a0 == 4) = false := beq_eq_false_iff_ne.mpr c8
     have c8b1 : (a0 != 4) = true := bne_iff_ne.mpr c8
     obtain rfl := Option.some.inj H
     go_enter Try.func46, Try.ntmps46
     go_wp2
     go_ret
     exact ⟨by first | rfl | (simp [errW_none, errW_some] <;> rfl) | (simp [*, errW_none, errW_some] <;> rfl), by repeat (first | (with_reducible first | exact HB.out | apply below_alloc | apply pw_below_drewN | apply below_drew1) | exact HB.out)⟩

end Go.Proofs.Ytejljcglbkjgkaa.PL12

namespace Go.Proofs.Ytejljcglbkjgkaa.PL12
open Go.RowKit Go.Proofs.YtejljcglbkjgkaaW.PrintWords Go.Proofs.YtejljcglbkjgkaaW.PrintLast Go.Proofs.YtejljcglbkjgkaaW.PrintMore
attribute [local go_sem] max2_int min2_int max_two min_two max_three min_three max_four min_four   -- for this text's walks alone
set_option linter.unusedVariables false
set_option linter.unusedSimpArgs false

def vitrineref09_at.f (a0 : ByteArray) (a1 : Int) : Option (Int) := if a1 < 0 then (some 0) else (if a1 ≥ (a0.size : Int) then (some 0) else (if 0 ≤ a1 then (if a1 < (a0.size : Int) then (some (wrap64 (bt a0 a1))) else (none)) else (none)))
set_option maxHeartbeats 40000000 in
set_option maxRecDepth 100000 in
theorem vitrineref09_at.calls (a0 : ByteArray) (a1 : Int) (r : Int) (w : World) (h : vitrineref09_at.f a0 a1 = some r) :
  Calls Try.prog 47 #[.string a0, .int .i64 a1] w fun e w' => e = .returned (.int .i64 r) ∧ Drawn0 w w' := by
 have H : (if a1 < 0 then (some 0) else (if a1 ≥ (a0.size : Int) then (some 0) else (if 0 ≤ a1 then (if a1 < (a0.size : Int) then (some (wrap64 (bt a0 a1))) else (none)) else (none)))) = some r := h
 clear h
 by_cases c3 : a1 < 0
 ·rw [if_pos c3] at H
  have c3b0 : decide (a1 < 0) = true := decide_eq_true c3
  clear c3
  obtain rfl := Option.some.inj H
  go_enter Try.func47, Try.ntmps47
  go_wp2
  go_ret
  exact ⟨by first | rfl | (simp; done) | (simp [*]; done), by repeat (first | exact Drawn0.refl _ | apply Drawn0.step)⟩
 ·rw [if_neg c3] at H
  have c3b0 : decide (a1 < 0) = false := decide_eq_false c3
  clear c3
  by_cases c4 : a1 ≥ (a0.size : Int)
  ·rw [if_pos c4] at H
   have c4b0 : decide ((a0.size : Int) ≤ a1) = true := decide_eq_true c4
   clear c4
   obtain rfl := Option.some.inj H
   go_enter Try.func47, Try.ntmps47
   go_wp2
   go_ret
   exact ⟨by first | rfl | (simp; done) | (simp [*]; done), by repeat (first | exact Drawn0.refl _ | apply Drawn0.step)⟩
  ·rw [if_neg c4] at H
   have c4b0 : decide ((a0.size : Int) ≤ a1) = false := decide_eq_false c4
   clear c4
   by_cases c5 : 0 ≤ a1
   ·rw [if_pos c5] at H
    have c5b0 : decide (0 ≤ a1) = true := decide_eq_true c5
    clear c5
    by_cases c6 : a1 < (a0.size : Int)
    ·rw [if_pos c6] at H
     have c6b0 : decide (a1 < (a0.size : Int)) = true := decide_eq_true c6
     clear c6
     obtain rfl := Option.some.inj H
     have p7 : 0 ≤ (a1 : Int) := of_decide_eq_true (by first | (with_reducible assumption) | assumption)
     have q7 : a1 < (a0.size : Int) := of_decide_eq_true (by first | (with_reducible assumption) | assumption)
     have hx7 := bt_at a0 a1
     replace p7 := eq_true p7
     replace q7 := eq_true q7
     go_enter Try.func47, Try.ntmps47
     go_wp2
     go_ret
     exact ⟨by first | rfl | (simp; done) | (simp [*]; done), by repeat (first | exact Drawn0.refl _ | apply Drawn0.step)⟩
    ·rw [if_neg c6] at H
     exact absurd H (by simp)
   ·rw [if_neg c5] at H
    exact absurd H (by simp)

end Go.Proofs.Ytejljcglbkjgkaa.PL12

namespace Go.Proofs.Ytejljcglbkjgkaa.PL12
open Go.RowKit Go.Proofs.YtejljcglbkjgkaaW.PrintWords Go.Proofs.YtejljcglbkjgkaaW.PrintLast Go.Proofs.YtejljcglbkjgkaaW.PrintMore
attribute [local go_sem] max2_int min2_int max_two min_two max_three min_three max_four min_four   -- for this text's walks alone
set_option linter.unusedVariables false
set_option linter.unusedSimpArgs false

def vitrineref09_Undo.l0 : Nat → Int → Int → ByteArray → ByteArray → List Int → Int → Option (ByteArray × Int)
 | 0, _, _, _, _, _, _ => none
 | k + 1, x0, x1, x2, x3, x11, x12 => if x12 < (x2.size : Int) then (if x12 ≥ x0 then (if 0 ≤ (wrap64 (x12 - x0)) then (if (wrap64 (x12 - x0)) < (x11.length : Int) then (if 0 ≤ x12 then ((vitrineref09_at.f x3 x12).bind fun t345 => ((vitrineref09_at.f x3 (wrap64 (x12 - x0))).bind fun t346 => ((vitrineref09_tells.f k x1 (wrap64 (rd x11 (wrap64 (x12 - x0)))) t345 t346).bind fun t347 => (if x11.length < 140737488355328 then (vitrineref09_Undo.l0 k x0 x1 x2 x3 (x11 ++ [(wrap64 ((wrap64 (bt x2 x12)) + t347)) % 256]) (wrap64 (x12 + 1))) else (none))))) else (none)) else (none)) else (none)) else (if 0 ≤ x12 then ((vitrineref09_at.f x3 x12).bind fun t351 => ((vitrineref09_at.f x3 (wrap64 (x12 - x0))).bind fun t352 => ((vitrineref09_tells.f k x1 0 t351 t352).bind fun t353 => (if x11.length < 140737488355328 then (vitrineref09_Undo.l0 k x0 x1 x2 x3 (x11 ++ [(wrap64 ((wrap64 (bt x2 x12)) + t353)) % 256]) (wrap64 (x12 + 1))) else (none))))) else (none))) else (some (strOfNums x11, 0))
def vitrineref09_Undo.f (k : Nat) (a0 : Int) (a1 : Int) (a2 : ByteArray) (a3 : ByteArray) : Option (ByteArray × Int) := (vitrineref09_wrong.f k a0 a1 a2 a3).bind fun t343 => (if t343 = 0 then (vitrineref09_Undo.l0 k a0 a1 a2 a3 ([] : List Int) 0) else (some ((⟨#[]⟩ : ByteArray), t343)))
def vitrineref09_Undo.T11 : Bool × List (List Nat × List Nat) := (true, [([], []), ([], []), ([], []), ([1, 2], [1, 2]), ([3], [3]), ([], []), ([], []), ([], []), ([], []), ([7, 8], [7, 8]), ([], []), ([], []), ([], []), ([11, 12], [11, 12]), ([10, 13, 9], [10, 13]), ([5, 6, 9, 14, 14], [5, 6, 9, 14]), ([4, 15], [4, 15]), ([16], [16]), ([17], [17]), ([0, 18, 15], [0, 18]), ([19, 19, 0, 1, 2, 3, 4, 5, 6, 7, 8, 9, 10, 11, 12, 13, 14, 15, 16, 17, 18, 19], [0, 19])])
def vitrineref09_Undo.B11 : List Nat := [0, 0, 0, 6, 14, 0, 0, 0, 0, 384, 0, 0, 0, 6144, 16256, 32736, 65534, 131070, 262142, 524287, 1048575]
theorem vitrineref09_Undo.tab11 : rtab .any (opsOf Try.f27 11) = vitrineref09_Undo.T11 := by kernel_rfl
theorem vitrineref09_Undo.bits11 : waitsOk vitrineref09_Undo.T11.2 vitrineref09_Undo.B11 = true := by kernel_rfl
set_option maxHeartbeats 40000000 in
set_option maxRecDepth 100000 in
theorem vitrineref09_Undo.calls (k : Nat) (a0 : Int) (a1 : Int) (a2 : ByteArray) (a3 : ByteArray) (r1 : ByteArray) (r2 : Int) (w : World) (h : vitrineref09_Undo.f k a0 a1 a2 a3 = some (r1, r2)) :
  Calls Try.prog 27 #[.int .i64 a0, .int .i64 a1, .string a2, .string a3] w fun e w' => e = .returned (.tuple #[.string r1, .int .i64 r2]) ∧ Below w.heap.size w w' := by
 have HB := Aside0.mk (Below.refl w.heap.size w)
 have H : ((vitrineref09_wrong.f k a0 a1 a2 a3).bind fun t343 => (if t343 = 0 then (vitrineref09_Undo.l0 k a0 a1 a2 a3 ([] : List Int) 0) else (some ((⟨#[]⟩ : ByteArray), t343)))) = some (r1, r2) := h
 clear h
 replace H := Option.bind_eq_some_iff.mp H
 obtain ⟨t343, A50, H⟩ := H
 replace H : (if t343 = 0 then (vitrineref09_Undo.l0 k a0 a1 a2 a3 ([] : List Int) 0) else (some ((⟨#[]⟩ : ByteArray), t343))) = some (r1, r2) := H
 have A5 := Aside0.mk A50
 clear A50
 by_cases c6 : t343 = 0
 ·rw [if_pos c6] at H
  have c6b0 : (t343 == 0) = true := beq_iff_eq.mpr c6
  have c6b1 : (t343 != 0) = false := bne_eq_false_iff_eq.mpr c6
  clear c6
  have H' := Aside0.mk H
  clear H
  go_enter Try.func27, Try.ntmps27
  go_wp2_with (first | ((with_reducible refine gate_callee (f := 45) rfl ?_); refine gz 18 Try.func45 #[.int .i64 a0, .int .i64 a1, .string a2, .string a3] ?_; (with_reducible refine (vitrineref09_wrong.calls k a0 a1 a2 a3 t343 _ A5.out).mono ?_); rintro e w' ⟨rfl, ⟨nd, rfl⟩⟩; refine ⟨_, rfl, ?_⟩))
  go_loopg [11, 12] k (fun kq v11 v12 w' => ∃ (x11_1 : List Int) (x12_1 : Int), v12 = .int .i64 x12_1 ∧ Aside0 (vitrineref09_Undo.l0 kq a0 a1 a2 a3 x11_1 x12_1 = some (r1, r2)) ∧ Aside0 (kq ≤ k) ∧ Aside0 (Kd.R (Kd.int .u8) 5 w' w.heap.size (fun _ => True) v11 x11_1) ∧ Aside0 (Below w.heap.size w w'))
  case atStart => exact ⟨(([] : List Int)), (0), (by first | rfl | (simp; done) | (simp [*]; done)), H', ⟨Nat.le_refl _⟩, ⟨by first | exact Kd.R_nil _ _ _ _ _ | exact Kd.N_nil _ _ _ _ _ | exact Kd.V_nil _ _ _ _ _ | exact Kd.Q_nil _ _ _ _ _ | exact Kd.S_nil _ _ _ _ _⟩, ⟨hz HB⟩⟩
  case round =>
   clear H'
   try clear c6
   try clear c6b0
   try clear c6b1
   obtain ⟨x11_1, x12_1, rfl, HA, HK1, HO_11, HB⟩ := hrel
   cases gk with
   | zero => exact absurd HA.out (by simp [vitrineref09_Undo.l0])
   | succ k1 =>
    have H := HA.out
    clear HA
    simp only [vitrineref09_Undo.l0] at H
    by_cases c7 : x12_1 < (a2.size : Int)
    ·rw [if_pos c7] at H
     have c7b0 : decide (x12_1 < (a2.size : Int)) = true := decide_eq_true c7
     clear c7
     by_cases c8 : x12_1 ≥ a0
     ·rw [if_pos c8] at H
      have c8b0 : decide (a0 ≤ x12_1) = true := decide_eq_true c8
      clear c8
      obtain ⟨ji9, hji9⟩ : ∃ j_ : Int, (wrap64 (x12_1 - a0)) = j_ := ⟨_, rfl⟩
      replace H : (if 0 ≤ (ji9) then (if (ji9) < (x11_1.length : Int) then (if 0 ≤ x12_1 then ((vitrineref09_at.f a3 x12_1).bind fun t345 => ((vitrineref09_at.f a3 (ji9)).bind fun t346 => ((vitrineref09_tells.f k1 a1 (wrap64 (rd x11_1 (ji9))) t345 t346).bind fun t347 => (if x11_1.length < 140737488355328 then (vitrineref09_Undo.l0 k1 a0 a1 a2 a3 (x11_1 ++ [(wrap64 ((wrap64 (bt a2 x12_1)) + t347)) % 256]) (wrap64 (x12_1 + 1))) else (none))))) else (none)) else (none)) else (none)) = some (r1, r2) := by first | (rw [hji9] at H; exact H) | (simp only [hji9] at H ⊢; exact H)
      have hji9w : (IntKind.i64.wrap (x12_1 - a0)) = ji9 := (i64_w _).trans hji9
      by_cases c10 : 0 ≤ (ji9)
      ·rw [if_pos c10] at H
       have c10b0 : decide (0 ≤ (ji9)) = true := decide_eq_true c10
       clear c10
       by_cases c11 : (ji9) < (x11_1.length : Int)
       ·rw [if_pos c11] at H
        have c11b0 : decide ((ji9) < (x11_1.length : Int)) = true := decide_eq_true c11
        clear c11
        by_cases c12 : 0 ≤ x12_1
        ·rw [if_pos c12] at H
         have c12b0 : decide (0 ≤ x12_1) = true := decide_eq_true c12
         clear c12
         replace H := Option.bind_eq_some_iff.mp H
         obtain ⟨t345, A140, H⟩ := H
         replace H : ((vitrineref09_at.f a3 (ji9)).bind fun t346 => ((vitrineref09_tells.f k1 a1 (wrap64 (rd x11_1 (ji9))) t345 t346).bind fun t347 => (if x11_1.length < 140737488355328 then (vitrineref09_Undo.l0 k1 a0 a1 a2 a3 (x11_1 ++ [(wrap64 ((wrap64 (bt a2 x12_1)) + t347)) % 256]) (wrap64 (x12_1 + 1))) else (none)))) = some (r1, r2) := H
         have A14 := Aside0.mk A140
         clear A140
         replace H := Option.bind_eq_some_iff.mp H
         obtain ⟨t346, A150, H⟩ := H
         replace H : ((vitrineref09_tells.f k1 a1 (wrap64 (rd x11_1 (ji9))) t345 t346).bind fun t347 => (if x11_1.length < 140737488355328 then (vitrineref09_Undo.l0 k1 a0 a1 a2 a3 (x11_1 ++ [(wrap64 ((wrap64 (bt a2 x12_1)) + t347)) % 256]) (wrap64 (x12_1 + 1))) else (none))) = some (r1, r2) := H
         have A15 := Aside0.mk A150
         clear A150
         replace H := Option.bind_eq_some_iff.mp H
         obtain ⟨t347, A160, H⟩ := H
         replace H : (if x11_1.length < 140737488355328 then (vitrineref09_Undo.l0 k1 a0 a1 a2 a3 (x11_1 ++ [(wrap64 ((wrap64 (bt a2 x12_1)) + t347)) % 256]) (wrap64 (x12_1 + 1))) else (none)) = some (r1, r2) := H
         have A16 := Aside0.mk A160
         clear A160
         by_cases c17 : x11_1.length < 140737488355328
         ·rw [if_pos c17] at H
          have LMc17 := Aside0.mk c17
          clear c17
          obtain ⟨y348, hy348⟩ : ∃ y_ : List Int, y_ = (x11_1 ++ [(wrap64 ((wrap64 (bt a2 x12_1)) + t347)) % 256]) := ⟨_, rfl⟩
          replace H : (vitrineref09_Undo.l0 k1 a0 a1 a2 a3 y348 (wrap64 (x12_1 + 1))) = some (r1, r2) := by first | (rw [hy348]; with_reducible exact H) | (have H2_ := (Option.bind_some _ _).symm.trans H; rw [hy348]; with_reducible exact H2_) | (have H2_ := (Option.bind_some _ _).symm.trans H; with_reducible exact H2_) | with_reducible exact H | (rw [hy348]; exact H) | exact H
          have Ny348 := Aside0.mk hy348
          clear hy348
          have H' := Aside0.mk H
          clear H
          obtain ⟨Ao18, co18, eo18⟩ := Kd.R_slice HO_11.out
          subst eo18
          have p344 : 0 ≤ ((ji9) : Int) := of_decide_eq_true (by first | (with_reducible assumption) | assumption)
          have q344 : (ji9) < (x11_1.length : Int) := of_decide_eq_true (by first | (with_reducible assumption) | assumption)
          obtain ⟨ad344, e344, hx344_0⟩ := Kd.at_int (Kd.R_reads' HO_11.out).2.2 (ji9) p344 q344
          cases e344
          replace p344 := eq_true p344
          replace q344 := eq_true q344
          try go_wp2
          have n0_ := Aside0.mk (Kd.R_drew HO_11.out)
          have n1_ := Aside0.mk (below_drew1 HB.out)
          clear HO_11
          clear HB
          have HO_11 := n0_
          have HB := n1_
          clear n0_ n1_
          have p13 : 0 ≤ (x12_1 : Int) := of_decide_eq_true (by first | (with_reducible assumption) | assumption)
          have q13 : x12_1 < (a2.size : Int) := of_decide_eq_true (by first | (with_reducible assumption) | assumption)
          have hx13 := bt_at a2 x12_1
          replace p13 := eq_true p13
          replace q13 := eq_true q13
          refine start_ (n := 21) (S := fun w' => True) (ds := []) (bm 21 0) (by kernel_rfl) rfl rfl trivial (fun hHeld => ?_); refine with_tabW vitrineref09_Undo.tab11 vitrineref09_Undo.bits11 (fun HT_ HW_ => ?_)
          generalize wr.drew = w19 at HO_11 HB hHeld ⊢
          refine zp 0 38 (bm 21 1) ?_
          refine zp 1 39 (bm 21 3) ?_
          refine zp 2 40 (bm 21 7) ?_
          refine zp 5 43 (bm 21 39) ?_
          refine zp 6 44 (bm 21 103) ?_
          refine zp 7 45 (bm 21 231) ?_
          refine zp 8 46 (bm 21 487) ?_
          refine zp 10 48 (bm 21 1511) ?_
          refine zp 11 49 (bm 21 3559) ?_
          refine zp 12 50 (bm 21 7655) ?_
          refine zp 13 51 (bm 21 15847) ?_
          refine zt 3 41 (bm 21 15855) rfl (by intro w' _; go_simp; with_reducible rfl) ?_
          refine zp 4 42 (bm 21 15871) ?_
          refine one_ (i := 9) (N := some 47) (bm 21 16383) rfl rfl (one_of HT_.out (by kernel_rfl)) (by decide) (fun K hK => ?_)
          refine goes_ Try.func47 (by kernel_rfl) rfl #[.string a3, .int .i64 x12_1] (by rfl) rfl rfl (by (try simp only [List.map_toArray, List.map_cons, List.map_nil]); first | done | rfl | (simp only [List.length_drop, List.length_take]; rfl) | (simp only [ByteArray.size_extract, Nat.min_self]; done) | (simp only [ByteArray.size_extract, Nat.min_self]; rfl)) ?_
          with_reducible refine (vitrineref09_at.calls a3 x12_1 t345 _ A14.out).mono ?_
          rintro e w' ⟨rfl, ⟨nd, rfl⟩⟩
          refine ⟨_, rfl, ?_⟩
          refine hK.out _ _ trivial (fun hHeld => ?_)
          clear hK K
          refine norm_ (a' := ?_) ?_ ?_
          rotate_left
          ·show Act.put _ (some 47) _ = _
           simp only [Act.put, zq1, zq2, zq3, i64_w, i32_w]
           rfl
          refine one_ (i := 14) (N := some 52) (bm 21 32767) rfl rfl (one_of HT_.out (by kernel_rfl)) (by decide) (fun K hK => ?_)
          refine goes_ Try.func47 (by kernel_rfl) rfl #[.string a3, .int .i64 ji9] (by rfl) rfl rfl (by (try simp only [List.map_toArray, List.map_cons, List.map_nil]); first | done | (simp only [hji9]; rfl) | rfl | (simp only [List.length_drop, List.length_take]; rfl) | (simp only [ByteArray.size_extract, Nat.min_self]; done) | (simp only [ByteArray.size_extract, Nat.min_self]; rfl)) ?_
          with_reducible refine (vitrineref09_at.calls a3 ji9 t346 _ A15.out).mono ?_
          rintro e w' ⟨rfl, ⟨nd, rfl⟩⟩
          refine ⟨_, rfl, ?_⟩
          refine hK.out _ _ trivial (fun hHeld => ?_)
          clear hK K
          refine norm_ (a' := ?_) ?_ ?_
          rotate_left
          ·show Act.put _ (some 52) _ = _
           simp only [Act.put, zq1, zq2, zq3, i64_w, i32_w]
           rfl
          refine one_ (i := 15) (N := some 53) (bm 21 65535) rfl rfl (one_of HT_.out (by kernel_rfl)) (by decide) (fun K hK => ?_)
          refine goes_ Try.func46 (by kernel_rfl) rfl #[.int .i64 a1, .int .i64 (wrap64 (rd x11_1 (ji9))), .int .i64 t345, .int .i64 t346] (by rfl) rfl rfl (by (try simp only [List.map_toArray, List.map_cons, List.map_nil]); first | done | (simp only [hji9]; rfl) | rfl | (simp only [List.length_drop, List.length_take]; rfl) | (simp only [ByteArray.size_extract, Nat.min_self]; done) | (simp only [ByteArray.size_extract, Nat.min_self]; rfl)) ?_
          with_reducible refine (vitrineref09_tells.calls k1 a1 (wrap64 (rd x11_1 (ji9))) t345 t346 t347 _ A16.out).mono ?_
          rintro e w20 ⟨rfl, hb⟩
          refine ⟨_, rfl, ?_⟩
          have n0_ := Aside0.mk (Kd.R_below (oz HO_11) hb)
          have n1_ := Aside0.mk (below_step (hz HB) hb)
          clear HO_11
          clear HB
          have HO_11 := n0_
          have HB := n1_
          clear n0_ n1_
          (try clear hb)
          refine hK.out _ _ trivial (fun hHeld => ?_)
          clear hK K
          refine norm_ (a' := ?_) ?_ ?_
          rotate_left
          ·show Act.put _ (some 53) _ = _
           simp only [Act.put, zq1, zq2, zq3, i64_w, i32_w]
           rfl
          refine zp 16 54 (bm 21 131071) ?_
          refine zp 17 55 (bm 21 262143) ?_
          refine one_ (i := 18) (N := some 56) (bm 21 524287) rfl rfl (one_of HT_.out (by kernel_rfl)) (by decide) (fun K hK => ?_)
          refine value_ (w1 := ?_) (v := ?_) (by rfl) rfl ?_ ?_
          rotate_left 2
          ·go_simp
           constructor
           ·rfl
           ·rfl
          refine hK.out _ _ trivial (fun hHeld => ?_)
          clear hK K
          refine norm_ (a' := ?_) ?_ ?_
          rotate_left
          ·show Act.put _ (some 56) _ = _
           simp only [Act.put, zq1, zq2, zq3, i64_w, i32_w]
           rfl
          refine one_ (i := 19) (N := some 57) (bm 21 1048575) rfl rfl (one_of HT_.out (by kernel_rfl)) (by decide) (fun K hK => ?_)
          refine Kd.R_append_step (Kd.int .u8) (w0 := w) w.heap.size (by rfl) (.tmp 38) (.tmp 56) 45 5 (.int .u8 0) 1 rfl Try.underlying45 info5 rfl (by decide) (by omega) (.slice (some ad344) x11_1.length co18) x11_1 ((wrap64 ((wrap64 (bt a2 x12_1)) + t347)) % 256) [.int .u8 ((wrap64 ((wrap64 (bt a2 x12_1)) + t347)) % 256)] (fun _ => True) (fun _ => False) rfl rfl ?aP (fun _ hk => hk.elim) ?aF ?aO ?aB ?aS ?aL ?_
          (case aP => exact rfl)
          (case aB => exact (hz HB))
          (case aF => exact (fun _ _ => trivial))
          (case aO => exact (oz HO_11))
          (case aS => exact (below_size (hz HB)))
          (case aL => have := LMc17.out; omega)
          intro v349 w21 ho hb hg hat
          rw [← Ny348.out] at ho
          have n0_ := Aside0.mk (hb)
          have n1_ := Aside0.mk (ho)
          clear HB
          clear HO_11
          have HB := n0_
          have HO350 := n1_
          clear n0_ n1_
          clear ho hb hg hat
          refine hK.out _ _ trivial (fun hHeld => ?_)
          clear hK K
          refine norm_ (a' := ?_) ?_ ?_
          rotate_left
          ·show Act.put _ (some 57) _ = _
           simp only [Act.put, zq1, zq2, zq3, i64_w, i32_w]
           rfl
          refine zp 20 11 (bm 21 2097151) ?_
          refine done_ (done_of HT_.out (by kernel_rfl)) ?_
          try go_wp2
          go_roundg k1
          case measure => have := HK1.out; omega
          case rel => exact ⟨(y348), (wrap64 (x12_1 + 1)), (by first | rfl | (simp; done) | (simp [*]; done)), H', ⟨by have := HK1.out; omega⟩, ⟨oz HO350⟩, ⟨hz HB⟩⟩
         ·rw [if_neg c17] at H
          exact absurd H (by simp)
        ·rw [if_neg c12] at H
         exact absurd H (by simp)
       ·rw [if_neg c11] at H
        exact absurd H (by simp)
      ·rw [if_neg c10] at H
       exact absurd H (by simp)
     ·rw [if_neg c8] at H
      have c8b0 : decide (a0 ≤ x12_1) = false := decide_eq_false c8
      clear c8
      by_cases c22 : 0 ≤ x12_1
      ·rw [if_pos c22] at H
       have c22b0 : decide (0 ≤ x12_1) = true := decide_eq_true c22
       clear c22
       replace H := Option.bind_eq_some_iff.mp H
       obtain ⟨t351, A240, H⟩ := H
       replace H : ((vitrineref09_at.f a3 (wrap64 (x12_1 - a0))).bind fun t352 => ((vitrineref09_tells.f k1 a1 0 t351 t352).bind fun t353 => (if x11_1.length < 140737488355328 then (vitrineref09_Undo.l0 k1 a0 a1 a2 a3 (x11_1 ++ [(wrap64 ((wrap64 (bt a2 x12_1)) + t353)) % 256]) (wrap64 (x12_1 + 1))) else (none)))) = some (r1, r2) := H
       have A24 := Aside0.mk A240
       clear A240
       replace H := Option.bind_eq_some_iff.mp H
       obtain ⟨t352, A250, H⟩ := H
       replace H : ((vitrineref09_tells.f k1 a1 0 t351 t352).bind fun t353 => (if x11_1.length < 140737488355328 then (vitrineref09_Undo.l0 k1 a0 a1 a2 a3 (x11_1 ++ [(wrap64 ((wrap64 (bt a2 x12_1)) + t353)) % 256]) (wrap64 (x12_1 + 1))) else (none))) = some (r1, r2) := H
       have A25 := Aside0.mk A250
       clear A250
       replace H := Option.bind_eq_some_iff.mp H
       obtain ⟨t353, A260, H⟩ := H
       replace H : (if x11_1.length < 140737488355328 then (vitrineref09_Undo.l0 k1 a0 a1 a2 a3 (x11_1 ++ [(wrap64 ((wrap64 (bt a2 x12_1)) + t353)) % 256]) (wrap64 (x12_1 + 1))) else (none)) = some (r1, r2) := H
       have A26 := Aside0.mk A260
       clear A260
       by_cases c27 : x11_1.length < 140737488355328
       ·rw [if_pos c27] at H
        have LMc27 := Aside0.mk c27
        clear c27
        obtain ⟨y354, hy354⟩ : ∃ y_ : List Int, y_ = (x11_1 ++ [(wrap64 ((wrap64 (bt a2 x12_1)) + t353)) % 256]) := ⟨_, rfl⟩
        replace H : (vitrineref09_Undo.l0 k1 a0 a1 a2 a3 y354 (wrap64 (x12_1 + 1))) = some (r1, r2) := by first | (rw [hy354]; with_reducible exact H) | (have H2_ := (Option.bind_some _ _).symm.trans H; rw [hy354]; with_reducible exact H2_) | (have H2_ := (Option.bind_some _ _).symm.trans H; with_reducible exact H2_) | with_reducible exact H | (rw [hy354]; exact H) | exact H
        have Ny354 := Aside0.mk hy354
        clear hy354
        have H' := Aside0.mk H
        clear H
        try go_wp2
        have n0_ := Aside0.mk (Kd.R_drew HO_11.out)
        have n1_ := Aside0.mk (below_drew1 HB.out)
        clear HO_11
        clear HB
        have HO_11 := n0_
        have HB := n1_
        clear n0_ n1_
        have p23 : 0 ≤ (x12_1 : Int) := of_decide_eq_true (by first | (with_reducible assumption) | assumption)
        have q23 : x12_1 < (a2.size : Int) := of_decide_eq_true (by first | (with_reducible assumption) | assumption)
        have hx23 := bt_at a2 x12_1
        replace p23 := eq_true p23
        replace q23 := eq_true q23
        refine start_ (n := 21) (S := fun w' => True) (ds := []) (bm 21 0) (by kernel_rfl) rfl rfl trivial (fun hHeld => ?_); refine with_tabW vitrineref09_Undo.tab11 vitrineref09_Undo.bits11 (fun HT_ HW_ => ?_)
        generalize wr.drew = w28 at HO_11 HB hHeld ⊢
        refine zp 0 38 (bm 21 1) ?_
        refine zp 1 39 (bm 21 3) ?_
        refine zp 2 40 (bm 21 7) ?_
        refine zp 5 43 (bm 21 39) ?_
        refine zp 6 44 (bm 21 103) ?_
        refine zp 7 45 (bm 21 231) ?_
        refine zp 8 46 (bm 21 487) ?_
        refine zp 10 48 (bm 21 1511) ?_
        refine zp 11 49 (bm 21 3559) ?_
        refine zp 12 50 (bm 21 7655) ?_
        refine zp 13 51 (bm 21 15847) ?_
        refine zt 3 41 (bm 21 15855) rfl (by intro w' _; go_simp; with_reducible rfl) ?_
        refine zp 4 42 (bm 21 15871) ?_
        refine one_ (i := 9) (N := some 47) (bm 21 16383) rfl rfl (one_of HT_.out (by kernel_rfl)) (by decide) (fun K hK => ?_)
        refine goes_ Try.func47 (by kernel_rfl) rfl #[.string a3, .int .i64 x12_1] (by rfl) rfl rfl (by (try simp only [List.map_toArray, List.map_cons, List.map_nil]); first | done | rfl | (simp only [List.length_drop, List.length_take]; rfl) | (simp only [ByteArray.size_extract, Nat.min_self]; done) | (simp only [ByteArray.size_extract, Nat.min_self]; rfl)) ?_
        with_reducible refine (vitrineref09_at.calls a3 x12_1 t351 _ A24.out).mono ?_
        rintro e w' ⟨rfl, ⟨nd, rfl⟩⟩
        refine ⟨_, rfl, ?_⟩
        refine hK.out _ _ trivial (fun hHeld => ?_)
        clear hK K
        refine norm_ (a' := ?_) ?_ ?_
        rotate_left
        ·show Act.put _ (some 47) _ = _
         simp only [Act.put, zq1, zq2, zq3, i64_w, i32_w]
         rfl
        refine one_ (i := 14) (N := some 52) (bm 21 32767) rfl rfl (one_of HT_.out (by kernel_rfl)) (by decide) (fun K hK => ?_)
        refine goes_ Try.func47 (by kernel_rfl) rfl #[.string a3, .int .i64 (wrap64 (x12_1 - a0))] (by rfl) rfl rfl (by (try simp only [List.map_toArray, List.map_cons, List.map_nil]); first | done | rfl | (simp only [List.length_drop, List.length_take]; rfl) | (simp only [ByteArray.size_extract, Nat.min_self]; done) | (simp only [ByteArray.size_extract, Nat.min_self]; rfl)) ?_
        with_reducible refine (vitrineref09_at.calls a3 (wrap64 (x12_1 - a0)) t352 _ A25.out).mono ?_
        rintro e w' ⟨rfl, ⟨nd, rfl⟩⟩
        refine ⟨_, rfl, ?_⟩
        refine hK.out _ _ trivial (fun hHeld => ?_)
        clear hK K
        refine norm_ (a' := ?_) ?_ ?_
        rotate_left
        ·show Act.put _ (some 52) _ = _
         simp only [Act.put, zq1, zq2, zq3, i64_w, i32_w]
         rfl
        refine one_ (i := 15) (N := some 53) (bm 21 65535) rfl rfl (one_of HT_.out (by kernel_rfl)) (by decide) (fun K hK => ?_)
        refine goes_ Try.func46 (by kernel_rfl) rfl #[.int .i64 a1, .int .i64 0, .int .i64 t351, .int .i64 t352] (by rfl) rfl rfl (by (try simp only [List.map_toArray, List.map_cons, List.map_nil]); first | done | rfl | (simp only [List.length_drop, List.length_take]; rfl) | (simp only [ByteArray.size_extract, Nat.min_self]; done) | (simp only [ByteArray.size_extract, Nat.min_self]; rfl)) ?_
        with_reducible refine (vitrineref09_tells.calls k1 a1 0 t351 t352 t353 _ A26.out).mono ?_
        rintro e w29 ⟨rfl, hb⟩
        refine ⟨_, rfl, ?_⟩
        have n0_ := Aside0.mk (Kd.R_below (oz HO_11) hb)
        have n1_ := Aside0.mk (below_step (hz HB) hb)
        clear HO_11
        clear HB
        have HO_11 := n0_
        have HB := n1_
        clear n0_ n1_
        (try clear hb)
        refine hK.out _ _ trivial (fun hHeld => ?_)
        clear hK K
        refine norm_ (a' := ?_) ?_ ?_
        rotate_left
        ·show Act.put _ (some 53) _ = _
         simp only [Act.put, zq1, zq2, zq3, i64_w, i32_w]
         rfl
        refine zp 16 54 (bm 21 131071) ?_
        refine zp 17 55 (bm 21 262143) ?_
        refine one_ (i := 18) (N := some 56) (bm 21 524287) rfl rfl (one_of HT_.out (by kernel_rfl)) (by decide) (fun K hK => ?_)
        refine value_ (w1 := ?_) (v := ?_) (by rfl) rfl ?_ ?_
        rotate_left 2
        ·go_simp
         constructor
         ·rfl
         ·rfl
        refine hK.out _ _ trivial (fun hHeld => ?_)
        clear hK K
        refine norm_ (a' := ?_) ?_ ?_
        rotate_left
        ·show Act.put _ (some 56) _ = _
         simp only [Act.put, zq1, zq2, zq3, i64_w, i32_w]
         rfl
        refine one_ (i := 19) (N := some 57) (bm 21 1048575) rfl rfl (one_of HT_.out (by kernel_rfl)) (by decide) (fun K hK => ?_)
        refine Kd.R_append_step (Kd.int .u8) (w0 := w) w.heap.size (by rfl) (.tmp 38) (.tmp 56) 45 5 (.int .u8 0) 1 rfl Try.underlying45 info5 rfl (by decide) (by omega) u11 x11_1 ((wrap64 ((wrap64 (bt a2 x12_1)) + t353)) % 256) [.int .u8 ((wrap64 ((wrap64 (bt a2 x12_1)) + t353)) % 256)] (fun _ => True) (fun _ => False) rfl rfl ?aP (fun _ hk => hk.elim) ?aF ?aO ?aB ?aS ?aL ?_
        (case aP => exact rfl)
        (case aB => exact (hz HB))
        (case aF => exact (fun _ _ => trivial))
        (case aO => exact (oz HO_11))
        (case aS => exact (below_size (hz HB)))
        (case aL => have := LMc27.out; omega)
        intro v355 w30 ho hb hg hat
        rw [← Ny354.out] at ho
        have n0_ := Aside0.mk (hb)
        have n1_ := Aside0.mk (ho)
        clear HB
        clear HO_11
        have HB := n0_
        have HO356 := n1_
        clear n0_ n1_
        clear ho hb hg hat
        refine hK.out _ _ trivial (fun hHeld => ?_)
        clear hK K
        refine norm_ (a' := ?_) ?_ ?_
        rotate_left
        ·show Act.put _ (some 57) _ = _
         simp only [Act.put, zq1, zq2, zq3, i64_w, i32_w]
         rfl
        refine zp 20 11 (bm 21 2097151) ?_
        refine done_ (done_of HT_.out (by kernel_rfl)) ?_
        try go_wp2
        go_roundg k1
        case measure => have := HK1.out; omega
        case rel => exact ⟨(y354), (wrap64 (x12_1 + 1)), (by first | rfl | (simp; done) | (simp [*]; done)), H', ⟨by have := HK1.out; omega⟩, ⟨oz HO356⟩, ⟨hz HB⟩⟩
       ·rw [if_neg c27] at H
        exact absurd H (by simp)
      ·rw [if_neg c22] at H
       exact absurd H (by simp)
    ·rw [if_neg c7] at H
     have c7b0 : decide (x12_1 < (a2.size : Int)) = false := decide_eq_false c7
     clear c7
     simp only [Option.some.injEq, Prod.mk.injEq] at H
     obtain ⟨rfl, rfl⟩ := H
     have hcv31 := own_string (P := Try.prog) Try.underlying45 Try.underlying5 Try.underlying9 (Kd.own_of_R HO_11.out)
     go_wp2
     go_ret2
     exact ⟨by first | rfl | (simp [errW_none, errW_some] <;> rfl) | (simp [*, errW_none, errW_some] <;> rfl), by repeat (first | (with_reducible first | exact HB.out | apply below_alloc | apply pw_below_drewN | apply below_drew1) | exact HB.out)⟩
 ·rw [if_neg c6] at H
  have c6b0 : (t343 == 0) = false := beq_eq_false_iff_ne.mpr c6
  have c6b1 : (t343 != 0) = true := bne_iff_ne.mpr c6
  simp only [Option.some.injEq, Prod.mk.injEq] at H
  obtain ⟨rfl, rfl⟩ := H
  go_enter Try.func27, Try.ntmps27
  go_wp2_with (first | ((with_reducible refine gate_callee (f := 45) rfl ?_); refine gz 18 Try.func45 #[.int .i64 a0, .int .i64 a1, .string a2, .string a3] ?_; (with_reducible refine (vitrineref09_wrong.calls k a0 a1 a2 a3 t343 _ A5.out).mono ?_); rintro e w' ⟨rfl, ⟨nd, rfl⟩⟩; refine ⟨_, rfl, ?_⟩))
  go_ret2
  exact ⟨by first | rfl | (simp [errW_none, errW_some] <;> rfl) | (simp [*, errW_none, errW_some] <;> rfl), by repeat (first | (with_reducible first | exact HB.out | apply below_alloc | apply pw_below_drewN | apply below_drew1) | exact HB.out)⟩

end Go.Proofs.Ytejljcglbkjgkaa.PL12

namespace Go.Proofs.Ytejljcglbkjgkaa.PL12
open Go.RowKit Go.Proofs.YtejljcglbkjgkaaW.PrintWords Go.Proofs.YtejljcglbkjgkaaW.PrintLast Go.Proofs.YtejljcglbkjgkaaW.PrintMore
attribute [local go_sem] max2_int min2_int max_two min_two max_three min_three max_four min_four   -- for this text's walks alone
set_option linter.unusedVariables false
set_option linter.unusedSimpArgs false

def vitrineref12_Bytes.f (k : Nat) (a0_0 : Int) (a0_1 : Int) (a0_2 : Int) (a0_3 : Int) (a0_4 : Int) : Option (Int) := (vitrineref08_Samples.f k a0_3).bind fun t358 => (some (mx 1 (wrap64 (Int.tdiv (wrap64 (a0_2 * t358)) 8))))
set_option maxHeartbeats 40000000 in
set_option maxRecDepth 100000 in
theorem vitrineref12_Bytes.calls (k : Nat) (a0_0 : Int) (a0_1 : Int) (a0_2 : Int) (a0_3 : Int) (a0_4 : Int) (r : Int) (w : World) (h : vitrineref12_Bytes.f k a0_0 a0_1 a0_2 a0_3 a0_4 = some r) :
  Calls Try.prog 28 #[.agg #[.int .i64 a0_0, .int .i64 a0_1, .int .i64 a0_2, .int .i64 a0_3, .int .i64 a0_4]] w fun e w' => e = .returned (.int .i64 r) ∧ Below w.heap.size w w' := by
 have hu29 := Try.underlying29
 have HB := Aside0.mk (Below.refl w.heap.size w)
 have H : ((vitrineref08_Samples.f k a0_3).bind fun t358 => (some (mx 1 (wrap64 (Int.tdiv (wrap64 (a0_2 * t358)) 8))))) = some r := h
 clear h
 replace H := Option.bind_eq_some_iff.mp H
 obtain ⟨t358, A20, H⟩ := H
 replace H : (some (mx 1 (wrap64 (Int.tdiv (wrap64 (a0_2 * t358)) 8)))) = some r := H
 have A2 := Aside0.mk A20
 clear A20
 obtain ⟨ji3, hji3⟩ : ∃ j_ : Int, (mx 1 (wrap64 (Int.tdiv (wrap64 (a0_2 * t358)) 8))) = j_ := ⟨_, rfl⟩
 replace H : (some ji3) = some r := by first | (rw [hji3] at H; exact H) | (simp only [hji3] at H ⊢; exact H)
 (try rw [hji3] at A2)
 (try (have hji3l : 1 ≤ ji3 := by (rw [← hji3]; unfold mx; (repeat' split) <;> omega)))
 (try (have hji3m : 0 ≤ ji3 := by omega))
 have hji3_ : (if 1 < (wrap64 (Int.tdiv (wrap64 (a0_2 * t358)) 8)) then (wrap64 (Int.tdiv (wrap64 (a0_2 * t358)) 8)) else 1) = ji3 := hji3
 obtain rfl := Option.some.inj H
 go_enter Try.func28, Try.ntmps28
 go_wp2_with (first | ((with_reducible refine gate_dst (N := 1) rfl ?_); refine box_event ?hg (N := 1) ?hd (cs := #[.int .i64 a0_0, .int .i64 a0_1, .int .i64 a0_2, .int .i64 a0_3, .int .i64 a0_4]) (t := 29) ?hr ?_; (case hd => rfl); (case hg => rfl); (case hr => first | (go_simp; done) | (go_simp; rfl)); intro gb357 hg w4 hbox hb; have n0_ := Aside0.mk (below_step (hz HB) hb); have n1_ := Aside0.mk (hbox); have n2_ := Aside0.mk ((by rw [hg]; exact (below_size (hz HB)) : w.heap.size ≤ gb357)); have n3_ := Aside0.mk ((by rw [hg]; exact (below_size (hz HB)) : w.heap.size ≤ gb357)); clear HB; have HB := n0_; have BK357 := n1_; have GW357 := n2_; have GE357 := n3_; clear n0_ n1_ n2_ n3_; clear hb hbox hg; have hcz5_0 : w4.cell? ⟨gb357, 0, none⟩ = some (.int .i64 a0_0) := (blk_cell BK357.out 0).trans rfl; have hcz5_1 : w4.cell? ⟨gb357, 1, none⟩ = some (.int .i64 a0_1) := (blk_cell BK357.out 1).trans rfl; have hcz5_2 : w4.cell? ⟨gb357, 2, none⟩ = some (.int .i64 a0_2) := (blk_cell BK357.out 2).trans rfl; have hcz5_3 : w4.cell? ⟨gb357, 3, none⟩ = some (.int .i64 a0_3) := (blk_cell BK357.out 3).trans rfl; have hcz5_4 : w4.cell? ⟨gb357, 4, none⟩ = some (.int .i64 a0_4) := (blk_cell BK357.out 4).trans rfl; have hfz5_0 := blk_frozen BK357.out 0; have hfz5_1 := blk_frozen BK357.out 1; have hfz5_2 := blk_frozen BK357.out 2; have hfz5_3 := blk_frozen BK357.out 3; have hfz5_4 := blk_frozen BK357.out 4) | (go_at_call 16; (with_reducible refine (vitrineref08_Samples.calls k a0_3 t358 _ A2.out).mono ?_); rintro e w' ⟨rfl, ⟨nd, rfl⟩⟩; (try first | exact ⟨rfl, _, World.drewN_drewN _ _ _⟩ | exact ⟨rfl, _, Eq.trans (World.drewN_drewN _ _ _) (congrArg (World.drewN _) (Nat.add_assoc _ _ _))⟩)))
 repeat (go_quiet (first | ((with_reducible refine gate_dst (N := 1) rfl ?_); refine box_event ?hg (N := 1) ?hd (cs := #[.int .i64 a0_0, .int .i64 a0_1, .int .i64 a0_2, .int .i64 a0_3, .int .i64 a0_4]) (t := 29) ?hr ?_; (case hd => rfl); (case hg => rfl); (case hr => first | (go_simp; done) | (go_simp; rfl)); intro gb357 hg w4 hbox hb; have n0_ := Aside0.mk (below_step (hz HB) hb); have n1_ := Aside0.mk (hbox); have n2_ := Aside0.mk ((by rw [hg]; exact (below_size (hz HB)) : w.heap.size ≤ gb357)); have n3_ := Aside0.mk ((by rw [hg]; exact (below_size (hz HB)) : w.heap.size ≤ gb357)); clear HB; have HB := n0_; have BK357 := n1_; have GW357 := n2_; have GE357 := n3_; clear n0_ n1_ n2_ n3_; clear hb hbox hg; have hcz5_0 : w4.cell? ⟨gb357, 0, none⟩ = some (.int .i64 a0_0) := (blk_cell BK357.out 0).trans rfl; have hcz5_1 : w4.cell? ⟨gb357, 1, none⟩ = some (.int .i64 a0_1) := (blk_cell BK357.out 1).trans rfl; have hcz5_2 : w4.cell? ⟨gb357, 2, none⟩ = some (.int .i64 a0_2) := (blk_cell BK357.out 2).trans rfl; have hcz5_3 : w4.cell? ⟨gb357, 3, none⟩ = some (.int .i64 a0_3) := (blk_cell BK357.out 3).trans rfl; have hcz5_4 : w4.cell? ⟨gb357, 4, none⟩ = some (.int .i64 a0_4) := (blk_cell BK357.out 4).trans rfl; have hfz5_0 := blk_frozen BK357.out 0; have hfz5_1 := blk_frozen BK357.out 1; have hfz5_2 := blk_frozen BK357.out 2; have hfz5_3 := blk_frozen BK357.out 3; have hfz5_4 := blk_frozen BK357.out 4) | (go_at_call 16; (with_reducible refine (vitrineref08_Samples.calls k a0_3 t358 _ A2.out).mono ?_); rintro e w' ⟨rfl, ⟨nd, rfl⟩⟩; (try first | exact ⟨rfl, _, World.drewN_drewN _ _ _⟩ | exact ⟨rfl, _, Eq.trans (World.drewN_drewN _ _ _) (congrArg (World.drewN _) (Nat.add_assoc _ _ _))⟩))); try go_wp2_with (first | ((with_reducible refine gate_dst (N := 1) rfl ?_); refine box_event ?hg (N := 1) ?hd (cs := #[.int .i64 a0_0, .int .i64 a0_1, .int .i64 a0_2, .int .i64 a0_3, .int .i64 a0_4]) (t := 29) ?hr ?_; (case hd => rfl); (case hg => rfl); (case hr => first | (go_simp; done) | (go_simp; rfl)); intro gb357 hg w4 hbox hb; have n0_ := Aside0.mk (below_step (hz HB) hb); have n1_ := Aside0.mk (hbox); have n2_ := Aside0.mk ((by rw [hg]; exact (below_size (hz HB)) : w.heap.size ≤ gb357)); have n3_ := Aside0.mk ((by rw [hg]; exact (below_size (hz HB)) : w.heap.size ≤ gb357)); clear HB; have HB := n0_; have BK357 := n1_; have GW357 := n2_; have GE357 := n3_; clear n0_ n1_ n2_ n3_; clear hb hbox hg; have hcz5_0 : w4.cell? ⟨gb357, 0, none⟩ = some (.int .i64 a0_0) := (blk_cell BK357.out 0).trans rfl; have hcz5_1 : w4.cell? ⟨gb357, 1, none⟩ = some (.int .i64 a0_1) := (blk_cell BK357.out 1).trans rfl; have hcz5_2 : w4.cell? ⟨gb357, 2, none⟩ = some (.int .i64 a0_2) := (blk_cell BK357.out 2).trans rfl; have hcz5_3 : w4.cell? ⟨gb357, 3, none⟩ = some (.int .i64 a0_3) := (blk_cell BK357.out 3).trans rfl; have hcz5_4 : w4.cell? ⟨gb357, 4, none⟩ = some (.int .i64 a0_4) := (blk_cell BK357.out 4).trans rfl; have hfz5_0 := blk_frozen BK357.out 0; have hfz5_1 := blk_frozen BK357.out 1; have hfz5_2 := blk_frozen BK357.out 2; have hfz5_3 := blk_frozen BK357.out 3; have hfz5_4 := blk_frozen BK357.out 4) | (go_at_call 16; (with_reducible refine (vitrineref08_Samples.calls k a0_3 t358 _ A2.out).mono ?_); rintro e w' ⟨rfl, ⟨nd, rfl⟩⟩; (try first | exact ⟨rfl, _, World.drewN_drewN _ _ _⟩ | exact ⟨rfl, _, Eq.trans (World.drewN_drewN _ _ _) (congrArg (World.drewN _) (Nat.add_assoc _ _ _))⟩))))
 go_ret
 exact ⟨by first | rfl | (simp [errW_none, errW_some] <;> rfl) | (simp only [← hji3]; first | rfl | (simp [errW_none, errW_some] <;> rfl)) | (simp [*, errW_none, errW_some] <;> rfl), by repeat (first | (with_reducible first | exact HB.out | apply below_alloc | apply pw_below_drewN | apply below_drew1 | refine below_set ?_ GE357.out) | exact HB.out)⟩

def vitrineref11_Depth.f (a0 : Int) : Option (Bool) := if a0 = 1 then (some true) else (if a0 = 2 then (some true) else (if a0 = 4 then (some true) else (if a0 = 8 then (some true) else (some (a0 == 16)))))
set_option maxHeartbeats 40000000 in
set_option maxRecDepth 100000 in
theorem vitrineref11_Depth.calls (a0 : Int) (r : Bool) (w : World) (h : vitrineref11_Depth.f a0 = some r) :
  Calls Try.prog 48 #[.int .i64 a0] w fun e w' => e = .returned (.bool r) ∧ Drawn0 w w' := by
 have H : (if a0 = 1 then (some true) else (if a0 = 2 then (some true) else (if a0 = 4 then (some true) else (if a0 = 8 then (some true) else (some (a0 == 16)))))) = some r := h
 clear h
 by_cases c2 : a0 = 1
 ·rw [if_pos c2] at H
  have c2b0 : (a0 == 1) = true := beq_iff_eq.mpr c2
  have c2b1 : (a0 != 1) = false := bne_eq_false_iff_eq.mpr c2
  clear c2
  obtain rfl := Option.some.inj H
  go_enter Try.func48, Try.ntmps48
  go_wp2
  go_ret
  exact ⟨by first | rfl | (simp; done) | (simp [*]; done), by repeat (first | exact Drawn0.refl _ | apply Drawn0.step)⟩
 ·rw [if_neg c2] at H
  have c2b0 : (a0 == 1) = false := beq_eq_false_iff_ne.mpr c2
  have c2b1 : (a0 != 1) = true := bne_iff_ne.mpr c2
  by_cases c3 : a0 = 2
  ·rw [if_pos c3] at H
   have c3b0 : (a0 == 2) = true := beq_iff_eq.mpr c3
   have c3b1 : (a0 != 2) = false := bne_eq_false_iff_eq.mpr c3
   clear c3
   obtain rfl := Option.some.inj H
   go_enter Try.func48, Try.ntmps48
   go_wp2
   go_ret
   exact ⟨by first | rfl | (simp; done) | (simp [*]; done), by repeat (first | exact Drawn0.refl _ | apply Drawn0.step)⟩
  ·rw [if_neg c3] at H
   have c3b0 : (a0 == 2) = false := beq_eq_false_iff_ne.mpr c3
   have c3b1 : (a0 != 2) = true := bne_iff_ne.mpr c3
   by_cases c4 : a0 = 4
   ·rw [if_pos c4] at H
    have c4b0 : (a0 == 4) = true := beq_iff_eq.mpr c4
    have c4b1 : (a0 != 4) = false := bne_eq_false_iff_eq.mpr c4
    clear c4
    obtain rfl := Option.some.inj H
    go_enter Try.func48, Try.ntmps48
    go_wp2
    go_ret
    exact ⟨by first | rfl | (simp; done) | (simp [*]; done), by repeat (first | exact Drawn0.refl _ | apply Drawn0.step)⟩
   ·rw [if_neg c4] at H
    have c4b0 : (a0 == 4) = false := beq_eq_false_iff_ne.mpr c4
    have c4b1 : (a0 != 4) = true := bne_iff_ne.mpr c4
    by_cases c5 : a0 = 8
    ·rw [if_pos c5] at H
     have c5b0 : (a0 == 8) = true := beq_iff_eq.mpr c5
     have c5b1 : (a0 != 8) = false := bne_eq_false_iff_eq.mpr c5
     clear c5
     obtain rfl := Option.some.inj H
     go_enter Try.func48, Try.ntmps48
     go_wp2
     go_ret
     exact ⟨by first | rfl | (simp; done) | (simp [*]; done), by repeat (first | exact Drawn0.refl _ | apply Drawn0.step)⟩
    ·rw [if_neg c5] at H
     have c5b0 : (a0 == 8) = false := beq_eq_false_iff_ne.mpr c5
     have c5b1 : (a0 != 8) = true := bne_iff_ne.mpr c5
     obtain rfl := Option.some.inj H
     go_enter Try.func48, Try.ntmps48
     go_wp2
     go_ret
     exact ⟨by first | rfl | (simp; done) | (simp [*]; done), by repeat (first | exact Drawn0.refl _ | apply Drawn0.step)⟩

end Go.Proofs.Ytejljcglbkjgkaa.PL12
