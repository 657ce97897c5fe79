/- Printed for this claim by a program of this session over the kit's print program: the Go functions as Lean functions, and proofs that the calls come to these answers. No conditions. -/
import Derived.Test.YtejljcglbkjgkaaTH
import Derived.Test.YtejljcglbkjgkaaTPL12x3
import Derived.Test.YtejljcglbkjgkaaTPL12x20
import Derived.Test.YtejljcglbkjgkaaTPL12x25
namespace Go.Proofs.Ytejljcglbkjgkaa.PL12
open Go.RowKit Go.Proofs.YtejljcglbkjgkaaW.PrintWords Go.Proofs.YtejljcglbkjgkaaW.PrintLast Go.Proofs.YtejljcglbkjgkaaW.PrintMore
attribute [local go_sem] max2_int min2_int max_two min_two max_three min_three max_four min_four   -- for this text's walks alone
set_option linter.unusedVariables false
set_option linter.unusedSimpArgs false

mutual
def vitrineref10_Passes.j0 : Nat → List (S53) → Int → Int → Int → Int → Int → Option ((List (S53)))
 | 0, _, _, _, _, _, _ => none
 | k + 1, x3, x313000, x313001, x313002, x313003, x313004 => vitrineref10_Passes.l0 k x3 ([] : List (S53)) 0 x313000 x313001 x313002 x313003 x313004
def vitrineref10_Passes.l0 : Nat → List (S53) → List (S53) → Int → Int → Int → Int → Int → Int → Option ((List (S53)))
 | 0, _, _, _, _, _, _, _, _ => none
 | k + 1, x3, x4, x5, x313000, x313001, x313002, x313003, x313004 => if x5 < (x3.length : Int) then (if 0 ≤ x5 then ((vitrineref10_many.f k x313000 ((rd_T53 x3 x5).f0) ((rd_T53 x3 x5).f2)).bind fun t322 => ((vitrineref10_many.f k x313001 ((rd_T53 x3 x5).f1) ((rd_T53 x3 x5).f3)).bind fun t323 => (if t322 > 0 then (if t323 > 0 then (if x4.length < 2932031007402 then (vitrineref10_Passes.l0 k x3 (x4 ++ [(⟨(rd_T53 x3 x5).f0, (rd_T53 x3 x5).f1, (rd_T53 x3 x5).f2, (rd_T53 x3 x5).f3, t322, t323⟩ : S53)]) (wrap64 (x5 + 1)) x313000 x313001 x313002 x313003 x313004) else (none)) else (vitrineref10_Passes.l0 k x3 x4 (wrap64 (x5 + 1)) x313000 x313001 x313002 x313003 x313004)) else (vitrineref10_Passes.l0 k x3 x4 (wrap64 (x5 + 1)) x313000 x313001 x313002 x313003 x313004)))) else (none)) else (some x4)
end
def vitrineref10_Passes.f (k : Nat) (a0_0 : Int) (a0_1 : Int) (a0_2 : Int) (a0_3 : Int) (a0_4 : Int) : Option ((List (S53))) := (vitrineref08_Right.f k a0_0 a0_1 a0_2 a0_3 a0_4).bind fun t313 => (if t313 = 0 then (if a0_4 = 1 then (vitrineref10_Passes.j0 k (([(⟨0, 0, 8, 8, 0, 0⟩ : S53), (⟨4, 0, 8, 8, 0, 0⟩ : S53), (⟨0, 4, 4, 8, 0, 0⟩ : S53), (⟨2, 0, 4, 4, 0, 0⟩ : S53), (⟨0, 2, 2, 4, 0, 0⟩ : S53), (⟨1, 0, 2, 2, 0, 0⟩ : S53), (⟨0, 1, 1, 2, 0, 0⟩ : S53)] : List (S53))) a0_0 a0_1 a0_2 a0_3 a0_4) else (vitrineref10_Passes.j0 k (([(⟨0, 0, 1, 1, 0, 0⟩ : S53)] : List (S53))) a0_0 a0_1 a0_2 a0_3 a0_4)) else (some ([] : List (S53))))
set_option maxHeartbeats 40000000 in
set_option maxRecDepth 100000 in
theorem vitrineref10_Passes.calls (k : Nat) (a0_0 : Int) (a0_1 : Int) (a0_2 : Int) (a0_3 : Int) (a0_4 : Int) (r : List (S53)) (w : World) (h : vitrineref10_Passes.f k a0_0 a0_1 a0_2 a0_3 a0_4 = some r) :
  Calls Try.prog 25 #[.agg #[.int .i64 a0_0, .int .i64 a0_1, .int .i64 a0_2, .int .i64 a0_3, .int .i64 a0_4]] w fun e w' => ∃ v0_ : Value, e = .returned (v0_) ∧ Kd.R k53 53 w' w.heap.size (fun _ => True) v0_ r ∧ Below w.heap.size w w' := by
 have hu29 := Try.underlying29
 have hu53 := Try.underlying53
 have HB := Aside0.mk (Below.refl w.heap.size w)
 have H : ((vitrineref08_Right.f k a0_0 a0_1 a0_2 a0_3 a0_4).bind fun t313 => (if t313 = 0 then (if a0_4 = 1 then (vitrineref10_Passes.j0 k (([(⟨0, 0, 8, 8, 0, 0⟩ : S53), (⟨4, 0, 8, 8, 0, 0⟩ : S53), (⟨0, 4, 4, 8, 0, 0⟩ : S53), (⟨2, 0, 4, 4, 0, 0⟩ : S53), (⟨0, 2, 2, 4, 0, 0⟩ : S53), (⟨1, 0, 2, 2, 0, 0⟩ : S53), (⟨0, 1, 1, 2, 0, 0⟩ : S53)] : List (S53))) a0_0 a0_1 a0_2 a0_3 a0_4) else (vitrineref10_Passes.j0 k (([(⟨0, 0, 1, 1, 0, 0⟩ : S53)] : List (S53))) a0_0 a0_1 a0_2 a0_3 a0_4)) else (some ([] : List (S53))))) = some r := h
 clear h
 replace H := Option.bind_eq_some_iff.mp H
 obtain ⟨t313, A20, H⟩ := H
 replace H : (if t313 = 0 then (if a0_4 = 1 then (vitrineref10_Passes.j0 k (([(⟨0, 0, 8, 8, 0, 0⟩ : S53), (⟨4, 0, 8, 8, 0, 0⟩ : S53), (⟨0, 4, 4, 8, 0, 0⟩ : S53), (⟨2, 0, 4, 4, 0, 0⟩ : S53), (⟨0, 2, 2, 4, 0, 0⟩ : S53), (⟨1, 0, 2, 2, 0, 0⟩ : S53), (⟨0, 1, 1, 2, 0, 0⟩ : S53)] : List (S53))) a0_0 a0_1 a0_2 a0_3 a0_4) else (vitrineref10_Passes.j0 k (([(⟨0, 0, 1, 1, 0, 0⟩ : S53)] : List (S53))) a0_0 a0_1 a0_2 a0_3 a0_4)) else (some ([] : List (S53)))) = some r := H
 have A2 := Aside0.mk A20
 clear A20
 by_cases c3 : t313 = 0
 ·rw [if_pos c3] at H
  have c3b0 : (t313 == 0) = true := beq_iff_eq.mpr c3
  have c3b1 : (t313 != 0) = false := bne_eq_false_iff_eq.mpr c3
  clear c3
  obtain ⟨y314, hy314⟩ : ∃ y_ : List (S53), y_ = (([(⟨0, 0, 1, 1, 0, 0⟩ : S53)] : List (S53))) := ⟨_, rfl⟩
  replace H : (if a0_4 = 1 then (vitrineref10_Passes.j0 k (([(⟨0, 0, 8, 8, 0, 0⟩ : S53), (⟨4, 0, 8, 8, 0, 0⟩ : S53), (⟨0, 4, 4, 8, 0, 0⟩ : S53), (⟨2, 0, 4, 4, 0, 0⟩ : S53), (⟨0, 2, 2, 4, 0, 0⟩ : S53), (⟨1, 0, 2, 2, 0, 0⟩ : S53), (⟨0, 1, 1, 2, 0, 0⟩ : S53)] : List (S53))) a0_0 a0_1 a0_2 a0_3 a0_4) else (vitrineref10_Passes.j0 k y314 a0_0 a0_1 a0_2 a0_3 a0_4)) = some r := by first | (rw [hy314]; with_reducible exact H) | (have H2_ := (Option.bind_some _ _).symm.trans H; rw [hy314]; with_reducible exact H2_) | (have H2_ := (Option.bind_some _ _).symm.trans H; with_reducible exact H2_) | with_reducible exact H | (rw [hy314]; exact H) | exact H
  have Ny314 := Aside0.mk hy314
  clear hy314
  have HC4 := Aside0.mk H
  clear H
  go_enter Try.func25, Try.ntmps25
  go_upto_if 14 with (first | ((with_reducible refine gate_dst (N := 1) rfl ?_); refine box_event ?hg (N := 1) ?hd (cs := #[.int .i64 a0_0, .int .i64 a0_1, .int .i64 a0_2, .int .i64 a0_3, .int .i64 a0_4]) (t := 29) ?hr ?_; (case hd => rfl); (case hg => rfl); (case hr => first | (go_simp; done) | (go_simp; rfl)); intro gb312 hg w5 hbox hb; have n0_ := Aside0.mk (below_step (by repeat (first | (with_reducible first | exact HB.out | apply below_alloc | apply pw_below_drewN | apply below_drew1) | exact HB.out)) hb); have n1_ := Aside0.mk (hbox); have n2_ := Aside0.mk ((by rw [hg]; exact (below_size (by repeat (first | (with_reducible first | exact HB.out | apply below_alloc | apply pw_below_drewN | apply below_drew1) | exact HB.out))) : w.heap.size ≤ gb312)); have n3_ := Aside0.mk ((by rw [hg]; exact (below_size (by repeat (first | (with_reducible first | exact HB.out | apply below_alloc | apply pw_below_drewN | apply below_drew1) | exact HB.out))) : w.heap.size ≤ gb312)); clear HB; have HB := n0_; have BK312 := n1_; have GW312 := n2_; have GE312 := n3_; clear n0_ n1_ n2_ n3_; clear hb hbox hg; have hcz6_0 : w5.cell? ⟨gb312, 0, none⟩ = some (.int .i64 a0_0) := (blk_cell BK312.out 0).trans rfl; have hcz6_1 : w5.cell? ⟨gb312, 1, none⟩ = some (.int .i64 a0_1) := (blk_cell BK312.out 1).trans rfl; have hcz6_2 : w5.cell? ⟨gb312, 2, none⟩ = some (.int .i64 a0_2) := (blk_cell BK312.out 2).trans rfl; have hcz6_3 : w5.cell? ⟨gb312, 3, none⟩ = some (.int .i64 a0_3) := (blk_cell BK312.out 3).trans rfl; have hcz6_4 : w5.cell? ⟨gb312, 4, none⟩ = some (.int .i64 a0_4) := (blk_cell BK312.out 4).trans rfl; have hfz6_0 := blk_frozen BK312.out 0; have hfz6_1 := blk_frozen BK312.out 1; have hfz6_2 := blk_frozen BK312.out 2; have hfz6_3 := blk_frozen BK312.out 3; have hfz6_4 := blk_frozen BK312.out 4) | ((with_reducible refine gate_callee (f := 15) rfl ?_); refine goesL_ (some 8) rfl rfl Try.func15 (by kernel_rfl) rfl #[.agg #[.int .i64 a0_0, .int .i64 a0_1, .int .i64 a0_2, .int .i64 a0_3, .int .i64 a0_4]] rfl (by (try simp only [List.map_toArray, List.map_cons, List.map_nil]); first | done | rfl | (simp only [List.length_drop, List.length_take]; rfl) | (simp only [ByteArray.size_extract, Nat.min_self]; done) | (simp only [ByteArray.size_extract, Nat.min_self]; rfl)) ?_; (with_reducible refine (vitrineref08_Right.calls k a0_0 a0_1 a0_2 a0_3 a0_4 t313 _ A2.out).mono ?_); rintro e w7 ⟨rfl, hb⟩; refine ⟨_, rfl, ?_⟩; have n0_ := Aside0.mk (blk_below (g := gb312) (o := .cells #[.int .i64 a0_0, .int .i64 a0_1, .int .i64 a0_2, .int .i64 a0_3, .int .i64 a0_4] 29 (0, 0)) (by (with_reducible repeat (first | refine blk_drewN ?_ _ | refine blk_drew ?_ | refine blk_alloc ?_ _)); exact BK312.out) hb); have n1_ := Aside0.mk (below_step (by repeat (first | (with_reducible first | exact HB.out | apply below_alloc | apply pw_below_drewN | apply below_drew1 | refine below_set ?_ GE312.out) | exact HB.out)) hb); clear BK312; clear HB; have BK312 := n0_; have HB := n1_; clear n0_ n1_; (try clear hb); (try clear hb2); (try clear hk); (try clear hi)) | ((with_reducible refine gate_dst (N := 11) rfl ?_); refine Kd.R_lit k53 _ 53 ?hg (N := 11) ?hd (xs := ([(⟨0, 0, 1, 1, 0, 0⟩ : S53)] : List (S53))) (inner := [.int .i64 0, .int .i64 0, .int .i64 1, .int .i64 1, .int .i64 0, .int .i64 0]) (ok := fun _ => True) (okp := fun _ => True) ?hr ?hp (fun _ hk => hk) trivial (Below.refl _ _) (Nat.le_refl _) (by simp) ?_; (case hd => rfl); (case hg => rfl); (case hr => first | (go_simp; done) | (go_simp; rfl)); (case hp => exact (Reps.c6 (show Kd.M k53 _ _ _ (⟨0, 0, 1, 1, 0, 0⟩ : S53) [.int .i64 0, .int .i64 0, .int .i64 1, .int .i64 1, .int .i64 0, .int .i64 0] from (k53_mkM _ _ _ (⟨0, 0, 1, 1, 0, 0⟩ : S53) )) (Reps.none _ _))); intro v315 w8 ho9 hb hg_ hnew_; clear hg_ hnew_; (first | rw [← Ny314.out] at ho9 | (simp only [Int.reduceToNat] at ho9; rw [← Ny314.out] at ho9)); have n0_ := Aside0.mk (Kd.R_lower ho9 (below_size (by repeat (first | (with_reducible first | exact HB.out | apply below_alloc | apply pw_below_drewN | apply below_drew1 | refine below_set ?_ GE312.out) | exact HB.out)))); have n1_ := Aside0.mk (blk_below (g := gb312) (o := .cells #[.int .i64 a0_0, .int .i64 a0_1, .int .i64 a0_2, .int .i64 a0_3, .int .i64 a0_4] 29 (0, 0)) (by (with_reducible repeat (first | refine blk_drewN ?_ _ | refine blk_drew ?_ | refine blk_alloc ?_ _)); exact BK312.out) hb); have n2_ := Aside0.mk (below_step (by repeat (first | (with_reducible first | exact HB.out | apply below_alloc | apply pw_below_drewN | apply below_drew1 | refine below_set ?_ GE312.out) | exact HB.out)) hb); clear BK312; clear HB; have HO316 := n0_; have BK312 := n1_; have HB := n2_; clear n0_ n1_ n2_; clear hb ho9; have hcz10_0 : w8.cell? ⟨gb312, 0, none⟩ = some (.int .i64 a0_0) := (blk_cell BK312.out 0).trans rfl; have hcz10_1 : w8.cell? ⟨gb312, 1, none⟩ = some (.int .i64 a0_1) := (blk_cell BK312.out 1).trans rfl; have hcz10_2 : w8.cell? ⟨gb312, 2, none⟩ = some (.int .i64 a0_2) := (blk_cell BK312.out 2).trans rfl; have hcz10_3 : w8.cell? ⟨gb312, 3, none⟩ = some (.int .i64 a0_3) := (blk_cell BK312.out 3).trans rfl; have hcz10_4 : w8.cell? ⟨gb312, 4, none⟩ = some (.int .i64 a0_4) := (blk_cell BK312.out 4).trans rfl; have hfz10_0 := blk_frozen BK312.out 0; have hfz10_1 := blk_frozen BK312.out 1; have hfz10_2 := blk_frozen BK312.out 2; have hfz10_3 := blk_frozen BK312.out 3; have hfz10_4 := blk_frozen BK312.out 4))
  (try simp only [Act.put, List.setIfInBounds_toArray, List.set_cons_zero, List.set_cons_succ])
  go_cut [3] (fun v3 wc => ∃ (kq : Nat) (x3_3 : List (S53)), Aside0 (vitrineref10_Passes.j0 kq x3_3 a0_0 a0_1 a0_2 a0_3 a0_4 = some r) ∧ Aside0 (kq ≤ k) ∧ Aside0 (Kd.R k53 53 wc w.heap.size (fun _ => True) v3 x3_3) ∧ Aside0 (wc.heap[gb312]? = some (.cells #[.int .i64 a0_0, .int .i64 a0_1, .int .i64 a0_2, .int .i64 a0_3, .int .i64 a0_4] 29 (0, 0))) ∧ Aside0 (Below w.heap.size w wc))
  case first =>
   have H := HC4.out
   clear HC4
   by_cases c11 : a0_4 = 1
   ·rw [if_pos c11] at H
    have c11b0 : (a0_4 == 1) = true := beq_iff_eq.mpr c11
    have c11b1 : (a0_4 != 1) = false := bne_eq_false_iff_eq.mpr c11
    clear c11
    (first | rw [c11b0] | (simp only [i64_w, i32_w]; rw [c11b0]) | skip)
    obtain ⟨y317, hy317⟩ : ∃ y_ : List (S53), y_ = (([(⟨0, 0, 8, 8, 0, 0⟩ : S53), (⟨4, 0, 8, 8, 0, 0⟩ : S53), (⟨0, 4, 4, 8, 0, 0⟩ : S53), (⟨2, 0, 4, 4, 0, 0⟩ : S53), (⟨0, 2, 2, 4, 0, 0⟩ : S53), (⟨1, 0, 2, 2, 0, 0⟩ : S53), (⟨0, 1, 1, 2, 0, 0⟩ : S53)] : List (S53))) := ⟨_, rfl⟩
    replace H : (vitrineref10_Passes.j0 k y317 a0_0 a0_1 a0_2 a0_3 a0_4) = some r := by first | (rw [hy317]; with_reducible exact H) | (have H2_ := (Option.bind_some _ _).symm.trans H; rw [hy317]; with_reducible exact H2_) | (have H2_ := (Option.bind_some _ _).symm.trans H; with_reducible exact H2_) | with_reducible exact H | (rw [hy317]; exact H) | exact H
    have Ny317 := Aside0.mk hy317
    clear hy317
    have H' := Aside0.mk H
    clear H
    go_wp2_with (first | ((with_reducible refine gate_dst (N := 22) rfl ?_); refine Kd.R_lit k53 _ 53 ?hg (N := 22) ?hd (xs := ([(⟨0, 0, 8, 8, 0, 0⟩ : S53), (⟨4, 0, 8, 8, 0, 0⟩ : S53), (⟨0, 4, 4, 8, 0, 0⟩ : S53), (⟨2, 0, 4, 4, 0, 0⟩ : S53), (⟨0, 2, 2, 4, 0, 0⟩ : S53), (⟨1, 0, 2, 2, 0, 0⟩ : S53), (⟨0, 1, 1, 2, 0, 0⟩ : S53)] : List (S53))) (inner := [.int .i64 0, .int .i64 0, .int .i64 8, .int .i64 8, .int .i64 0, .int .i64 0, .int .i64 4, .int .i64 0, .int .i64 8, .int .i64 8, .int .i64 0, .int .i64 0, .int .i64 0, .int .i64 4, .int .i64 4, .int .i64 8, .int .i64 0, .int .i64 0, .int .i64 2, .int .i64 0, .int .i64 4, .int .i64 4, .int .i64 0, .int .i64 0, .int .i64 0, .int .i64 2, .int .i64 2, .int .i64 4, .int .i64 0, .int .i64 0, .int .i64 1, .int .i64 0, .int .i64 2, .int .i64 2, .int .i64 0, .int .i64 0, .int .i64 0, .int .i64 1, .int .i64 1, .int .i64 2, .int .i64 0, .int .i64 0]) (ok := fun _ => True) (okp := fun _ => True) ?hr ?hp (fun _ hk => hk) trivial (Below.refl _ _) (Nat.le_refl _) (by simp) ?_; (case hd => rfl); (case hg => rfl); (case hr => first | (go_simp; done) | (go_simp; rfl)); (case hp => exact (Reps.c6 (show Kd.M k53 _ _ _ (⟨0, 0, 8, 8, 0, 0⟩ : S53) [.int .i64 0, .int .i64 0, .int .i64 8, .int .i64 8, .int .i64 0, .int .i64 0] from (k53_mkM _ _ _ (⟨0, 0, 8, 8, 0, 0⟩ : S53) )) (Reps.c6 (show Kd.M k53 _ _ _ (⟨4, 0, 8, 8, 0, 0⟩ : S53) [.int .i64 4, .int .i64 0, .int .i64 8, .int .i64 8, .int .i64 0, .int .i64 0] from (k53_mkM _ _ _ (⟨4, 0, 8, 8, 0, 0⟩ : S53) )) (Reps.c6 (show Kd.M k53 _ _ _ (⟨0, 4, 4, 8, 0, 0⟩ : S53) [.int .i64 0, .int .i64 4, .int .i64 4, .int .i64 8, .int .i64 0, .int .i64 0] from (k53_mkM _ _ _ (⟨0, 4, 4, 8, 0, 0⟩ : S53) )) (Reps.c6 (show Kd.M k53 _ _ _ (⟨2, 0, 4, 4, 0, 0⟩ : S53) [.int .i64 2, .int .i64 0, .int .i64 4, .int .i64 4, .int .i64 0, .int .i64 0] from (k53_mkM _ _ _ (⟨2, 0, 4, 4, 0, 0⟩ : S53) )) (Reps.c6 (show Kd.M k53 _ _ _ (⟨0, 2, 2, 4, 0, 0⟩ : S53) [.int .i64 0, .int .i64 2, .int .i64 2, .int .i64 4, .int .i64 0, .int .i64 0] from (k53_mkM _ _ _ (⟨0, 2, 2, 4, 0, 0⟩ : S53) )) (Reps.c6 (show Kd.M k53 _ _ _ (⟨1, 0, 2, 2, 0, 0⟩ : S53) [.int .i64 1, .int .i64 0, .int .i64 2, .int .i64 2, .int .i64 0, .int .i64 0] from (k53_mkM _ _ _ (⟨1, 0, 2, 2, 0, 0⟩ : S53) )) (Reps.c6 (show Kd.M k53 _ _ _ (⟨0, 1, 1, 2, 0, 0⟩ : S53) [.int .i64 0, .int .i64 1, .int .i64 1, .int .i64 2, .int .i64 0, .int .i64 0] from (k53_mkM _ _ _ (⟨0, 1, 1, 2, 0, 0⟩ : S53) )) (Reps.none _ _))))))))); intro v318 w12 ho13 hb hg_ hnew_; clear hg_ hnew_; (first | rw [← Ny317.out] at ho13 | (simp only [Int.reduceToNat] at ho13; rw [← Ny317.out] at ho13)); have n0_ := Aside0.mk (Kd.R_elder' (by (with_reducible repeat (first | apply Kd.R_alloc | apply Kd.R_drewN | apply Kd.R_drew)); exact HO316.out) (Kd.R_base ho13) hb); have n1_ := Aside0.mk (Kd.R_lower (Kd.R_new' ho13 (Kd.R_lt (by (with_reducible repeat (first | apply Kd.R_alloc | apply Kd.R_drewN | apply Kd.R_drew)); exact HO316.out))) (below_size (by repeat (first | (with_reducible first | exact HB.out | apply below_alloc | apply pw_below_drewN | apply below_drew1 | refine below_set ?_ GE312.out) | exact HB.out)))); have n2_ := Aside0.mk (blk_below (g := gb312) (o := .cells #[.int .i64 a0_0, .int .i64 a0_1, .int .i64 a0_2, .int .i64 a0_3, .int .i64 a0_4] 29 (0, 0)) (by (with_reducible repeat (first | refine blk_drewN ?_ _ | refine blk_drew ?_ | refine blk_alloc ?_ _)); exact BK312.out) hb); have n3_ := Aside0.mk (below_step (by repeat (first | (with_reducible first | exact HB.out | apply below_alloc | apply pw_below_drewN | apply below_drew1 | refine below_set ?_ GE312.out) | exact HB.out)) hb); clear HO316; clear BK312; clear HB; have HO316 := n0_; have HO319 := n1_; have BK312 := n2_; have HB := n3_; clear n0_ n1_ n2_ n3_; clear hb ho13))
    go_meet
    case rel => exact ⟨_, (y317), H', ⟨by first | omega | exact Nat.le_refl _⟩, ⟨by (with_reducible repeat (first | apply Kd.R_alloc | apply Kd.R_drewN | apply Kd.R_drew)); exact Kd.R_mono HO319.out (fun _ hk => trivial)⟩, ⟨by (with_reducible repeat (first | refine blk_drewN ?_ _ | refine blk_drew ?_ | refine blk_alloc ?_ _)); exact BK312.out⟩, ⟨by repeat (first | (with_reducible first | exact HB.out | apply below_alloc | apply pw_below_drewN | apply below_drew1 | refine below_set ?_ GE312.out) | exact HB.out)⟩⟩
   ·rw [if_neg c11] at H
    have c11b0 : (a0_4 == 1) = false := beq_eq_false_iff_ne.mpr c11
    have c11b1 : (a0_4 != 1) = true := bne_iff_ne.mpr c11
    (first | rw [c11b0] | (simp only [i64_w, i32_w]; rw [c11b0]) | skip)
    have H' := Aside0.mk H
    clear H
    go_wp2
    go_meet
    case rel => exact ⟨_, (y314), H', ⟨by first | omega | exact Nat.le_refl _⟩, ⟨by (with_reducible repeat (first | apply Kd.R_alloc | apply Kd.R_drewN | apply Kd.R_drew)); exact HO316.out⟩, ⟨by (with_reducible repeat (first | refine blk_drewN ?_ _ | refine blk_drew ?_ | refine blk_alloc ?_ _)); exact BK312.out⟩, ⟨by repeat (first | (with_reducible first | exact HB.out | apply below_alloc | apply pw_below_drewN | apply below_drew1 | refine below_set ?_ GE312.out) | exact HB.out)⟩⟩
  case rest =>
   clear HC4
   try clear c1
   try clear c2
   try clear p2
   try clear c3
   try clear c3b0
   try clear c3b1
   try clear c6
   try clear c11
   try clear c11b0
   try clear c11b1
   try clear hcz10_0
   try clear hcz10_1
   try clear hcz10_2
   try clear hcz10_3
   try clear hcz10_4
   try clear hcz6_0
   try clear hcz6_1
   try clear hcz6_2
   try clear hcz6_3
   try clear hcz6_4
   try clear hfz10_0
   try clear hfz10_1
   try clear hfz10_2
   try clear hfz10_3
   try clear hfz10_4
   try clear hfz6_0
   try clear hfz6_1
   try clear hfz6_2
   try clear hfz6_3
   try clear hfz6_4
   obtain ⟨kq, x3_3, HA, HJ3, HO_3, BK312, HB⟩ := hcut
   cases kq with
   | zero => exact absurd HA.out (by simp [vitrineref10_Passes.j0])
   | succ kj3 =>
    have H := HA.out
    clear HA
    simp only [vitrineref10_Passes.j0] at H
    have H' := Aside0.mk H
    clear H
    go_wp2
    go_loopg [4, 5] kj3 (fun kq v4 v5 w' => ∃ (x4_2 : List (S53)) (x5_2 : Int), v5 = .int .i64 x5_2 ∧ Aside0 (vitrineref10_Passes.l0 kq x3_3 x4_2 x5_2 a0_0 a0_1 a0_2 a0_3 a0_4 = some r) ∧ Aside0 (kq ≤ kj3) ∧ Aside0 (Kd.R k53 53 w' w.heap.size (fun k_ => some k_ ≠ (v4 : Value).ownBlock) u3 x3_3) ∧ Aside0 (Kd.R k53 53 w' w.heap.size (fun k_ => some k_ ≠ (u3 : Value).ownBlock) v4 x4_2) ∧ Aside0 (w'.heap[gb312]? = some (.cells #[.int .i64 a0_0, .int .i64 a0_1, .int .i64 a0_2, .int .i64 a0_3, .int .i64 a0_4] 29 (0, 0))) ∧ Aside0 (Below w.heap.size w w'))
    case atStart => exact ⟨(([] : List (S53))), (0), (by first | rfl | (simp; done) | (simp [*]; done)), H', ⟨Nat.le_refl _⟩, ⟨by (with_reducible repeat (first | apply Kd.R_alloc | apply Kd.R_drewN | apply Kd.R_drew)); exact Kd.R_mono HO_3.out (fun _ hk => (by simp [Value.ownBlock]))⟩, ⟨by first | exact Kd.R_nil _ _ _ _ _ | exact Kd.N_nil _ _ _ _ _ | exact Kd.V_nil _ _ _ _ _ | exact Kd.Q_nil _ _ _ _ _ | exact Kd.S_nil _ _ _ _ _⟩, ⟨by (with_reducible repeat (first | refine blk_drewN ?_ _ | refine blk_drew ?_ | refine blk_alloc ?_ _)); exact BK312.out⟩, ⟨by repeat (first | (with_reducible first | exact HB.out | apply below_alloc | apply pw_below_drewN | apply below_drew1 | refine below_set ?_ GE312.out) | exact HB.out)⟩⟩
    case round =>
     clear H'
     try clear c1
     try clear c2
     try clear p2
     try clear c3
     try clear c3b0
     try clear c3b1
     try clear c6
     try clear c11
     try clear c11b0
     try clear c11b1
     try clear hcz10_0
     try clear hcz10_1
     try clear hcz10_2
     try clear hcz10_3
     try clear hcz10_4
     try clear hcz6_0
     try clear hcz6_1
     try clear hcz6_2
     try clear hcz6_3
     try clear hcz6_4
     try clear hfz10_0
     try clear hfz10_1
     try clear hfz10_2
     try clear hfz10_3
     try clear hfz10_4
     try clear hfz6_0
     try clear hfz6_1
     try clear hfz6_2
     try clear hfz6_3
     try clear hfz6_4
     try clear p2
     obtain ⟨x4_2, x5_2, rfl, HA, HK2, HO_3, HO_4, BK312, HB⟩ := hrel
     cases gk with
     | zero => exact absurd HA.out (by simp [vitrineref10_Passes.l0])
     | succ k2 =>
      have H := HA.out
      clear HA
      simp only [vitrineref10_Passes.l0] at H
      by_cases c14 : x5_2 < (x3_3.length : Int)
      ·rw [if_pos c14] at H
       have c14b0 : decide (x5_2 < (x3_3.length : Int)) = true := decide_eq_true c14
       clear c14
       by_cases c15 : 0 ≤ x5_2
       ·rw [if_pos c15] at H
        have c15b0 : decide (0 ≤ x5_2) = true := decide_eq_true c15
        clear c15
        replace H := Option.bind_eq_some_iff.mp H
        obtain ⟨t322, A160, H⟩ := H
        replace H : ((vitrineref10_many.f k2 a0_1 ((rd_T53 x3_3 x5_2).f1) ((rd_T53 x3_3 x5_2).f3)).bind fun t323 => (if t322 > 0 then (if t323 > 0 then (if x4_2.length < 2932031007402 then (vitrineref10_Passes.l0 k2 x3_3 (x4_2 ++ [(⟨(rd_T53 x3_3 x5_2).f0, (rd_T53 x3_3 x5_2).f1, (rd_T53 x3_3 x5_2).f2, (rd_T53 x3_3 x5_2).f3, t322, t323⟩ : S53)]) (wrap64 (x5_2 + 1)) a0_0 a0_1 a0_2 a0_3 a0_4) else (none)) else (vitrineref10_Passes.l0 k2 x3_3 x4_2 (wrap64 (x5_2 + 1)) a0_0 a0_1 a0_2 a0_3 a0_4)) else (vitrineref10_Passes.l0 k2 x3_3 x4_2 (wrap64 (x5_2 + 1)) a0_0 a0_1 a0_2 a0_3 a0_4))) = some r := H
        have A16 := Aside0.mk A160
        clear A160
        replace H := Option.bind_eq_some_iff.mp H
        obtain ⟨t323, A170, H⟩ := H
        replace H : (if t322 > 0 then (if t323 > 0 then (if x4_2.length < 2932031007402 then (vitrineref10_Passes.l0 k2 x3_3 (x4_2 ++ [(⟨(rd_T53 x3_3 x5_2).f0, (rd_T53 x3_3 x5_2).f1, (rd_T53 x3_3 x5_2).f2, (rd_T53 x3_3 x5_2).f3, t322, t323⟩ : S53)]) (wrap64 (x5_2 + 1)) a0_0 a0_1 a0_2 a0_3 a0_4) else (none)) else (vitrineref10_Passes.l0 k2 x3_3 x4_2 (wrap64 (x5_2 + 1)) a0_0 a0_1 a0_2 a0_3 a0_4)) else (vitrineref10_Passes.l0 k2 x3_3 x4_2 (wrap64 (x5_2 + 1)) a0_0 a0_1 a0_2 a0_3 a0_4)) = some r := H
        have A17 := Aside0.mk A170
        clear A170
        by_cases c18 : t322 > 0
        ·rw [if_pos c18] at H
         have c18b0 : decide (0 < t322) = true := decide_eq_true c18
         clear c18
         by_cases c19 : t323 > 0
         ·rw [if_pos c19] at H
          have c19b0 : decide (0 < t323) = true := decide_eq_true c19
          clear c19
          by_cases c20 : x4_2.length < 2932031007402
          ·rw [if_pos c20] at H
           have LMc20 := Aside0.mk c20
           clear c20
           obtain ⟨y324, hy324⟩ : ∃ y_ : List (S53), y_ = (x4_2 ++ [(⟨(rd_T53 x3_3 x5_2).f0, (rd_T53 x3_3 x5_2).f1, (rd_T53 x3_3 x5_2).f2, (rd_T53 x3_3 x5_2).f3, t322, t323⟩ : S53)]) := ⟨_, rfl⟩
           replace H : (vitrineref10_Passes.l0 k2 x3_3 y324 (wrap64 (x5_2 + 1)) a0_0 a0_1 a0_2 a0_3 a0_4) = some r := by first | (rw [hy324]; with_reducible exact H) | (have H2_ := (Option.bind_some _ _).symm.trans H; rw [hy324]; with_reducible exact H2_) | (have H2_ := (Option.bind_some _ _).symm.trans H; with_reducible exact H2_) | with_reducible exact H | (rw [hy324]; exact H) | exact H
           have Ny324 := Aside0.mk hy324
           clear hy324
           have H' := Aside0.mk H
           clear H
           obtain ⟨Ao21, co21, eo21⟩ := Kd.R_slice HO_3.out
           subst eo21
           have p320 : 0 ≤ (x5_2 : Int) := of_decide_eq_true (by first | (with_reducible assumption) | assumption)
           have q320 : x5_2 < (x3_3.length : Int) := of_decide_eq_true (by first | (with_reducible assumption) | assumption)
           obtain ⟨ad320, e320, hx320_0, hx320_1, hx320_2, hx320_3, hx320_4, hx320_5⟩ := at_T53 (Kd.R_reads' HO_3.out).2.2 x5_2 p320 q320
           cases e320
           replace p320 := eq_true p320
           replace q320 := eq_true q320
           go_upto_region 11 with (fail)
           obtain ⟨gb321, hg, w22, hw_, hbox, hb⟩ : ∃ g_ : Nat, g_ = (by exact wr : World).heap.size ∧ ∃ w_ : World, w_ = wr.alloc (.cells #[.int .i64 ((rd_T53 x3_3 x5_2).f0), .int .i64 ((rd_T53 x3_3 x5_2).f1), .int .i64 ((rd_T53 x3_3 x5_2).f2), .int .i64 ((rd_T53 x3_3 x5_2).f3), .int .i64 ((rd_T53 x3_3 x5_2).f4), .int .i64 ((rd_T53 x3_3 x5_2).f5)] 53) ∧ w_.heap[g_]? = some (.cells #[.int .i64 ((rd_T53 x3_3 x5_2).f0), .int .i64 ((rd_T53 x3_3 x5_2).f1), .int .i64 ((rd_T53 x3_3 x5_2).f2), .int .i64 ((rd_T53 x3_3 x5_2).f3), .int .i64 ((rd_T53 x3_3 x5_2).f4), .int .i64 ((rd_T53 x3_3 x5_2).f5)] 53 (0, 0)) ∧ Below wr.heap.size wr w_ := ⟨_, rfl, _, rfl, Array.getElem?_push_size, below_alloc (Below.refl _ _) _⟩
           rw [← hg, ← hw_]
           clear hw_
           have n0_ := Aside0.mk (Kd.R_below (Kd.R_elderB (by (with_reducible repeat (first | apply Kd.R_alloc | apply Kd.R_drewN | apply Kd.R_drew)); exact HO_3.out) gb321 (Nat.le_of_eq hg.symm)) hb)
           have n1_ := Aside0.mk (Kd.R_below (Kd.R_elderB (by (with_reducible repeat (first | apply Kd.R_alloc | apply Kd.R_drewN | apply Kd.R_drew)); exact HO_4.out) gb321 (Nat.le_of_eq hg.symm)) hb)
           have n2_ := Aside0.mk (blk_below (g := gb312) (o := .cells #[.int .i64 a0_0, .int .i64 a0_1, .int .i64 a0_2, .int .i64 a0_3, .int .i64 a0_4] 29 (0, 0)) (by (with_reducible repeat (first | refine blk_drewN ?_ _ | refine blk_drew ?_ | refine blk_alloc ?_ _)); exact BK312.out) hb)
           have n3_ := Aside0.mk (below_step (by repeat (first | (with_reducible first | exact HB.out | apply below_alloc | apply pw_below_drewN | apply below_drew1 | refine below_set ?_ GE312.out) | exact HB.out)) hb)
           have n4_ := Aside0.mk (hbox)
           have n5_ := Aside0.mk ((by rw [hg]; exact (below_size (by repeat (first | (with_reducible first | exact HB.out | apply below_alloc | apply pw_below_drewN | apply below_drew1 | refine below_set ?_ GE312.out) | exact HB.out))) : w.heap.size ≤ gb321))
           have n6_ := Aside0.mk ((by rw [hg]; exact (below_size (by repeat (first | (with_reducible first | exact HB.out | apply below_alloc | apply pw_below_drewN | apply below_drew1 | refine below_set ?_ GE312.out) | exact HB.out))) : w.heap.size ≤ gb321))
           have n7_ := Aside0.mk ((by rw [hg]; exact Nat.ne_of_lt (blk_lt (g := gb312) (o := .cells #[.int .i64 a0_0, .int .i64 a0_1, .int .i64 a0_2, .int .i64 a0_3, .int .i64 a0_4] 29 (0, 0)) (by (with_reducible repeat (first | refine blk_drewN ?_ _ | refine blk_drew ?_ | refine blk_alloc ?_ _)); exact BK312.out)) : gb312 ≠ gb321))
           have n8_ := Aside0.mk ((by rw [hg]; exact Nat.ne_of_gt (blk_lt (g := gb312) (o := .cells #[.int .i64 a0_0, .int .i64 a0_1, .int .i64 a0_2, .int .i64 a0_3, .int .i64 a0_4] 29 (0, 0)) (by (with_reducible repeat (first | refine blk_drewN ?_ _ | refine blk_drew ?_ | refine blk_alloc ?_ _)); exact BK312.out)) : gb321 ≠ gb312))
           clear HO_3
           clear HO_4
           clear BK312
           clear HB
           have HO_3 := n0_
           have HO_4 := n1_
           have BK312 := n2_
           have HB := n3_
           have BK321 := n4_
           have GW321 := n5_
           have GE321 := n6_
           have NB312_321 := n7_
           have NB321_312 := n8_
           clear n0_ n1_ n2_ n3_ n4_ n5_ n6_ n7_ n8_
           clear hb hbox hg
           have hnb23 := NB321_312.out
           have hnc23 := NB312_321.out
           have hcz24_0 : w22.cell? ⟨gb321, 0, none⟩ = some (.int .i64 ((rd_T53 x3_3 x5_2).f0)) := (blk_cell BK321.out 0).trans rfl
           have hcz24_1 : w22.cell? ⟨gb321, 1, none⟩ = some (.int .i64 ((rd_T53 x3_3 x5_2).f1)) := (blk_cell BK321.out 1).trans rfl
           have hcz24_2 : w22.cell? ⟨gb321, 2, none⟩ = some (.int .i64 ((rd_T53 x3_3 x5_2).f2)) := (blk_cell BK321.out 2).trans rfl
           have hcz24_3 : w22.cell? ⟨gb321, 3, none⟩ = some (.int .i64 ((rd_T53 x3_3 x5_2).f3)) := (blk_cell BK321.out 3).trans rfl
           have hcz24_4 : w22.cell? ⟨gb321, 4, none⟩ = some (.int .i64 ((rd_T53 x3_3 x5_2).f4)) := (blk_cell BK321.out 4).trans rfl
           have hcz24_5 : w22.cell? ⟨gb321, 5, none⟩ = some (.int .i64 ((rd_T53 x3_3 x5_2).f5)) := (blk_cell BK321.out 5).trans rfl
           have hfz24_0 := blk_frozen BK321.out 0
           have hfz24_1 := blk_frozen BK321.out 1
           have hfz24_2 := blk_frozen BK321.out 2
           have hfz24_3 := blk_frozen BK321.out 3
           have hfz24_4 := blk_frozen BK321.out 4
           have hfz24_5 := blk_frozen BK321.out 5
           have hcz25_0 : w22.cell? ⟨gb312, 0, none⟩ = some (.int .i64 a0_0) := (blk_cell BK312.out 0).trans rfl
           have hcz25_1 : w22.cell? ⟨gb312, 1, none⟩ = some (.int .i64 a0_1) := (blk_cell BK312.out 1).trans rfl
           have hcz25_2 : w22.cell? ⟨gb312, 2, none⟩ = some (.int .i64 a0_2) := (blk_cell BK312.out 2).trans rfl
           have hcz25_3 : w22.cell? ⟨gb312, 3, none⟩ = some (.int .i64 a0_3) := (blk_cell BK312.out 3).trans rfl
           have hcz25_4 : w22.cell? ⟨gb312, 4, none⟩ = some (.int .i64 a0_4) := (blk_cell BK312.out 4).trans rfl
           have hfz25_0 := blk_frozen BK312.out 0
           have hfz25_1 := blk_frozen BK312.out 1
           have hfz25_2 := blk_frozen BK312.out 2
           have hfz25_3 := blk_frozen BK312.out 3
           have hfz25_4 := blk_frozen BK312.out 4
           go_wp2_with (first | ((with_reducible refine gate_callee (f := 44) rfl ?_); refine goesL_ (some 39) rfl rfl Try.func44 (by kernel_rfl) rfl #[.int .i64 a0_0, .int .i64 ((rd_T53 x3_3 x5_2).f0), .int .i64 ((rd_T53 x3_3 x5_2).f2)] rfl (by (try simp only [List.map_toArray, List.map_cons, List.map_nil]); first | done | rfl | (simp only [List.length_drop, List.length_take]; rfl) | (simp only [ByteArray.size_extract, Nat.min_self]; done) | (simp only [ByteArray.size_extract, Nat.min_self]; rfl)) ?_; (with_reducible refine (vitrineref10_many.calls k2 a0_0 ((rd_T53 x3_3 x5_2).f0) ((rd_T53 x3_3 x5_2).f2) t322 _ A16.out).mono ?_); rintro e w' ⟨rfl, ⟨nd, rfl⟩⟩; refine ⟨_, rfl, ?_⟩) | ((with_reducible refine gate_callee (f := 44) rfl ?_); refine goesL_ (some 47) rfl rfl Try.func44 (by kernel_rfl) rfl #[.int .i64 a0_1, .int .i64 ((rd_T53 x3_3 x5_2).f1), .int .i64 ((rd_T53 x3_3 x5_2).f3)] rfl (by (try simp only [List.map_toArray, List.map_cons, List.map_nil]); first | done | rfl | (simp only [List.length_drop, List.length_take]; rfl) | (simp only [ByteArray.size_extract, Nat.min_self]; done) | (simp only [ByteArray.size_extract, Nat.min_self]; rfl)) ?_; (with_reducible refine (vitrineref10_many.calls k2 a0_1 ((rd_T53 x3_3 x5_2).f1) ((rd_T53 x3_3 x5_2).f3) t323 _ A17.out).mono ?_); rintro e w' ⟨rfl, ⟨nd, rfl⟩⟩; refine ⟨_, rfl, ?_⟩) | ((with_reducible refine gate_builtin (b := .append) (xs := #[.tmp 57, .tmp 59]) rfl ?_); at_builtin; refine Kd.R_append k53 (w0 := w) w.heap.size rfl (.tmp 57) (.tmp 59) 50 53 (.agg #[(.int .i64 0), (.int .i64 0), (.int .i64 0), (.int .i64 0), (.int .i64 0), (.int .i64 0)]) 48 rfl Try.underlying50 info53 rfl (by decide) (by omega) u4 x4_2 (⟨(rd_T53 x3_3 x5_2).f0, (rd_T53 x3_3 x5_2).f1, (rd_T53 x3_3 x5_2).f2, (rd_T53 x3_3 x5_2).f3, t322, t323⟩ : S53) [.int .i64 ((rd_T53 x3_3 x5_2).f0), .int .i64 ((rd_T53 x3_3 x5_2).f1), .int .i64 ((rd_T53 x3_3 x5_2).f2), .int .i64 ((rd_T53 x3_3 x5_2).f3), .int .i64 t322, .int .i64 t323] (fun k_ => some k_ ≠ (.slice (some ad320) x3_3.length co21 : Value).ownBlock ∧ k_ ≠ gb321) (fun _ => False) rfl (by first | (go_simp; done) | (go_simp; rfl)) ?aP (fun _ hk => hk.elim) ?aF ?aO ?aB ?aS ?aL ?_; (case aP => exact k53_mkM _ _ _ (⟨(rd_T53 x3_3 x5_2).f0, (rd_T53 x3_3 x5_2).f1, (rd_T53 x3_3 x5_2).f2, (rd_T53 x3_3 x5_2).f3, t322, t323⟩ : S53)); (case aB => exact (by repeat (first | (with_reducible first | exact HB.out | apply below_alloc | apply pw_below_drewN | apply below_drew1 | refine below_set ?_ GE312.out | refine below_set ?_ GE321.out) | exact HB.out))); (case aF => exact (fun k_ hk => ⟨Kd.fresh' (Kd.R_lt (by (with_reducible repeat (first | apply Kd.R_alloc | apply Kd.R_drewN | apply Kd.R_drew)); exact (Kd.R_mono (Kd.R_far (p := ⟨gb321, 5, none⟩) (Kd.R_far (p := ⟨gb321, 4, none⟩) (Kd.R_mono HO_3.out (fun k_ hk => (⟨hk, hk.2⟩ : _ ∧ k_ ≠ gb321))) (fun _ hk => hk.2) (.int .i64 t322)) (fun _ hk => hk.2) (.int .i64 t323)) (fun _ h_ => h_.1)))) k_ hk, Kd.freshB (g := gb321) (o := .cells #[.int .i64 ((rd_T53 x3_3 x5_2).f0), .int .i64 ((rd_T53 x3_3 x5_2).f1), .int .i64 ((rd_T53 x3_3 x5_2).f2), .int .i64 ((rd_T53 x3_3 x5_2).f3), .int .i64 t322, .int .i64 t323] 53 (0, 0)) (by (with_reducible repeat (first | refine blk_drewN ?_ _ | refine blk_drew ?_ | refine blk_alloc ?_ _)); refine blk_put (cs := #[.int .i64 ((rd_T53 x3_3 x5_2).f0), .int .i64 ((rd_T53 x3_3 x5_2).f1), .int .i64 ((rd_T53 x3_3 x5_2).f2), .int .i64 ((rd_T53 x3_3 x5_2).f3), .int .i64 t322, .int .i64 ((rd_T53 x3_3 x5_2).f5)]) ?_ 5 _ rfl; (with_reducible repeat (first | refine blk_drewN ?_ _ | refine blk_drew ?_ | refine blk_alloc ?_ _)); refine blk_put (cs := #[.int .i64 ((rd_T53 x3_3 x5_2).f0), .int .i64 ((rd_T53 x3_3 x5_2).f1), .int .i64 ((rd_T53 x3_3 x5_2).f2), .int .i64 ((rd_T53 x3_3 x5_2).f3), .int .i64 ((rd_T53 x3_3 x5_2).f4), .int .i64 ((rd_T53 x3_3 x5_2).f5)]) ?_ 4 _ rfl; (with_reducible repeat (first | refine blk_drewN ?_ _ | refine blk_drew ?_ | refine blk_alloc ?_ _)); exact BK321.out) k_ hk⟩)); (case aO => exact (by (with_reducible repeat (first | apply Kd.R_alloc | apply Kd.R_drewN | apply Kd.R_drew)); exact Kd.R_mono (Kd.R_far (p := ⟨gb321, 5, none⟩) (Kd.R_far (p := ⟨gb321, 4, none⟩) (Kd.R_mono HO_4.out (fun k_ hk => (⟨hk, hk.2⟩ : _ ∧ k_ ≠ gb321))) (fun _ hk => hk.2) (.int .i64 t322)) (fun _ hk => hk.2) (.int .i64 t323)) (fun _ hk => ⟨hk.1.1, hk.1.2⟩))); (case aS => exact (below_size (by repeat (first | (with_reducible first | exact HB.out | apply below_alloc | apply pw_below_drewN | apply below_drew1 | refine below_set ?_ GE312.out | refine below_set ?_ GE321.out) | exact HB.out)))); (case aL => have := LMc20.out; omega); intro v325 w26 ho hb hg hat; rw [← Ny324.out] at ho; have n0_ := Aside0.mk (Kd.R_after (ok := (fun k_ => k_ ≠ gb321)) (by (with_reducible repeat (first | apply Kd.R_alloc | apply Kd.R_drewN | apply Kd.R_drew)); exact Kd.R_mono (Kd.R_far (p := ⟨gb321, 5, none⟩) (Kd.R_far (p := ⟨gb321, 4, none⟩) (Kd.R_mono HO_3.out (fun k_ hk => (⟨hk, hk.2⟩ : _ ∧ k_ ≠ gb321))) (fun _ hk => hk.2) (.int .i64 t322)) (fun _ hk => hk.2) (.int .i64 t323)) (fun _ hk => ⟨hk.1.2, hk.1.1⟩)) hg hat); have n1_ := Aside0.mk (blk_grown (g := gb312) (o := .cells #[.int .i64 a0_0, .int .i64 a0_1, .int .i64 a0_2, .int .i64 a0_3, .int .i64 a0_4] 29 (0, 0)) (by (with_reducible repeat (first | refine blk_drewN ?_ _ | refine blk_drew ?_ | refine blk_alloc ?_ _)); refine blk_far ?_ NB312_321.out _; (with_reducible repeat (first | refine blk_drewN ?_ _ | refine blk_drew ?_ | refine blk_alloc ?_ _)); refine blk_far ?_ NB312_321.out _; (with_reducible repeat (first | refine blk_drewN ?_ _ | refine blk_drew ?_ | refine blk_alloc ?_ _)); exact BK312.out) hg (Kd.R_ne HO_4.out BK312.out (by decide))); have n2_ := Aside0.mk (blk_grown (g := gb321) (o := .cells #[.int .i64 ((rd_T53 x3_3 x5_2).f0), .int .i64 ((rd_T53 x3_3 x5_2).f1), .int .i64 ((rd_T53 x3_3 x5_2).f2), .int .i64 ((rd_T53 x3_3 x5_2).f3), .int .i64 t322, .int .i64 t323] 53 (0, 0)) (by (with_reducible repeat (first | refine blk_drewN ?_ _ | refine blk_drew ?_ | refine blk_alloc ?_ _)); refine blk_put (cs := #[.int .i64 ((rd_T53 x3_3 x5_2).f0), .int .i64 ((rd_T53 x3_3 x5_2).f1), .int .i64 ((rd_T53 x3_3 x5_2).f2), .int .i64 ((rd_T53 x3_3 x5_2).f3), .int .i64 t322, .int .i64 ((rd_T53 x3_3 x5_2).f5)]) ?_ 5 _ rfl; (with_reducible repeat (first | refine blk_drewN ?_ _ | refine blk_drew ?_ | refine blk_alloc ?_ _)); refine blk_put (cs := #[.int .i64 ((rd_T53 x3_3 x5_2).f0), .int .i64 ((rd_T53 x3_3 x5_2).f1), .int .i64 ((rd_T53 x3_3 x5_2).f2), .int .i64 ((rd_T53 x3_3 x5_2).f3), .int .i64 ((rd_T53 x3_3 x5_2).f4), .int .i64 ((rd_T53 x3_3 x5_2).f5)]) ?_ 4 _ rfl; (with_reducible repeat (first | refine blk_drewN ?_ _ | refine blk_drew ?_ | refine blk_alloc ?_ _)); exact BK321.out) hg (Kd.R_away HO_4.out (fun _ hk => hk.2))); have n3_ := Aside0.mk (hb); have n4_ := Aside0.mk (ho); clear HO_3; clear BK312; clear BK321; clear HB; clear HO_4; have HO_3 := n0_; have BK312 := n1_; have BK321 := n2_; have HB := n3_; have HO326 := n4_; clear n0_ n1_ n2_ n3_ n4_; clear ho hb hg hat))
           go_roundg k2
           case measure => have := HJ3.out; have := HK2.out; omega
           case rel => exact ⟨(y324), (wrap64 (x5_2 + 1)), (by first | rfl | (simp; done) | (simp [*]; done)), H', ⟨by have := HJ3.out; have := HK2.out; omega⟩, ⟨by (with_reducible repeat (first | apply Kd.R_alloc | apply Kd.R_drewN | apply Kd.R_drew)); exact Kd.R_mono HO_3.out (fun _ hk => hk.2)⟩, ⟨by (with_reducible repeat (first | apply Kd.R_alloc | apply Kd.R_drewN | apply Kd.R_drew)); exact Kd.R_mono HO326.out (fun _ hk => hk.1)⟩, ⟨by (with_reducible repeat (first | refine blk_drewN ?_ _ | refine blk_drew ?_ | refine blk_alloc ?_ _)); exact BK312.out⟩, ⟨by repeat (first | (with_reducible first | exact HB.out | apply below_alloc | apply pw_below_drewN | apply below_drew1 | refine below_set ?_ GE312.out | refine below_set ?_ GE321.out) | exact HB.out)⟩⟩
          ·rw [if_neg c20] at H
           exact absurd H (by simp)
         ·rw [if_neg c19] at H
          have c19b0 : decide (0 < t323) = false := decide_eq_false c19
          clear c19
          have H' := Aside0.mk H
          clear H
          obtain ⟨Ao27, co27, eo27⟩ := Kd.R_slice HO_3.out
          subst eo27
          have p320 : 0 ≤ (x5_2 : Int) := of_decide_eq_true (by first | (with_reducible assumption) | assumption)
          have q320 : x5_2 < (x3_3.length : Int) := of_decide_eq_true (by first | (with_reducible assumption) | assumption)
          obtain ⟨ad320, e320, hx320_0, hx320_1, hx320_2, hx320_3, hx320_4, hx320_5⟩ := at_T53 (Kd.R_reads' HO_3.out).2.2 x5_2 p320 q320
          cases e320
          replace p320 := eq_true p320
          replace q320 := eq_true q320
          go_upto_region 11 with (fail)
          obtain ⟨gb321, hg, w28, hw_, hbox, hb⟩ : ∃ g_ : Nat, g_ = (by exact wr : World).heap.size ∧ ∃ w_ : World, w_ = wr.alloc (.cells #[.int .i64 ((rd_T53 x3_3 x5_2).f0), .int .i64 ((rd_T53 x3_3 x5_2).f1), .int .i64 ((rd_T53 x3_3 x5_2).f2), .int .i64 ((rd_T53 x3_3 x5_2).f3), .int .i64 ((rd_T53 x3_3 x5_2).f4), .int .i64 ((rd_T53 x3_3 x5_2).f5)] 53) ∧ w_.heap[g_]? = some (.cells #[.int .i64 ((rd_T53 x3_3 x5_2).f0), .int .i64 ((rd_T53 x3_3 x5_2).f1), .int .i64 ((rd_T53 x3_3 x5_2).f2), .int .i64 ((rd_T53 x3_3 x5_2).f3), .int .i64 ((rd_T53 x3_3 x5_2).f4), .int .i64 ((rd_T53 x3_3 x5_2).f5)] 53 (0, 0)) ∧ Below wr.heap.size wr w_ := ⟨_, rfl, _, rfl, Array.getElem?_push_size, below_alloc (Below.refl _ _) _⟩
          rw [← hg, ← hw_]
          clear hw_
          have n0_ := Aside0.mk (Kd.R_below (Kd.R_elderB (by (with_reducible repeat (first | apply Kd.R_alloc | apply Kd.R_drewN | apply Kd.R_drew)); exact HO_3.out) gb321 (Nat.le_of_eq hg.symm)) hb)
          have n1_ := Aside0.mk (Kd.R_below (Kd.R_elderB (by (with_reducible repeat (first | apply Kd.R_alloc | apply Kd.R_drewN | apply Kd.R_drew)); exact HO_4.out) gb321 (Nat.le_of_eq hg.symm)) hb)
          have n2_ := Aside0.mk (blk_below (g := gb312) (o := .cells #[.int .i64 a0_0, .int .i64 a0_1, .int .i64 a0_2, .int .i64 a0_3, .int .i64 a0_4] 29 (0, 0)) (by (with_reducible repeat (first | refine blk_drewN ?_ _ | refine blk_drew ?_ | refine blk_alloc ?_ _)); exact BK312.out) hb)
          have n3_ := Aside0.mk (below_step (by repeat (first | (with_reducible first | exact HB.out | apply below_alloc | apply pw_below_drewN | apply below_drew1 | refine below_set ?_ GE312.out) | exact HB.out)) hb)
          have n4_ := Aside0.mk (hbox)
          have n5_ := Aside0.mk ((by rw [hg]; exact (below_size (by repeat (first | (with_reducible first | exact HB.out | apply below_alloc | apply pw_below_drewN | apply below_drew1 | refine below_set ?_ GE312.out) | exact HB.out))) : w.heap.size ≤ gb321))
          have n6_ := Aside0.mk ((by rw [hg]; exact (below_size (by repeat (first | (with_reducible first | exact HB.out | apply below_alloc | apply pw_below_drewN | apply below_drew1 | refine below_set ?_ GE312.out) | exact HB.out))) : w.heap.size ≤ gb321))
          have n7_ := Aside0.mk ((by rw [hg]; exact Nat.ne_of_lt (blk_lt (g := gb312) (o := .cells #[.int .i64 a0_0, .int .i64 a0_1, .int .i64 a0_2, .int .i64 a0_3, .int .i64 a0_4] 29 (0, 0)) (by (with_reducible repeat (first | refine blk_drewN ?_ _ | refine blk_drew ?_ | refine blk_alloc ?_ _)); exact BK312.out)) : gb312 ≠ gb321))
          have n8_ := Aside0.mk ((by rw [hg]; exact Nat.ne_of_gt (blk_lt (g := gb312) (o := .cells #[.int .i64 a0_0, .int .i64 a0_1, .int .i64 a0_2, .int .i64 a0_3, .int .i64 a0_4] 29 (0, 0)) (by (with_reducible repeat (first | refine blk_drewN ?_ _ | refine blk_drew ?_ | refine blk_alloc ?_ _)); exact BK312.out)) : gb321 ≠ gb312))
          clear HO_3
          clear HO_4
          clear BK312
          clear HB
          have HO_3 := n0_
          have HO_4 := n1_
          have BK312 := n2_
          have HB := n3_
          have BK321 := n4_
          have GW321 := n5_
          have GE321 := n6_
          have NB312_321 := n7_
          have NB321_312 := n8_
          clear n0_ n1_ n2_ n3_ n4_ n5_ n6_ n7_ n8_
          clear hb hbox hg
          have hnb29 := NB321_312.out
          have hnc29 := NB312_321.out
          have hcz30_0 : w28.cell? ⟨gb321, 0, none⟩ = some (.int .i64 ((rd_T53 x3_3 x5_2).f0)) := (blk_cell BK321.out 0).trans rfl
          have hcz30_1 : w28.cell? ⟨gb321, 1, none⟩ = some (.int .i64 ((rd_T53 x3_3 x5_2).f1)) := (blk_cell BK321.out 1).trans rfl
          have hcz30_2 : w28.cell? ⟨gb321, 2, none⟩ = some (.int .i64 ((rd_T53 x3_3 x5_2).f2)) := (blk_cell BK321.out 2).trans rfl
          have hcz30_3 : w28.cell? ⟨gb321, 3, none⟩ = some (.int .i64 ((rd_T53 x3_3 x5_2).f3)) := (blk_cell BK321.out 3).trans rfl
          have hcz30_4 : w28.cell? ⟨gb321, 4, none⟩ = some (.int .i64 ((rd_T53 x3_3 x5_2).f4)) := (blk_cell BK321.out 4).trans rfl
          have hcz30_5 : w28.cell? ⟨gb321, 5, none⟩ = some (.int .i64 ((rd_T53 x3_3 x5_2).f5)) := (blk_cell BK321.out 5).trans rfl
          have hfz30_0 := blk_frozen BK321.out 0
          have hfz30_1 := blk_frozen BK321.out 1
          have hfz30_2 := blk_frozen BK321.out 2
          have hfz30_3 := blk_frozen BK321.out 3
          have hfz30_4 := blk_frozen BK321.out 4
          have hfz30_5 := blk_frozen BK321.out 5
          have hcz31_0 : w28.cell? ⟨gb312, 0, none⟩ = some (.int .i64 a0_0) := (blk_cell BK312.out 0).trans rfl
          have hcz31_1 : w28.cell? ⟨gb312, 1, none⟩ = some (.int .i64 a0_1) := (blk_cell BK312.out 1).trans rfl
          have hcz31_2 : w28.cell? ⟨gb312, 2, none⟩ = some (.int .i64 a0_2) := (blk_cell BK312.out 2).trans rfl
          have hcz31_3 : w28.cell? ⟨gb312, 3, none⟩ = some (.int .i64 a0_3) := (blk_cell BK312.out 3).trans rfl
          have hcz31_4 : w28.cell? ⟨gb312, 4, none⟩ = some (.int .i64 a0_4) := (blk_cell BK312.out 4).trans rfl
          have hfz31_0 := blk_frozen BK312.out 0
          have hfz31_1 := blk_frozen BK312.out 1
          have hfz31_2 := blk_frozen BK312.out 2
          have hfz31_3 := blk_frozen BK312.out 3
          have hfz31_4 := blk_frozen BK312.out 4
          go_wp2_with (first | ((with_reducible refine gate_callee (f := 44) rfl ?_); refine goesL_ (some 39) rfl rfl Try.func44 (by kernel_rfl) rfl #[.int .i64 a0_0, .int .i64 ((rd_T53 x3_3 x5_2).f0), .int .i64 ((rd_T53 x3_3 x5_2).f2)] rfl (by (try simp only [List.map_toArray, List.map_cons, List.map_nil]); first | done | rfl | (simp only [List.length_drop, List.length_take]; rfl) | (simp only [ByteArray.size_extract, Nat.min_self]; done) | (simp only [ByteArray.size_extract, Nat.min_self]; rfl)) ?_; (with_reducible refine (vitrineref10_many.calls k2 a0_0 ((rd_T53 x3_3 x5_2).f0) ((rd_T53 x3_3 x5_2).f2) t322 _ A16.out).mono ?_); rintro e w' ⟨rfl, ⟨nd, rfl⟩⟩; refine ⟨_, rfl, ?_⟩) | ((with_reducible refine gate_callee (f := 44) rfl ?_); refine goesL_ (some 47) rfl rfl Try.func44 (by kernel_rfl) rfl #[.int .i64 a0_1, .int .i64 ((rd_T53 x3_3 x5_2).f1), .int .i64 ((rd_T53 x3_3 x5_2).f3)] rfl (by (try simp only [List.map_toArray, List.map_cons, List.map_nil]); first | done | rfl | (simp only [List.length_drop, List.length_take]; rfl) | (simp only [ByteArray.size_extract, Nat.min_self]; done) | (simp only [ByteArray.size_extract, Nat.min_self]; rfl)) ?_; (with_reducible refine (vitrineref10_many.calls k2 a0_1 ((rd_T53 x3_3 x5_2).f1) ((rd_T53 x3_3 x5_2).f3) t323 _ A17.out).mono ?_); rintro e w' ⟨rfl, ⟨nd, rfl⟩⟩; refine ⟨_, rfl, ?_⟩))
          go_roundg k2
          case measure => have := HJ3.out; have := HK2.out; omega
          case rel => exact ⟨(x4_2), (wrap64 (x5_2 + 1)), (by first | rfl | (simp; done) | (simp [*]; done)), H', ⟨by have := HJ3.out; have := HK2.out; omega⟩, ⟨by (with_reducible repeat (first | apply Kd.R_alloc | apply Kd.R_drewN | apply Kd.R_drew)); exact Kd.R_mono (Kd.R_far (p := ⟨gb321, 5, none⟩) (Kd.R_far (p := ⟨gb321, 4, none⟩) (Kd.R_mono HO_3.out (fun k_ hk => (⟨hk, hk.2⟩ : _ ∧ k_ ≠ gb321))) (fun _ hk => hk.2) (.int .i64 t322)) (fun _ hk => hk.2) (.int .i64 t323)) (fun _ hk => hk.1.1)⟩, ⟨by (with_reducible repeat (first | apply Kd.R_alloc | apply Kd.R_drewN | apply Kd.R_drew)); exact Kd.R_mono (Kd.R_far (p := ⟨gb321, 5, none⟩) (Kd.R_far (p := ⟨gb321, 4, none⟩) (Kd.R_mono HO_4.out (fun k_ hk => (⟨hk, hk.2⟩ : _ ∧ k_ ≠ gb321))) (fun _ hk => hk.2) (.int .i64 t322)) (fun _ hk => hk.2) (.int .i64 t323)) (fun _ hk => hk.1.1)⟩, ⟨by (with_reducible repeat (first | refine blk_drewN ?_ _ | refine blk_drew ?_ | refine blk_alloc ?_ _)); refine blk_far ?_ NB312_321.out _; (with_reducible repeat (first | refine blk_drewN ?_ _ | refine blk_drew ?_ | refine blk_alloc ?_ _)); refine blk_far ?_ NB312_321.out _; (with_reducible repeat (first | refine blk_drewN ?_ _ | refine blk_drew ?_ | refine blk_alloc ?_ _)); exact BK312.out⟩, ⟨by repeat (first | (with_reducible first | exact HB.out | apply below_alloc | apply pw_below_drewN | apply below_drew1 | refine below_set ?_ GE312.out | refine below_set ?_ GE321.out) | exact HB.out)⟩⟩
        ·rw [if_neg c18] at H
         have c18b0 : decide (0 < t322) = false := decide_eq_false c18
         clear c18
         have H' := Aside0.mk H
         clear H
         obtain ⟨Ao32, co32, eo32⟩ := Kd.R_slice HO_3.out
         subst eo32
         have p320 : 0 ≤ (x5_2 : Int) := of_decide_eq_true (by first | (with_reducible assumption) | assumption)
         have q320 : x5_2 < (x3_3.length : Int) := of_decide_eq_true (by first | (with_reducible assumption) | assumption)
         obtain ⟨ad320, e320, hx320_0, hx320_1, hx320_2, hx320_3, hx320_4, hx320_5⟩ := at_T53 (Kd.R_reads' HO_3.out).2.2 x5_2 p320 q320
         cases e320
         replace p320 := eq_true p320
         replace q320 := eq_true q320
         go_upto_region 11 with (fail)
         obtain ⟨gb321, hg, w33, hw_, hbox, hb⟩ : ∃ g_ : Nat, g_ = (by exact wr : World).heap.size ∧ ∃ w_ : World, w_ = wr.alloc (.cells #[.int .i64 ((rd_T53 x3_3 x5_2).f0), .int .i64 ((rd_T53 x3_3 x5_2).f1), .int .i64 ((rd_T53 x3_3 x5_2).f2), .int .i64 ((rd_T53 x3_3 x5_2).f3), .int .i64 ((rd_T53 x3_3 x5_2).f4), .int .i64 ((rd_T53 x3_3 x5_2).f5)] 53) ∧ w_.heap[g_]? = some (.cells #[.int .i64 ((rd_T53 x3_3 x5_2).f0), .int .i64 ((rd_T53 x3_3 x5_2).f1), .int .i64 ((rd_T53 x3_3 x5_2).f2), .int .i64 ((rd_T53 x3_3 x5_2).f3), .int .i64 ((rd_T53 x3_3 x5_2).f4), .int .i64 ((rd_T53 x3_3 x5_2).f5)] 53 (0, 0)) ∧ Below wr.heap.size wr w_ := ⟨_, rfl, _, rfl, Array.getElem?_push_size, below_alloc (Below.refl _ _) _⟩
         rw [← hg, ← hw_]
         clear hw_
         have n0_ := Aside0.mk (Kd.R_below (Kd.R_elderB (by (with_reducible repeat (first | apply Kd.R_alloc | apply Kd.R_drewN | apply Kd.R_drew)); exact HO_3.out) gb321 (Nat.le_of_eq hg.symm)) hb)
         have n1_ := Aside0.mk (Kd.R_below (Kd.R_elderB (by (with_reducible repeat (first | apply Kd.R_alloc | apply Kd.R_drewN | apply Kd.R_drew)); exact HO_4.out) gb321 (Nat.le_of_eq hg.symm)) hb)
         have n2_ := Aside0.mk (blk_below (g := gb312) (o := .cells #[.int .i64 a0_0, .int .i64 a0_1, .int .i64 a0_2, .int .i64 a0_3, .int .i64 a0_4] 29 (0, 0)) (by (with_reducible repeat (first | refine blk_drewN ?_ _ | refine blk_drew ?_ | refine blk_alloc ?_ _)); exact BK312.out) hb)
         have n3_ := Aside0.mk (below_step (by repeat (first | (with_reducible first | exact HB.out | apply below_alloc | apply pw_below_drewN | apply below_drew1 | refine below_set ?_ GE312.out) | exact HB.out)) hb)
         have n4_ := Aside0.mk (hbox)
         have n5_ := Aside0.mk ((by rw [hg]; exact (below_size (by repeat (first | (with_reducible first | exact HB.out | apply below_alloc | apply pw_below_drewN | apply below_drew1 | refine below_set ?_ GE312.out) | exact HB.out))) : w.heap.size ≤ gb321))
         have n6_ := Aside0.mk ((by rw [hg]; exact (below_size (by repeat (first | (with_reducible first | exact HB.out | apply below_alloc | apply pw_below_drewN | apply below_drew1 | refine below_set ?_ GE312.out) | exact HB.out))) : w.heap.size ≤ gb321))
         have n7_ := Aside0.mk ((by rw [hg]; exact Nat.ne_of_lt (blk_lt (g := gb312) (o := .cells #[.int .i64 a0_0, .int .i64 a0_1, .int .i64 a0_2, .int .i64 a0_3, .int .i64 a0_4] 29 (0, 0)) (by (with_reducible repeat (first | refine blk_drewN ?_ _ | refine blk_drew ?_ | refine blk_alloc ?_ _)); exact BK312.out)) : gb312 ≠ gb321))
         have n8_ := Aside0.mk ((by rw [hg]; exact Nat.ne_of_gt (blk_lt (g := gb312) (o := .cells #[.int .i64 a0_0, .int .i64 a0_1, .int .i64 a0_2, .int .i64 a0_3, .int .i64 a0_4] 29 (0, 0)) (by (with_reducible repeat (first | refine blk_drewN ?_ _ | refine blk_drew ?_ | refine blk_alloc ?_ _)); exact BK312.out)) : gb321 ≠ gb312))
         clear HO_3
         clear HO_4
         clear BK312
         clear HB
         have HO_3 := n0_
         have HO_4 := n1_
         have BK312 := n2_
         have HB := n3_
         have BK321 := n4_
         have GW321 := n5_
         have GE321 := n6_
         have NB312_321 := n7_
         have NB321_312 := n8_
         clear n0_ n1_ n2_ n3_ n4_ n5_ n6_ n7_ n8_
         clear hb hbox hg
         have hnb34 := NB321_312.out
         have hnc34 := NB312_321.out
         have hcz35_0 : w33.cell? ⟨gb321, 0, none⟩ = some (.int .i64 ((rd_T53 x3_3 x5_2).f0)) := (blk_cell BK321.out 0).trans rfl
         have hcz35_1 : w33.cell? ⟨gb321, 1, none⟩ = some (.int .i64 ((rd_T53 x3_3 x5_2).f1)) := (blk_cell BK321.out 1).trans rfl
         have hcz35_2 : w33.cell? ⟨gb321, 2, none⟩ = some (.int .i64 ((rd_T53 x3_3 x5_2).f2)) := (blk_cell BK321.out 2).trans rfl
         have hcz35_3 : w33.cell? ⟨gb321, 3, none⟩ = some (.int .i64 ((rd_T53 x3_3 x5_2).f3)) := (blk_cell BK321.out 3).trans rfl
         have hcz35_4 : w33.cell? ⟨gb321, 4, none⟩ = some (.int .i64 ((rd_T53 x3_3 x5_2).f4)) := (blk_cell BK321.out 4).trans rfl
         have hcz35_5 : w33.cell? ⟨gb321, 5, none⟩ = some (.int .i64 ((rd_T53 x3_3 x5_2).f5)) := (blk_cell BK321.out 5).trans rfl
         have hfz35_0 := blk_frozen BK321.out 0
         have hfz35_1 := blk_frozen BK321.out 1
         have hfz35_2 := blk_frozen BK321.out 2
         have hfz35_3 := blk_frozen BK321.out 3
         have hfz35_4 := blk_frozen BK321.out 4
         have hfz35_5 := blk_frozen BK321.out 5
         have hcz36_0 : w33.cell? ⟨gb312, 0, none⟩ = some (.int .i64 a0_0) := (blk_cell BK312.out 0).trans rfl
         have hcz36_1 : w33.cell? ⟨gb312, 1, none⟩ = some (.int .i64 a0_1) := (blk_cell BK312.out 1).trans rfl
         have hcz36_2 : w33.cell? ⟨gb312, 2, none⟩ = some (.int .i64 a0_2) := (blk_cell BK312.out 2).trans rfl
         have hcz36_3 : w33.cell? ⟨gb312, 3, none⟩ = some (.int .i64 a0_3) := (blk_cell BK312.out 3).trans rfl
         have hcz36_4 : w33.cell? ⟨gb312, 4, none⟩ = some (.int .i64 a0_4) := (blk_cell BK312.out 4).trans rfl
         have hfz36_0 := blk_frozen BK312.out 0
         have hfz36_1 := blk_frozen BK312.out 1
         have hfz36_2 := blk_frozen BK312.out 2
         have hfz36_3 := blk_frozen BK312.out 3
         have hfz36_4 := blk_frozen BK312.out 4
         go_wp2_with (first | ((with_reducible refine gate_callee (f := 44) rfl ?_); refine goesL_ (some 39) rfl rfl Try.func44 (by kernel_rfl) rfl #[.int .i64 a0_0, .int .i64 ((rd_T53 x3_3 x5_2).f0), .int .i64 ((rd_T53 x3_3 x5_2).f2)] rfl (by (try simp only [List.map_toArray, List.map_cons, List.map_nil]); first | done | rfl | (simp only [List.length_drop, List.length_take]; rfl) | (simp only [ByteArray.size_extract, Nat.min_self]; done) | (simp only [ByteArray.size_extract, Nat.min_self]; rfl)) ?_; (with_reducible refine (vitrineref10_many.calls k2 a0_0 ((rd_T53 x3_3 x5_2).f0) ((rd_T53 x3_3 x5_2).f2) t322 _ A16.out).mono ?_); rintro e w' ⟨rfl, ⟨nd, rfl⟩⟩; refine ⟨_, rfl, ?_⟩) | ((with_reducible refine gate_callee (f := 44) rfl ?_); refine goesL_ (some 47) rfl rfl Try.func44 (by kernel_rfl) rfl #[.int .i64 a0_1, .int .i64 ((rd_T53 x3_3 x5_2).f1), .int .i64 ((rd_T53 x3_3 x5_2).f3)] rfl (by (try simp only [List.map_toArray, List.map_cons, List.map_nil]); first | done | rfl | (simp only [List.length_drop, List.length_take]; rfl) | (simp only [ByteArray.size_extract, Nat.min_self]; done) | (simp only [ByteArray.size_extract, Nat.min_self]; rfl)) ?_; (with_reducible refine (vitrineref10_many.calls k2 a0_1 ((rd_T53 x3_3 x5_2).f1) ((rd_T53 x3_3 x5_2).f3) t323 _ A17.out).mono ?_); rintro e w' ⟨rfl, ⟨nd, rfl⟩⟩; refine ⟨_, rfl, ?_⟩))
         go_roundg k2
         case measure => have := HJ3.out; have := HK2.out; omega
         case rel => exact ⟨(x4_2), (wrap64 (x5_2 + 1)), (by first | rfl | (simp; done) | (simp [*]; done)), H', ⟨by have := HJ3.out; have := HK2.out; omega⟩, ⟨by (with_reducible repeat (first | apply Kd.R_alloc | apply Kd.R_drewN | apply Kd.R_drew)); exact Kd.R_mono (Kd.R_far (p := ⟨gb321, 5, none⟩) (Kd.R_far (p := ⟨gb321, 4, none⟩) (Kd.R_mono HO_3.out (fun k_ hk => (⟨hk, hk.2⟩ : _ ∧ k_ ≠ gb321))) (fun _ hk => hk.2) (.int .i64 t322)) (fun _ hk => hk.2) (.int .i64 t323)) (fun _ hk => hk.1.1)⟩, ⟨by (with_reducible repeat (first | apply Kd.R_alloc | apply Kd.R_drewN | apply Kd.R_drew)); exact Kd.R_mono (Kd.R_far (p := ⟨gb321, 5, none⟩) (Kd.R_far (p := ⟨gb321, 4, none⟩) (Kd.R_mono HO_4.out (fun k_ hk => (⟨hk, hk.2⟩ : _ ∧ k_ ≠ gb321))) (fun _ hk => hk.2) (.int .i64 t322)) (fun _ hk => hk.2) (.int .i64 t323)) (fun _ hk => hk.1.1)⟩, ⟨by (with_reducible repeat (first | refine blk_drewN ?_ _ | refine blk_drew ?_ | refine blk_alloc ?_ _)); refine blk_far ?_ NB312_321.out _; (with_reducible repeat (first | refine blk_drewN ?_ _ | refine blk_drew ?_ | refine blk_alloc ?_ _)); refine blk_far ?_ NB312_321.out _; (with_reducible repeat (first | refine blk_drewN ?_ _ | refine blk_drew ?_ | refine blk_alloc ?_ _)); exact BK312.out⟩, ⟨by repeat (first | (with_reducible first | exact HB.out | apply below_alloc | apply pw_below_drewN | apply below_drew1 | refine below_set ?_ GE312.out | refine below_set ?_ GE321.out) | exact HB.out)⟩⟩
       ·rw [if_neg c15] at H
        exact absurd H (by simp)
      ·rw [if_neg c14] at H
       have c14b0 : decide (x5_2 < (x3_3.length : Int)) = false := decide_eq_false c14
       clear c14
       obtain rfl := Option.some.inj H
       obtain ⟨Ao37, co37, eo37⟩ := Kd.R_slice HO_3.out
       subst eo37
       go_wp2
       go_ret
       exact ⟨_, by first | rfl | (simp [errW_none, errW_some] <;> rfl) | (simp [*, errW_none, errW_some] <;> rfl), by (with_reducible repeat (first | apply Kd.R_alloc | apply Kd.R_drewN | apply Kd.R_drew)); exact Kd.R_mono HO_4.out (fun _ hk => trivial), by repeat (first | (with_reducible first | exact HB.out | apply below_alloc | apply pw_below_drewN | apply below_drew1 | refine below_set ?_ GE312.out) | exact HB.out)⟩
 ·rw [if_neg c3] at H
  have c3b0 : (t313 == 0) = false := beq_eq_false_iff_ne.mpr c3
  have c3b1 : (t313 != 0) = true := bne_iff_ne.mpr c3
  obtain rfl := Option.some.inj H
  go_enter Try.func25, Try.ntmps25
  go_wp2_with (first | ((with_reducible refine gate_dst (N := 1) rfl ?_); refine box_event ?hg (N := 1) ?hd (cs := #[.int .i64 a0_0, .int .i64 a0_1, .int .i64 a0_2, .int .i64 a0_3, .int .i64 a0_4]) (t := 29) ?hr ?_; (case hd => rfl); (case hg => rfl); (case hr => first | (go_simp; done) | (go_simp; rfl)); intro gb312 hg w38 hbox hb; have n0_ := Aside0.mk (below_step (by repeat (first | (with_reducible first | exact HB.out | apply below_alloc | apply pw_below_drewN | apply below_drew1) | exact HB.out)) hb); have n1_ := Aside0.mk (hbox); have n2_ := Aside0.mk ((by rw [hg]; exact (below_size (by repeat (first | (with_reducible first | exact HB.out | apply below_alloc | apply pw_below_drewN | apply below_drew1) | exact HB.out))) : w.heap.size ≤ gb312)); have n3_ := Aside0.mk ((by rw [hg]; exact (below_size (by repeat (first | (with_reducible first | exact HB.out | apply below_alloc | apply pw_below_drewN | apply below_drew1) | exact HB.out))) : w.heap.size ≤ gb312)); clear HB; have HB := n0_; have BK312 := n1_; have GW312 := n2_; have GE312 := n3_; clear n0_ n1_ n2_ n3_; clear hb hbox hg; have hcz39_0 : w38.cell? ⟨gb312, 0, none⟩ = some (.int .i64 a0_0) := (blk_cell BK312.out 0).trans rfl; have hcz39_1 : w38.cell? ⟨gb312, 1, none⟩ = some (.int .i64 a0_1) := (blk_cell BK312.out 1).trans rfl; have hcz39_2 : w38.cell? ⟨gb312, 2, none⟩ = some (.int .i64 a0_2) := (blk_cell BK312.out 2).trans rfl; have hcz39_3 : w38.cell? ⟨gb312, 3, none⟩ = some (.int .i64 a0_3) := (blk_cell BK312.out 3).trans rfl; have hcz39_4 : w38.cell? ⟨gb312, 4, none⟩ = some (.int .i64 a0_4) := (blk_cell BK312.out 4).trans rfl; have hfz39_0 := blk_frozen BK312.out 0; have hfz39_1 := blk_frozen BK312.out 1; have hfz39_2 := blk_frozen BK312.out 2; have hfz39_3 := blk_frozen BK312.out 3; have hfz39_4 := blk_frozen BK312.out 4) | ((with_reducible refine gate_callee (f := 15) rfl ?_); refine goesL_ (some 8) rfl rfl Try.func15 (by kernel_rfl) rfl #[.agg #[.int .i64 a0_0, .int .i64 a0_1, .int .i64 a0_2, .int .i64 a0_3, .int .i64 a0_4]] rfl (by (try simp only [List.map_toArray, List.map_cons, List.map_nil]); first | done | rfl | (simp only [List.length_drop, List.length_take]; rfl) | (simp only [ByteArray.size_extract, Nat.min_self]; done) | (simp only [ByteArray.size_extract, Nat.min_self]; rfl)) ?_; (with_reducible refine (vitrineref08_Right.calls k a0_0 a0_1 a0_2 a0_3 a0_4 t313 _ A2.out).mono ?_); rintro e w40 ⟨rfl, hb⟩; refine ⟨_, rfl, ?_⟩; have n0_ := Aside0.mk (blk_below (g := gb312) (o := .cells #[.int .i64 a0_0, .int .i64 a0_1, .int .i64 a0_2, .int .i64 a0_3, .int .i64 a0_4] 29 (0, 0)) (by (with_reducible repeat (first | refine blk_drewN ?_ _ | refine blk_drew ?_ | refine blk_alloc ?_ _)); exact BK312.out) hb); have n1_ := Aside0.mk (below_step (by repeat (first | (with_reducible first | exact HB.out | apply below_alloc | apply pw_below_drewN | apply below_drew1 | refine below_set ?_ GE312.out) | exact HB.out)) hb); clear BK312; clear HB; have BK312 := n0_; have HB := n1_; clear n0_ n1_; (try clear hb); (try clear hb2); (try clear hk); (try clear hi)))
  go_ret
  exact ⟨_, by first | rfl | (simp [errW_none, errW_some] <;> rfl) | (simp [*, errW_none, errW_some] <;> rfl), by first | exact Kd.R_nil _ _ _ _ _ | exact Kd.N_nil _ _ _ _ _ | exact Kd.V_nil _ _ _ _ _ | exact Kd.Q_nil _ _ _ _ _ | exact Kd.S_nil _ _ _ _ _, by repeat (first | (with_reducible first | exact HB.out | apply below_alloc | apply pw_below_drewN | apply below_drew1 | refine below_set ?_ GE312.out) | exact HB.out)⟩

end Go.Proofs.Ytejljcglbkjgkaa.PL12

namespace Go.Proofs.Ytejljcglbkjgkaa.PL12
open Go.RowKit Go.Proofs.YtejljcglbkjgkaaW.PrintWords Go.Proofs.YtejljcglbkjgkaaW.PrintLast Go.Proofs.YtejljcglbkjgkaaW.PrintMore
attribute [local go_sem] max2_int min2_int max_two min_two max_three min_three max_four min_four   -- for this text's walks alone
set_option linter.unusedVariables false
set_option linter.unusedSimpArgs false

def vitrineref12_Bytes.f (k : Nat) (a0_0 : Int) (a0_1 : Int) (a0_2 : Int) (a0_3 : Int) (a0_4 : Int) : Option (Int) := (vitrineref08_Samples.f k a0_3).bind fun t358 => (some (mx 1 (wrap64 (Int.tdiv (wrap64 (a0_2 * t358)) 8))))
set_option maxHeartbeats 40000000 in
set_option maxRecDepth 100000 in
theorem vitrineref12_Bytes.calls (k : Nat) (a0_0 : Int) (a0_1 : Int) (a0_2 : Int) (a0_3 : Int) (a0_4 : Int) (r : Int) (w : World) (h : vitrineref12_Bytes.f k a0_0 a0_1 a0_2 a0_3 a0_4 = some r) :
  Calls Try.prog 28 #[.agg #[.int .i64 a0_0, .int .i64 a0_1, .int .i64 a0_2, .int .i64 a0_3, .int .i64 a0_4]] w fun e w' => e = .returned (.int .i64 r) ∧ Below w.heap.size w w' := by
 have hu29 := Try.underlying29
 have HB := Aside0.mk (Below.refl w.heap.size w)
 have H : ((vitrineref08_Samples.f k a0_3).bind fun t358 => (some (mx 1 (wrap64 (Int.tdiv (wrap64 (a0_2 * t358)) 8))))) = some r := h
 clear h
 replace H := Option.bind_eq_some_iff.mp H
 obtain ⟨t358, A20, H⟩ := H
 replace H : (some (mx 1 (wrap64 (Int.tdiv (wrap64 (a0_2 * t358)) 8)))) = some r := H
 have A2 := Aside0.mk A20
 clear A20
 obtain ⟨ji3, hji3⟩ : ∃ j_ : Int, (mx 1 (wrap64 (Int.tdiv (wrap64 (a0_2 * t358)) 8))) = j_ := ⟨_, rfl⟩
 replace H : (some ji3) = some r := by first | (rw [hji3] at H; exact H) | (simp only [hji3] at H ⊢; exact H)
 (try rw [hji3] at A2)
 (try (have hji3l : 1 ≤ ji3 := by (rw [← hji3]; unfold mx; (repeat' split) <;> omega)))
 (try (have hji3m : 0 ≤ ji3 := by omega))
 have hji3_ : (if 1 < (wrap64 (Int.tdiv (wrap64 (a0_2 * t358)) 8)) then (wrap64 (Int.tdiv (wrap64 (a0_2 * t358)) 8)) else 1) = ji3 := hji3
 obtain rfl := Option.some.inj H
 go_enter Try.func28, Try.ntmps28
 go_wp2_with (first | ((with_reducible refine gate_dst (N := 1) rfl ?_); refine box_event ?hg (N := 1) ?hd (cs := #[.int .i64 a0_0, .int .i64 a0_1, .int .i64 a0_2, .int .i64 a0_3, .int .i64 a0_4]) (t := 29) ?hr ?_; (case hd => rfl); (case hg => rfl); (case hr => first | (go_simp; done) | (go_simp; rfl)); intro gb357 hg w4 hbox hb; have n0_ := Aside0.mk (below_step (by repeat (first | (with_reducible first | exact HB.out | apply below_alloc | apply pw_below_drewN | apply below_drew1) | exact HB.out)) hb); have n1_ := Aside0.mk (hbox); have n2_ := Aside0.mk ((by rw [hg]; exact (below_size (by repeat (first | (with_reducible first | exact HB.out | apply below_alloc | apply pw_below_drewN | apply below_drew1) | exact HB.out))) : w.heap.size ≤ gb357)); have n3_ := Aside0.mk ((by rw [hg]; exact (below_size (by repeat (first | (with_reducible first | exact HB.out | apply below_alloc | apply pw_below_drewN | apply below_drew1) | exact HB.out))) : w.heap.size ≤ gb357)); clear HB; have HB := n0_; have BK357 := n1_; have GW357 := n2_; have GE357 := n3_; clear n0_ n1_ n2_ n3_; clear hb hbox hg; have hcz5_0 : w4.cell? ⟨gb357, 0, none⟩ = some (.int .i64 a0_0) := (blk_cell BK357.out 0).trans rfl; have hcz5_1 : w4.cell? ⟨gb357, 1, none⟩ = some (.int .i64 a0_1) := (blk_cell BK357.out 1).trans rfl; have hcz5_2 : w4.cell? ⟨gb357, 2, none⟩ = some (.int .i64 a0_2) := (blk_cell BK357.out 2).trans rfl; have hcz5_3 : w4.cell? ⟨gb357, 3, none⟩ = some (.int .i64 a0_3) := (blk_cell BK357.out 3).trans rfl; have hcz5_4 : w4.cell? ⟨gb357, 4, none⟩ = some (.int .i64 a0_4) := (blk_cell BK357.out 4).trans rfl; have hfz5_0 := blk_frozen BK357.out 0; have hfz5_1 := blk_frozen BK357.out 1; have hfz5_2 := blk_frozen BK357.out 2; have hfz5_3 := blk_frozen BK357.out 3; have hfz5_4 := blk_frozen BK357.out 4) | (go_at_call 16; (with_reducible refine (vitrineref08_Samples.calls k a0_3 t358 _ A2.out).mono ?_); rintro e w' ⟨rfl, ⟨nd, rfl⟩⟩; (try first | exact ⟨rfl, _, World.drewN_drewN _ _ _⟩ | exact ⟨rfl, _, Eq.trans (World.drewN_drewN _ _ _) (congrArg (World.drewN _) (Nat.add_assoc _ _ _))⟩)))
 repeat (go_quiet (first | ((with_reducible refine gate_dst (N := 1) rfl ?_); refine box_event ?hg (N := 1) ?hd (cs := #[.int .i64 a0_0, .int .i64 a0_1, .int .i64 a0_2, .int .i64 a0_3, .int .i64 a0_4]) (t := 29) ?hr ?_; (case hd => rfl); (case hg => rfl); (case hr => first | (go_simp; done) | (go_simp; rfl)); intro gb357 hg w4 hbox hb; have n0_ := Aside0.mk (below_step (by repeat (first | (with_reducible first | exact HB.out | apply below_alloc | apply pw_below_drewN | apply below_drew1) | exact HB.out)) hb); have n1_ := Aside0.mk (hbox); have n2_ := Aside0.mk ((by rw [hg]; exact (below_size (by repeat (first | (with_reducible first | exact HB.out | apply below_alloc | apply pw_below_drewN | apply below_drew1) | exact HB.out))) : w.heap.size ≤ gb357)); have n3_ := Aside0.mk ((by rw [hg]; exact (below_size (by repeat (first | (with_reducible first | exact HB.out | apply below_alloc | apply pw_below_drewN | apply below_drew1) | exact HB.out))) : w.heap.size ≤ gb357)); clear HB; have HB := n0_; have BK357 := n1_; have GW357 := n2_; have GE357 := n3_; clear n0_ n1_ n2_ n3_; clear hb hbox hg; have hcz5_0 : w4.cell? ⟨gb357, 0, none⟩ = some (.int .i64 a0_0) := (blk_cell BK357.out 0).trans rfl; have hcz5_1 : w4.cell? ⟨gb357, 1, none⟩ = some (.int .i64 a0_1) := (blk_cell BK357.out 1).trans rfl; have hcz5_2 : w4.cell? ⟨gb357, 2, none⟩ = some (.int .i64 a0_2) := (blk_cell BK357.out 2).trans rfl; have hcz5_3 : w4.cell? ⟨gb357, 3, none⟩ = some (.int .i64 a0_3) := (blk_cell BK357.out 3).trans rfl; have hcz5_4 : w4.cell? ⟨gb357, 4, none⟩ = some (.int .i64 a0_4) := (blk_cell BK357.out 4).trans rfl; have hfz5_0 := blk_frozen BK357.out 0; have hfz5_1 := blk_frozen BK357.out 1; have hfz5_2 := blk_frozen BK357.out 2; have hfz5_3 := blk_frozen BK357.out 3; have hfz5_4 := blk_frozen BK357.out 4) | (go_at_call 16; (with_reducible refine (vitrineref08_Samples.calls k a0_3 t358 _ A2.out).mono ?_); rintro e w' ⟨rfl, ⟨nd, rfl⟩⟩; (try first | exact ⟨rfl, _, World.drewN_drewN _ _ _⟩ | exact ⟨rfl, _, Eq.trans (World.drewN_drewN _ _ _) (congrArg (World.drewN _) (Nat.add_assoc _ _ _))⟩))); try go_wp2_with (first | ((with_reducible refine gate_dst (N := 1) rfl ?_); refine box_event ?hg (N := 1) ?hd (cs := #[.int .i64 a0_0, .int .i64 a0_1, .int .i64 a0_2, .int .i64 a0_3, .int .i64 a0_4]) (t := 29) ?hr ?_; (case hd => rfl); (case hg => rfl); (case hr => first | (go_simp; done) | (go_simp; rfl)); intro gb357 hg w4 hbox hb; have n0_ := Aside0.mk (below_step (by repeat (first | (with_reducible first | exact HB.out | apply below_alloc | apply pw_below_drewN | apply below_drew1) | exact HB.out)) hb); have n1_ := Aside0.mk (hbox); have n2_ := Aside0.mk ((by rw [hg]; exact (below_size (by repeat (first | (with_reducible first | exact HB.out | apply below_alloc | apply pw_below_drewN | apply below_drew1) | exact HB.out))) : w.heap.size ≤ gb357)); have n3_ := Aside0.mk ((by rw [hg]; exact (below_size (by repeat (first | (with_reducible first | exact HB.out | apply below_alloc | apply pw_below_drewN | apply below_drew1) | exact HB.out))) : w.heap.size ≤ gb357)); clear HB; have HB := n0_; have BK357 := n1_; have GW357 := n2_; have GE357 := n3_; clear n0_ n1_ n2_ n3_; clear hb hbox hg; have hcz5_0 : w4.cell? ⟨gb357, 0, none⟩ = some (.int .i64 a0_0) := (blk_cell BK357.out 0).trans rfl; have hcz5_1 : w4.cell? ⟨gb357, 1, none⟩ = some (.int .i64 a0_1) := (blk_cell BK357.out 1).trans rfl; have hcz5_2 : w4.cell? ⟨gb357, 2, none⟩ = some (.int .i64 a0_2) := (blk_cell BK357.out 2).trans rfl; have hcz5_3 : w4.cell? ⟨gb357, 3, none⟩ = some (.int .i64 a0_3) := (blk_cell BK357.out 3).trans rfl; have hcz5_4 : w4.cell? ⟨gb357, 4, none⟩ = some (.int .i64 a0_4) := (blk_cell BK357.out 4).trans rfl; have hfz5_0 := blk_frozen BK357.out 0; have hfz5_1 := blk_frozen BK357.out 1; have hfz5_2 := blk_frozen BK357.out 2; have hfz5_3 := blk_frozen BK357.out 3; have hfz5_4 := blk_frozen BK357.out 4) | (go_at_call 16; (with_reducible refine (vitrineref08_Samples.calls k a0_3 t358 _ A2.out).mono ?_); rintro e w' ⟨rfl, ⟨nd, rfl⟩⟩; (try first | exact ⟨rfl, _, World.drewN_drewN _ _ _⟩ | exact ⟨rfl, _, Eq.trans (World.drewN_drewN _ _ _) (congrArg (World.drewN _) (Nat.add_assoc _ _ _))⟩))))
 go_ret
 exact ⟨by first | rfl | (simp [errW_none, errW_some] <;> rfl) | (simp only [← hji3]; first | rfl | (simp [errW_none, errW_some] <;> rfl)) | (simp [*, errW_none, errW_some] <;> rfl), by repeat (first | (with_reducible first | exact HB.out | apply below_alloc | apply pw_below_drewN | apply below_drew1 | refine below_set ?_ GE357.out) | exact HB.out)⟩

def vitrineref11_Depth.f (a0 : Int) : Option (Bool) := if a0 = 1 then (some true) else (if a0 = 2 then (some true) else (if a0 = 4 then (some true) else (if a0 = 8 then (some true) else (some (a0 == 16)))))
set_option maxHeartbeats 40000000 in
set_option maxRecDepth 100000 in
theorem vitrineref11_Depth.calls (a0 : Int) (r : Bool) (w : World) (h : vitrineref11_Depth.f a0 = some r) :
  Calls Try.prog 48 #[.int .i64 a0] w fun e w' => e = .returned (.bool r) ∧ Drawn0 w w' := by
 have H : (if a0 = 1 then (some true) else (if a0 = 2 then (some true) else (if a0 = 4 then (some true) else (if a0 = 8 then (some true) else (some (a0 == 16)))))) = some r := h
 clear h
 by_cases c2 : a0 = 1
 ·rw [if_pos c2] at H
  have c2b0 : (a0 == 1) = true := beq_iff_eq.mpr c2
  have c2b1 : (a0 != 1) = false := bne_eq_false_iff_eq.mpr c2
  clear c2
  obtain rfl := Option.some.inj H
  go_enter Try.func48, Try.ntmps48
  go_wp2
  go_ret
  exact ⟨by first | rfl | (simp; done) | (simp [*]; done), by repeat (first | exact Drawn0.refl _ | apply Drawn0.step)⟩
 ·rw [if_neg c2] at H
  have c2b0 : (a0 == 1) = false := beq_eq_false_iff_ne.mpr c2
  have c2b1 : (a0 != 1) = true := bne_iff_ne.mpr c2
  by_cases c3 : a0 = 2
  ·rw [if_pos c3] at H
   have c3b0 : (a0 == 2) = true := beq_iff_eq.mpr c3
   have c3b1 : (a0 != 2) = false := bne_eq_false_iff_eq.mpr c3
   clear c3
   obtain rfl := Option.some.inj H
   go_enter Try.func48, Try.ntmps48
   go_wp2
   go_ret
   exact ⟨by first | rfl | (simp; done) | (simp [*]; done), by repeat (first | exact Drawn0.refl _ | apply Drawn0.step)⟩
  ·rw [if_neg c3] at H
   have c3b0 : (a0 == 2) = false := beq_eq_false_iff_ne.mpr c3
   have c3b1 : (a0 != 2) = true := bne_iff_ne.mpr c3
   by_cases c4 : a0 = 4
   ·rw [if_pos c4] at H
    have c4b0 : (a0 == 4) = true := beq_iff_eq.mpr c4
    have c4b1 : (a0 != 4) = false := bne_eq_false_iff_eq.mpr c4
    clear c4
    obtain rfl := Option.some.inj H
    go_enter Try.func48, Try.ntmps48
    go_wp2
    go_ret
    exact ⟨by first | rfl | (simp; done) | (simp [*]; done), by repeat (first | exact Drawn0.refl _ | apply Drawn0.step)⟩
   ·rw [if_neg c4] at H
    have c4b0 : (a0 == 4) = false := beq_eq_false_iff_ne.mpr c4
    have c4b1 : (a0 != 4) = true := bne_iff_ne.mpr c4
    by_cases c5 : a0 = 8
    ·rw [if_pos c5] at H
     have c5b0 : (a0 == 8) = true := beq_iff_eq.mpr c5
     have c5b1 : (a0 != 8) = false := bne_eq_false_iff_eq.mpr c5
     clear c5
     obtain rfl := Option.some.inj H
     go_enter Try.func48, Try.ntmps48
     go_wp2
     go_ret
     exact ⟨by first | rfl | (simp; done) | (simp [*]; done), by repeat (first | exact Drawn0.refl _ | apply Drawn0.step)⟩
    ·rw [if_neg c5] at H
     have c5b0 : (a0 == 8) = false := beq_eq_false_iff_ne.mpr c5
     have c5b1 : (a0 != 8) = true := bne_iff_ne.mpr c5
     obtain rfl := Option.some.inj H
     go_enter Try.func48, Try.ntmps48
     go_wp2
     go_ret
     exact ⟨by first | rfl | (simp; done) | (simp [*]; done), by repeat (first | exact Drawn0.refl _ | apply Drawn0.step)⟩

end Go.Proofs.Ytejljcglbkjgkaa.PL12
