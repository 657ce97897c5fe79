/- Printed for this claim by a program of this session over the kit's print program: the Go functions as Lean functions, and proofs that the calls come to these answers. No conditions. -/
import Derived.Test.YtlonbchidopcpaaPL10x0
import Derived.Test.YtlonbchidopcpaaPL10x6
import Derived.Test.YtlonbchidopcpaaPL10x7
namespace Go.Proofs.Ytlonbchidopcpaa.PL10
open Go.RowKit Go.Proofs.YtlonbchidopcpaaW.PrintWords Go.Proofs.YtlonbchidopcpaaW.PrintLast Go.Proofs.YtlonbchidopcpaaW.PrintMore
attribute [local go_sem] max2_int min2_int max_two min_two max_three min_three max_four min_four   -- for this text's walks alone
set_option linter.unusedVariables false
set_option linter.unusedSimpArgs false

/-! ### vitrineref10_Passes: function 12 -/
mutual
def vitrineref10_Passes.j0 : Nat → List (S34) → Int → Int → Int → Int → Int → Option ((List (S34)))
  | 0, _, _, _, _, _, _ => none
  | k + 1, x3, x123000, x123001, x123002, x123003, x123004 => vitrineref10_Passes.l0 k x3 ([] : List (S34)) 0 x123000 x123001 x123002 x123003 x123004
def vitrineref10_Passes.l0 : Nat → List (S34) → List (S34) → Int → Int → Int → Int → Int → Int → Option ((List (S34)))
  | 0, _, _, _, _, _, _, _, _ => none
  | k + 1, x3, x4, x5, x123000, x123001, x123002, x123003, x123004 => if x5 < (x3.length : Int) then (if 0 ≤ x5 then ((vitrineref10_many.f k x123000 ((rd_T34 x3 x5).f0) ((rd_T34 x3 x5).f2)).bind fun t132 => ((vitrineref10_many.f k x123001 ((rd_T34 x3 x5).f1) ((rd_T34 x3 x5).f3)).bind fun t133 => (if t132 > 0 then (if t133 > 0 then (if x4.length < 2932031007402 then (vitrineref10_Passes.l0 k x3 (x4 ++ [(⟨(rd_T34 x3 x5).f0, (rd_T34 x3 x5).f1, (rd_T34 x3 x5).f2, (rd_T34 x3 x5).f3, t132, t133⟩ : S34)]) (wrap64 (x5 + 1)) x123000 x123001 x123002 x123003 x123004) else (none)) else (vitrineref10_Passes.l0 k x3 x4 (wrap64 (x5 + 1)) x123000 x123001 x123002 x123003 x123004)) else (vitrineref10_Passes.l0 k x3 x4 (wrap64 (x5 + 1)) x123000 x123001 x123002 x123003 x123004)))) else (none)) else (some x4)
end
def vitrineref10_Passes.f (k : Nat) (a0_0 : Int) (a0_1 : Int) (a0_2 : Int) (a0_3 : Int) (a0_4 : Int) : Option ((List (S34))) := (vitrineref08_Right.f k a0_0 a0_1 a0_2 a0_3 a0_4).bind fun t123 => (if t123 = 0 then (if a0_4 = 1 then (vitrineref10_Passes.j0 k (([(⟨0, 0, 8, 8, 0, 0⟩ : S34), (⟨4, 0, 8, 8, 0, 0⟩ : S34), (⟨0, 4, 4, 8, 0, 0⟩ : S34), (⟨2, 0, 4, 4, 0, 0⟩ : S34), (⟨0, 2, 2, 4, 0, 0⟩ : S34), (⟨1, 0, 2, 2, 0, 0⟩ : S34), (⟨0, 1, 1, 2, 0, 0⟩ : S34)] : List (S34))) a0_0 a0_1 a0_2 a0_3 a0_4) else (vitrineref10_Passes.j0 k (([(⟨0, 0, 1, 1, 0, 0⟩ : S34)] : List (S34))) a0_0 a0_1 a0_2 a0_3 a0_4)) else (some ([] : List (S34))))
theorem vitrineref10_Passes.mono_l : ∀ k, (∀ y0 y1 y2 y3 y4 y5, LeO (vitrineref10_Passes.j0 k y0 y1 y2 y3 y4 y5) (vitrineref10_Passes.j0 (k + 1) y0 y1 y2 y3 y4 y5)) ∧ (∀ y0 y1 y2 y3 y4 y5 y6 y7, LeO (vitrineref10_Passes.l0 k y0 y1 y2 y3 y4 y5 y6 y7) (vitrineref10_Passes.l0 (k + 1) y0 y1 y2 y3 y4 y5 y6 y7))
  | 0 => ⟨fun _ _ _ _ _ _ r h => by simp [vitrineref10_Passes.j0] at h, fun _ _ _ _ _ _ _ _ r h => by simp [vitrineref10_Passes.l0] at h⟩
  | k + 1 => by
    obtain ⟨ih0, ih1⟩ := vitrineref10_Passes.mono_l k
    refine ⟨?_, ?_⟩
    · intro y0 y1 y2 y3 y4 y5
      unfold vitrineref10_Passes.j0
      repeat' first
      | (with_reducible exact ih0 _ _ _ _ _ _)
      | (with_reducible exact ih1 _ _ _ _ _ _ _ _)
      | (with_reducible exact vitrineref08_Right.mono _ _ _ _ _ _)
      | (with_reducible exact vitrineref10_many.mono _ _ _ _)
      | (with_reducible exact LeO.refl _)
      | (with_reducible exact LeO.none _)
      | (with_reducible refine LeO.ite ?_ ?_)
      | (with_reducible refine LeO.bind ?_ (fun _ => ?_))
      | exact ih0 _ _ _ _ _ _
      | exact ih1 _ _ _ _ _ _ _ _
      | exact vitrineref08_Right.mono _ _ _ _ _ _
      | exact vitrineref10_many.mono _ _ _ _
      | exact LeO.none _
      | refine LeO.ite ?_ ?_
      | refine LeO.bind ?_ (fun _ => ?_)
    · intro y0 y1 y2 y3 y4 y5 y6 y7
      unfold vitrineref10_Passes.l0
      repeat' first
      | (with_reducible exact ih0 _ _ _ _ _ _)
      | (with_reducible exact ih1 _ _ _ _ _ _ _ _)
      | (with_reducible exact vitrineref08_Right.mono _ _ _ _ _ _)
      | (with_reducible exact vitrineref10_many.mono _ _ _ _)
      | (with_reducible exact LeO.refl _)
      | (with_reducible exact LeO.none _)
      | (with_reducible refine LeO.ite ?_ ?_)
      | (with_reducible refine LeO.bind ?_ (fun _ => ?_))
      | exact ih0 _ _ _ _ _ _
      | exact ih1 _ _ _ _ _ _ _ _
      | exact vitrineref08_Right.mono _ _ _ _ _ _
      | exact vitrineref10_many.mono _ _ _ _
      | exact LeO.none _
      | refine LeO.ite ?_ ?_
      | refine LeO.bind ?_ (fun _ => ?_)
theorem vitrineref10_Passes.mono : ∀ a0 a1 a2 a3 a4 k, LeO (vitrineref10_Passes.f k a0 a1 a2 a3 a4) (vitrineref10_Passes.f (k + 1) a0 a1 a2 a3 a4) := by
  intro a0 a1 a2 a3 a4 k
  obtain ⟨ih0, ih1⟩ := vitrineref10_Passes.mono_l k
  unfold vitrineref10_Passes.f
  repeat' first
      | (with_reducible exact ih0 _ _ _ _ _ _)
      | (with_reducible exact ih1 _ _ _ _ _ _ _ _)
      | (with_reducible exact vitrineref08_Right.mono _ _ _ _ _ _)
      | (with_reducible exact vitrineref10_many.mono _ _ _ _)
      | (with_reducible exact LeO.refl _)
      | (with_reducible exact LeO.none _)
      | (with_reducible refine LeO.ite ?_ ?_)
      | (with_reducible refine LeO.bind ?_ (fun _ => ?_))
      | exact ih0 _ _ _ _ _ _
      | exact ih1 _ _ _ _ _ _ _ _
      | exact vitrineref08_Right.mono _ _ _ _ _ _
      | exact vitrineref10_many.mono _ _ _ _
      | exact LeO.none _
      | refine LeO.ite ?_ ?_
      | refine LeO.bind ?_ (fun _ => ?_)
set_option maxHeartbeats 40000000 in
set_option maxRecDepth 100000 in
theorem vitrineref10_Passes.calls (k : Nat) (a0_0 : Int) (a0_1 : Int) (a0_2 : Int) (a0_3 : Int) (a0_4 : Int) (r : List (S34)) (w : World) (h : vitrineref10_Passes.f k a0_0 a0_1 a0_2 a0_3 a0_4 = some r) :
    Calls Try.prog 12 #[.agg #[.int .i64 a0_0, .int .i64 a0_1, .int .i64 a0_2, .int .i64 a0_3, .int .i64 a0_4]] w fun e w' => ∃ v0_ : Value, e = .returned (v0_) ∧ Kd.R k34 34 w' w.heap.size (fun _ => True) v0_ r ∧ Below w.heap.size w w' := by
  have hu23 := Try.underlying23
  have hu34 := Try.underlying34
  have HB := Aside0.mk (Below.refl w.heap.size w)
  have H : ((vitrineref08_Right.f k a0_0 a0_1 a0_2 a0_3 a0_4).bind fun t123 => (if t123 = 0 then (if a0_4 = 1 then (vitrineref10_Passes.j0 k (([(⟨0, 0, 8, 8, 0, 0⟩ : S34), (⟨4, 0, 8, 8, 0, 0⟩ : S34), (⟨0, 4, 4, 8, 0, 0⟩ : S34), (⟨2, 0, 4, 4, 0, 0⟩ : S34), (⟨0, 2, 2, 4, 0, 0⟩ : S34), (⟨1, 0, 2, 2, 0, 0⟩ : S34), (⟨0, 1, 1, 2, 0, 0⟩ : S34)] : List (S34))) a0_0 a0_1 a0_2 a0_3 a0_4) else (vitrineref10_Passes.j0 k (([(⟨0, 0, 1, 1, 0, 0⟩ : S34)] : List (S34))) a0_0 a0_1 a0_2 a0_3 a0_4)) else (some ([] : List (S34))))) = some r := h
  clear h
  replace H := Option.bind_eq_some_iff.mp H
  obtain ⟨t123, A20, H⟩ := H
  replace H : (if t123 = 0 then (if a0_4 = 1 then (vitrineref10_Passes.j0 k (([(⟨0, 0, 8, 8, 0, 0⟩ : S34), (⟨4, 0, 8, 8, 0, 0⟩ : S34), (⟨0, 4, 4, 8, 0, 0⟩ : S34), (⟨2, 0, 4, 4, 0, 0⟩ : S34), (⟨0, 2, 2, 4, 0, 0⟩ : S34), (⟨1, 0, 2, 2, 0, 0⟩ : S34), (⟨0, 1, 1, 2, 0, 0⟩ : S34)] : List (S34))) a0_0 a0_1 a0_2 a0_3 a0_4) else (vitrineref10_Passes.j0 k (([(⟨0, 0, 1, 1, 0, 0⟩ : S34)] : List (S34))) a0_0 a0_1 a0_2 a0_3 a0_4)) else (some ([] : List (S34)))) = some r := H
  have A2 := Aside0.mk A20
  clear A20
  by_cases c3 : t123 = 0
  · rw [if_pos c3] at H
    have c3b0 : (t123 == 0) = true := beq_iff_eq.mpr c3
    have c3b1 : (t123 != 0) = false := bne_eq_false_iff_eq.mpr c3
    clear c3
    obtain ⟨y124, hy124⟩ : ∃ y_ : List (S34), y_ = (([(⟨0, 0, 1, 1, 0, 0⟩ : S34)] : List (S34))) := ⟨_, rfl⟩
    replace H : (if a0_4 = 1 then (vitrineref10_Passes.j0 k (([(⟨0, 0, 8, 8, 0, 0⟩ : S34), (⟨4, 0, 8, 8, 0, 0⟩ : S34), (⟨0, 4, 4, 8, 0, 0⟩ : S34), (⟨2, 0, 4, 4, 0, 0⟩ : S34), (⟨0, 2, 2, 4, 0, 0⟩ : S34), (⟨1, 0, 2, 2, 0, 0⟩ : S34), (⟨0, 1, 1, 2, 0, 0⟩ : S34)] : List (S34))) a0_0 a0_1 a0_2 a0_3 a0_4) else (vitrineref10_Passes.j0 k y124 a0_0 a0_1 a0_2 a0_3 a0_4)) = some r := by first | (rw [hy124]; with_reducible exact H) | (have H2_ := (Option.bind_some _ _).symm.trans H; rw [hy124]; with_reducible exact H2_) | (have H2_ := (Option.bind_some _ _).symm.trans H; with_reducible exact H2_) | with_reducible exact H | (rw [hy124]; exact H) | exact H
    have Ny124 := Aside0.mk hy124
    clear hy124
    have HC4 := Aside0.mk H
    clear H
    go_enter Try.func12, Try.ntmps12
    go_upto_if 14 with (first | ((with_reducible refine gate_dst (N := 1) rfl ?_); refine box_event ?hg (N := 1) ?hd (cs := #[.int .i64 a0_0, .int .i64 a0_1, .int .i64 a0_2, .int .i64 a0_3, .int .i64 a0_4]) (t := 23) ?hr ?_; (case hd => rfl); (case hg => rfl); (case hr => first | (go_simp; done) | (go_simp; rfl)); intro gb122 hg w5 hbox hb; have n0_ := Aside0.mk (below_step (by repeat (first | (with_reducible first | exact HB.out | apply below_alloc | apply pw_below_drewN | apply below_drew1) | exact HB.out)) hb); have n1_ := Aside0.mk (hbox); have n2_ := Aside0.mk ((by rw [hg]; exact (below_size (by repeat (first | (with_reducible first | exact HB.out | apply below_alloc | apply pw_below_drewN | apply below_drew1) | exact HB.out))) : w.heap.size ≤ gb122)); have n3_ := Aside0.mk ((by rw [hg]; exact (below_size (by repeat (first | (with_reducible first | exact HB.out | apply below_alloc | apply pw_below_drewN | apply below_drew1) | exact HB.out))) : w.heap.size ≤ gb122)); clear HB; have HB := n0_; have BK122 := n1_; have GW122 := n2_; have GE122 := n3_; clear n0_ n1_ n2_ n3_; clear hb hbox hg; have hcz6_0 : w5.cell? ⟨gb122, 0, none⟩ = some (.int .i64 a0_0) := (blk_cell BK122.out 0).trans rfl; have hcz6_1 : w5.cell? ⟨gb122, 1, none⟩ = some (.int .i64 a0_1) := (blk_cell BK122.out 1).trans rfl; have hcz6_2 : w5.cell? ⟨gb122, 2, none⟩ = some (.int .i64 a0_2) := (blk_cell BK122.out 2).trans rfl; have hcz6_3 : w5.cell? ⟨gb122, 3, none⟩ = some (.int .i64 a0_3) := (blk_cell BK122.out 3).trans rfl; have hcz6_4 : w5.cell? ⟨gb122, 4, none⟩ = some (.int .i64 a0_4) := (blk_cell BK122.out 4).trans rfl; have hfz6_0 := blk_frozen BK122.out 0; have hfz6_1 := blk_frozen BK122.out 1; have hfz6_2 := blk_frozen BK122.out 2; have hfz6_3 := blk_frozen BK122.out 3; have hfz6_4 := blk_frozen BK122.out 4) | ((with_reducible refine gate_callee (f := 20) rfl ?_); refine goesL_ (some 8) rfl rfl Try.func20 (by kernel_rfl) rfl #[.agg #[.int .i64 a0_0, .int .i64 a0_1, .int .i64 a0_2, .int .i64 a0_3, .int .i64 a0_4]] rfl (by (try simp only [List.map_toArray, List.map_cons, List.map_nil]); first | done | rfl | (simp only [List.length_drop, List.length_take]; rfl) | (simp only [ByteArray.size_extract, Nat.min_self]; done) | (simp only [ByteArray.size_extract, Nat.min_self]; rfl)) ?_; (with_reducible refine (vitrineref08_Right.calls k a0_0 a0_1 a0_2 a0_3 a0_4 t123 _ A2.out).mono ?_); rintro e w7 ⟨rfl, hb⟩; refine ⟨_, rfl, ?_⟩; have n0_ := Aside0.mk (blk_below (g := gb122) (o := .cells #[.int .i64 a0_0, .int .i64 a0_1, .int .i64 a0_2, .int .i64 a0_3, .int .i64 a0_4] 23 (0, 0)) (by (with_reducible repeat (first | refine blk_drewN ?_ _ | refine blk_drew ?_ | refine blk_alloc ?_ _)); exact BK122.out) hb); have n1_ := Aside0.mk (below_step (by repeat (first | (with_reducible first | exact HB.out | apply below_alloc | apply pw_below_drewN | apply below_drew1 | refine below_set ?_ GE122.out) | exact HB.out)) hb); clear BK122; clear HB; have BK122 := n0_; have HB := n1_; clear n0_ n1_; (try clear hb); (try clear hb2); (try clear hk); (try clear hi)) | ((with_reducible refine gate_dst (N := 11) rfl ?_); refine Kd.R_lit k34 _ 34 ?hg (N := 11) ?hd (xs := ([(⟨0, 0, 1, 1, 0, 0⟩ : S34)] : List (S34))) (inner := [.int .i64 0, .int .i64 0, .int .i64 1, .int .i64 1, .int .i64 0, .int .i64 0]) (ok := fun _ => True) (okp := fun _ => True) ?hr ?hp (fun _ hk => hk) trivial (Below.refl _ _) (Nat.le_refl _) (by simp) ?_; (case hd => rfl); (case hg => rfl); (case hr => first | (go_simp; done) | (go_simp; rfl)); (case hp => exact (Reps.c6 (show Kd.M k34 _ _ _ (⟨0, 0, 1, 1, 0, 0⟩ : S34) [.int .i64 0, .int .i64 0, .int .i64 1, .int .i64 1, .int .i64 0, .int .i64 0] from (k34_mkM _ _ _ (⟨0, 0, 1, 1, 0, 0⟩ : S34) )) (Reps.none _ _))); intro v125 w8 ho9 hb hg_ hnew_; clear hg_ hnew_; (first | rw [← Ny124.out] at ho9 | (simp only [Int.reduceToNat] at ho9; rw [← Ny124.out] at ho9)); have n0_ := Aside0.mk (Kd.R_lower ho9 (below_size (by repeat (first | (with_reducible first | exact HB.out | apply below_alloc | apply pw_below_drewN | apply below_drew1 | refine below_set ?_ GE122.out) | exact HB.out)))); have n1_ := Aside0.mk (blk_below (g := gb122) (o := .cells #[.int .i64 a0_0, .int .i64 a0_1, .int .i64 a0_2, .int .i64 a0_3, .int .i64 a0_4] 23 (0, 0)) (by (with_reducible repeat (first | refine blk_drewN ?_ _ | refine blk_drew ?_ | refine blk_alloc ?_ _)); exact BK122.out) hb); have n2_ := Aside0.mk (below_step (by repeat (first | (with_reducible first | exact HB.out | apply below_alloc | apply pw_below_drewN | apply below_drew1 | refine below_set ?_ GE122.out) | exact HB.out)) hb); clear BK122; clear HB; have HO126 := n0_; have BK122 := n1_; have HB := n2_; clear n0_ n1_ n2_; clear hb ho9; have hcz10_0 : w8.cell? ⟨gb122, 0, none⟩ = some (.int .i64 a0_0) := (blk_cell BK122.out 0).trans rfl; have hcz10_1 : w8.cell? ⟨gb122, 1, none⟩ = some (.int .i64 a0_1) := (blk_cell BK122.out 1).trans rfl; have hcz10_2 : w8.cell? ⟨gb122, 2, none⟩ = some (.int .i64 a0_2) := (blk_cell BK122.out 2).trans rfl; have hcz10_3 : w8.cell? ⟨gb122, 3, none⟩ = some (.int .i64 a0_3) := (blk_cell BK122.out 3).trans rfl; have hcz10_4 : w8.cell? ⟨gb122, 4, none⟩ = some (.int .i64 a0_4) := (blk_cell BK122.out 4).trans rfl; have hfz10_0 := blk_frozen BK122.out 0; have hfz10_1 := blk_frozen BK122.out 1; have hfz10_2 := blk_frozen BK122.out 2; have hfz10_3 := blk_frozen BK122.out 3; have hfz10_4 := blk_frozen BK122.out 4))
    (try simp only [Act.put, List.setIfInBounds_toArray, List.set_cons_zero, List.set_cons_succ])
    go_cut [3] (fun v3 wc => ∃ (kq : Nat) (x3_3 : List (S34)), Aside0 (vitrineref10_Passes.j0 kq x3_3 a0_0 a0_1 a0_2 a0_3 a0_4 = some r) ∧ Aside0 (kq ≤ k) ∧ Aside0 (Kd.R k34 34 wc w.heap.size (fun _ => True) v3 x3_3) ∧ Aside0 (wc.heap[gb122]? = some (.cells #[.int .i64 a0_0, .int .i64 a0_1, .int .i64 a0_2, .int .i64 a0_3, .int .i64 a0_4] 23 (0, 0))) ∧ Aside0 (Below w.heap.size w wc))
    case first =>
      have H := HC4.out
      clear HC4
      by_cases c11 : a0_4 = 1
      · rw [if_pos c11] at H
        have c11b0 : (a0_4 == 1) = true := beq_iff_eq.mpr c11
        have c11b1 : (a0_4 != 1) = false := bne_eq_false_iff_eq.mpr c11
        clear c11
        (first | rw [c11b0] | (simp only [i64_w, i32_w]; rw [c11b0]) | skip)
        obtain ⟨y127, hy127⟩ : ∃ y_ : List (S34), y_ = (([(⟨0, 0, 8, 8, 0, 0⟩ : S34), (⟨4, 0, 8, 8, 0, 0⟩ : S34), (⟨0, 4, 4, 8, 0, 0⟩ : S34), (⟨2, 0, 4, 4, 0, 0⟩ : S34), (⟨0, 2, 2, 4, 0, 0⟩ : S34), (⟨1, 0, 2, 2, 0, 0⟩ : S34), (⟨0, 1, 1, 2, 0, 0⟩ : S34)] : List (S34))) := ⟨_, rfl⟩
        replace H : (vitrineref10_Passes.j0 k y127 a0_0 a0_1 a0_2 a0_3 a0_4) = some r := by first | (rw [hy127]; with_reducible exact H) | (have H2_ := (Option.bind_some _ _).symm.trans H; rw [hy127]; with_reducible exact H2_) | (have H2_ := (Option.bind_some _ _).symm.trans H; with_reducible exact H2_) | with_reducible exact H | (rw [hy127]; exact H) | exact H
        have Ny127 := Aside0.mk hy127
        clear hy127
        have H' := Aside0.mk H
        clear H
        go_wp2_with (first | ((with_reducible refine gate_dst (N := 22) rfl ?_); refine Kd.R_lit k34 _ 34 ?hg (N := 22) ?hd (xs := ([(⟨0, 0, 8, 8, 0, 0⟩ : S34), (⟨4, 0, 8, 8, 0, 0⟩ : S34), (⟨0, 4, 4, 8, 0, 0⟩ : S34), (⟨2, 0, 4, 4, 0, 0⟩ : S34), (⟨0, 2, 2, 4, 0, 0⟩ : S34), (⟨1, 0, 2, 2, 0, 0⟩ : S34), (⟨0, 1, 1, 2, 0, 0⟩ : S34)] : List (S34))) (inner := [.int .i64 0, .int .i64 0, .int .i64 8, .int .i64 8, .int .i64 0, .int .i64 0, .int .i64 4, .int .i64 0, .int .i64 8, .int .i64 8, .int .i64 0, .int .i64 0, .int .i64 0, .int .i64 4, .int .i64 4, .int .i64 8, .int .i64 0, .int .i64 0, .int .i64 2, .int .i64 0, .int .i64 4, .int .i64 4, .int .i64 0, .int .i64 0, .int .i64 0, .int .i64 2, .int .i64 2, .int .i64 4, .int .i64 0, .int .i64 0, .int .i64 1, .int .i64 0, .int .i64 2, .int .i64 2, .int .i64 0, .int .i64 0, .int .i64 0, .int .i64 1, .int .i64 1, .int .i64 2, .int .i64 0, .int .i64 0]) (ok := fun _ => True) (okp := fun _ => True) ?hr ?hp (fun _ hk => hk) trivial (Below.refl _ _) (Nat.le_refl _) (by simp) ?_; (case hd => rfl); (case hg => rfl); (case hr => first | (go_simp; done) | (go_simp; rfl)); (case hp => exact (Reps.c6 (show Kd.M k34 _ _ _ (⟨0, 0, 8, 8, 0, 0⟩ : S34) [.int .i64 0, .int .i64 0, .int .i64 8, .int .i64 8, .int .i64 0, .int .i64 0] from (k34_mkM _ _ _ (⟨0, 0, 8, 8, 0, 0⟩ : S34) )) (Reps.c6 (show Kd.M k34 _ _ _ (⟨4, 0, 8, 8, 0, 0⟩ : S34) [.int .i64 4, .int .i64 0, .int .i64 8, .int .i64 8, .int .i64 0, .int .i64 0] from (k34_mkM _ _ _ (⟨4, 0, 8, 8, 0, 0⟩ : S34) )) (Reps.c6 (show Kd.M k34 _ _ _ (⟨0, 4, 4, 8, 0, 0⟩ : S34) [.int .i64 0, .int .i64 4, .int .i64 4, .int .i64 8, .int .i64 0, .int .i64 0] from (k34_mkM _ _ _ (⟨0, 4, 4, 8, 0, 0⟩ : S34) )) (Reps.c6 (show Kd.M k34 _ _ _ (⟨2, 0, 4, 4, 0, 0⟩ : S34) [.int .i64 2, .int .i64 0, .int .i64 4, .int .i64 4, .int .i64 0, .int .i64 0] from (k34_mkM _ _ _ (⟨2, 0, 4, 4, 0, 0⟩ : S34) )) (Reps.c6 (show Kd.M k34 _ _ _ (⟨0, 2, 2, 4, 0, 0⟩ : S34) [.int .i64 0, .int .i64 2, .int .i64 2, .int .i64 4, .int .i64 0, .int .i64 0] from (k34_mkM _ _ _ (⟨0, 2, 2, 4, 0, 0⟩ : S34) )) (Reps.c6 (show Kd.M k34 _ _ _ (⟨1, 0, 2, 2, 0, 0⟩ : S34) [.int .i64 1, .int .i64 0, .int .i64 2, .int .i64 2, .int .i64 0, .int .i64 0] from (k34_mkM _ _ _ (⟨1, 0, 2, 2, 0, 0⟩ : S34) )) (Reps.c6 (show Kd.M k34 _ _ _ (⟨0, 1, 1, 2, 0, 0⟩ : S34) [.int .i64 0, .int .i64 1, .int .i64 1, .int .i64 2, .int .i64 0, .int .i64 0] from (k34_mkM _ _ _ (⟨0, 1, 1, 2, 0, 0⟩ : S34) )) (Reps.none _ _))))))))); intro v128 w12 ho13 hb hg_ hnew_; clear hg_ hnew_; (first | rw [← Ny127.out] at ho13 | (simp only [Int.reduceToNat] at ho13; rw [← Ny127.out] at ho13)); have n0_ := Aside0.mk (Kd.R_elder' (by (with_reducible repeat (first | apply Kd.R_alloc | apply Kd.R_drewN | apply Kd.R_drew)); exact HO126.out) (Kd.R_base ho13) hb); have n1_ := Aside0.mk (Kd.R_lower (Kd.R_new' ho13 (Kd.R_lt (by (with_reducible repeat (first | apply Kd.R_alloc | apply Kd.R_drewN | apply Kd.R_drew)); exact HO126.out))) (below_size (by repeat (first | (with_reducible first | exact HB.out | apply below_alloc | apply pw_below_drewN | apply below_drew1 | refine below_set ?_ GE122.out) | exact HB.out)))); have n2_ := Aside0.mk (blk_below (g := gb122) (o := .cells #[.int .i64 a0_0, .int .i64 a0_1, .int .i64 a0_2, .int .i64 a0_3, .int .i64 a0_4] 23 (0, 0)) (by (with_reducible repeat (first | refine blk_drewN ?_ _ | refine blk_drew ?_ | refine blk_alloc ?_ _)); exact BK122.out) hb); have n3_ := Aside0.mk (below_step (by repeat (first | (with_reducible first | exact HB.out | apply below_alloc | apply pw_below_drewN | apply below_drew1 | refine below_set ?_ GE122.out) | exact HB.out)) hb); clear HO126; clear BK122; clear HB; have HO126 := n0_; have HO129 := n1_; have BK122 := n2_; have HB := n3_; clear n0_ n1_ n2_ n3_; clear hb ho13))
        go_meet
        case rel => exact ⟨_, (y127), H', ⟨by first | omega | exact Nat.le_refl _⟩, ⟨by (with_reducible repeat (first | apply Kd.R_alloc | apply Kd.R_drewN | apply Kd.R_drew)); exact Kd.R_mono HO129.out (fun _ hk => trivial)⟩, ⟨by (with_reducible repeat (first | refine blk_drewN ?_ _ | refine blk_drew ?_ | refine blk_alloc ?_ _)); exact BK122.out⟩, ⟨by repeat (first | (with_reducible first | exact HB.out | apply below_alloc | apply pw_below_drewN | apply below_drew1 | refine below_set ?_ GE122.out) | exact HB.out)⟩⟩
      · rw [if_neg c11] at H
        have c11b0 : (a0_4 == 1) = false := beq_eq_false_iff_ne.mpr c11
        have c11b1 : (a0_4 != 1) = true := bne_iff_ne.mpr c11
        (first | rw [c11b0] | (simp only [i64_w, i32_w]; rw [c11b0]) | skip)
        have H' := Aside0.mk H
        clear H
        go_wp2
        go_meet
        case rel => exact ⟨_, (y124), H', ⟨by first | omega | exact Nat.le_refl _⟩, ⟨by (with_reducible repeat (first | apply Kd.R_alloc | apply Kd.R_drewN | apply Kd.R_drew)); exact HO126.out⟩, ⟨by (with_reducible repeat (first | refine blk_drewN ?_ _ | refine blk_drew ?_ | refine blk_alloc ?_ _)); exact BK122.out⟩, ⟨by repeat (first | (with_reducible first | exact HB.out | apply below_alloc | apply pw_below_drewN | apply below_drew1 | refine below_set ?_ GE122.out) | exact HB.out)⟩⟩
    case rest =>
      clear HC4
      try clear c1
      try clear c2
      try clear p2
      try clear c3
      try clear c3b0
      try clear c3b1
      try clear c6
      try clear c11
      try clear c11b0
      try clear c11b1
      try clear c12
      try clear hcz10_0
      try clear hcz10_1
      try clear hcz10_2
      try clear hcz10_3
      try clear hcz10_4
      try clear hcz6_0
      try clear hcz6_1
      try clear hcz6_2
      try clear hcz6_3
      try clear hcz6_4
      try clear hfz10_0
      try clear hfz10_1
      try clear hfz10_2
      try clear hfz10_3
      try clear hfz10_4
      try clear hfz6_0
      try clear hfz6_1
      try clear hfz6_2
      try clear hfz6_3
      try clear hfz6_4
      obtain ⟨kq, x3_3, HA, HJ3, HO_3, BK122, HB⟩ := hcut
      cases kq with
      | zero => exact absurd HA.out (by simp [vitrineref10_Passes.j0])
      | succ kj3 =>
        have H := HA.out
        clear HA
        simp only [vitrineref10_Passes.j0] at H
        have H' := Aside0.mk H
        clear H
        go_wp2
        go_loopg [4, 5] kj3 (fun kq v4 v5 w' => ∃ (x4_2 : List (S34)) (x5_2 : Int), v5 = .int .i64 x5_2 ∧ Aside0 (vitrineref10_Passes.l0 kq x3_3 x4_2 x5_2 a0_0 a0_1 a0_2 a0_3 a0_4 = some r) ∧ Aside0 (kq ≤ kj3) ∧ Aside0 (Kd.R k34 34 w' w.heap.size (fun k_ => some k_ ≠ (v4 : Value).ownBlock) u3 x3_3) ∧ Aside0 (Kd.R k34 34 w' w.heap.size (fun k_ => some k_ ≠ (u3 : Value).ownBlock) v4 x4_2) ∧ Aside0 (w'.heap[gb122]? = some (.cells #[.int .i64 a0_0, .int .i64 a0_1, .int .i64 a0_2, .int .i64 a0_3, .int .i64 a0_4] 23 (0, 0))) ∧ Aside0 (Below w.heap.size w w'))
        case atStart => exact ⟨(([] : List (S34))), (0), (by first | rfl | (simp; done) | (simp [*]; done)), H', ⟨Nat.le_refl _⟩, ⟨by (with_reducible repeat (first | apply Kd.R_alloc | apply Kd.R_drewN | apply Kd.R_drew)); exact Kd.R_mono HO_3.out (fun _ hk => (by simp [Value.ownBlock]))⟩, ⟨by first | exact Kd.R_nil _ _ _ _ _ | exact Kd.N_nil _ _ _ _ _ | exact Kd.V_nil _ _ _ _ _ | exact Kd.Q_nil _ _ _ _ _ | exact Kd.S_nil _ _ _ _ _⟩, ⟨by (with_reducible repeat (first | refine blk_drewN ?_ _ | refine blk_drew ?_ | refine blk_alloc ?_ _)); exact BK122.out⟩, ⟨by repeat (first | (with_reducible first | exact HB.out | apply below_alloc | apply pw_below_drewN | apply below_drew1 | refine below_set ?_ GE122.out) | exact HB.out)⟩⟩
        case round =>
          clear H'
          try clear c1
          try clear c2
          try clear p2
          try clear c3
          try clear c3b0
          try clear c3b1
          try clear c6
          try clear c11
          try clear c11b0
          try clear c11b1
          try clear c12
          try clear hcz10_0
          try clear hcz10_1
          try clear hcz10_2
          try clear hcz10_3
          try clear hcz10_4
          try clear hcz6_0
          try clear hcz6_1
          try clear hcz6_2
          try clear hcz6_3
          try clear hcz6_4
          try clear hfz10_0
          try clear hfz10_1
          try clear hfz10_2
          try clear hfz10_3
          try clear hfz10_4
          try clear hfz6_0
          try clear hfz6_1
          try clear hfz6_2
          try clear hfz6_3
          try clear hfz6_4
          try clear p2
          obtain ⟨x4_2, x5_2, rfl, HA, HK2, HO_3, HO_4, BK122, HB⟩ := hrel
          cases gk with
          | zero => exact absurd HA.out (by simp [vitrineref10_Passes.l0])
          | succ k2 =>
            have H := HA.out
            clear HA
            simp only [vitrineref10_Passes.l0] at H
            by_cases c14 : x5_2 < (x3_3.length : Int)
            · rw [if_pos c14] at H
              have c14b0 : decide (x5_2 < (x3_3.length : Int)) = true := decide_eq_true c14
              clear c14
              by_cases c15 : 0 ≤ x5_2
              · rw [if_pos c15] at H
                have c15b0 : decide (0 ≤ x5_2) = true := decide_eq_true c15
                clear c15
                replace H := Option.bind_eq_some_iff.mp H
                obtain ⟨t132, A160, H⟩ := H
                replace H : ((vitrineref10_many.f k2 a0_1 ((rd_T34 x3_3 x5_2).f1) ((rd_T34 x3_3 x5_2).f3)).bind fun t133 => (if t132 > 0 then (if t133 > 0 then (if x4_2.length < 2932031007402 then (vitrineref10_Passes.l0 k2 x3_3 (x4_2 ++ [(⟨(rd_T34 x3_3 x5_2).f0, (rd_T34 x3_3 x5_2).f1, (rd_T34 x3_3 x5_2).f2, (rd_T34 x3_3 x5_2).f3, t132, t133⟩ : S34)]) (wrap64 (x5_2 + 1)) a0_0 a0_1 a0_2 a0_3 a0_4) else (none)) else (vitrineref10_Passes.l0 k2 x3_3 x4_2 (wrap64 (x5_2 + 1)) a0_0 a0_1 a0_2 a0_3 a0_4)) else (vitrineref10_Passes.l0 k2 x3_3 x4_2 (wrap64 (x5_2 + 1)) a0_0 a0_1 a0_2 a0_3 a0_4))) = some r := H
                have A16 := Aside0.mk A160
                clear A160
                replace H := Option.bind_eq_some_iff.mp H
                obtain ⟨t133, A170, H⟩ := H
                replace H : (if t132 > 0 then (if t133 > 0 then (if x4_2.length < 2932031007402 then (vitrineref10_Passes.l0 k2 x3_3 (x4_2 ++ [(⟨(rd_T34 x3_3 x5_2).f0, (rd_T34 x3_3 x5_2).f1, (rd_T34 x3_3 x5_2).f2, (rd_T34 x3_3 x5_2).f3, t132, t133⟩ : S34)]) (wrap64 (x5_2 + 1)) a0_0 a0_1 a0_2 a0_3 a0_4) else (none)) else (vitrineref10_Passes.l0 k2 x3_3 x4_2 (wrap64 (x5_2 + 1)) a0_0 a0_1 a0_2 a0_3 a0_4)) else (vitrineref10_Passes.l0 k2 x3_3 x4_2 (wrap64 (x5_2 + 1)) a0_0 a0_1 a0_2 a0_3 a0_4)) = some r := H
                have A17 := Aside0.mk A170
                clear A170
                by_cases c18 : t132 > 0
                · rw [if_pos c18] at H
                  have c18b0 : decide (0 < t132) = true := decide_eq_true c18
                  clear c18
                  by_cases c19 : t133 > 0
                  · rw [if_pos c19] at H
                    have c19b0 : decide (0 < t133) = true := decide_eq_true c19
                    clear c19
                    by_cases c20 : x4_2.length < 2932031007402
                    · rw [if_pos c20] at H
                      have LMc20 := Aside0.mk c20
                      clear c20
                      obtain ⟨y134, hy134⟩ : ∃ y_ : List (S34), y_ = (x4_2 ++ [(⟨(rd_T34 x3_3 x5_2).f0, (rd_T34 x3_3 x5_2).f1, (rd_T34 x3_3 x5_2).f2, (rd_T34 x3_3 x5_2).f3, t132, t133⟩ : S34)]) := ⟨_, rfl⟩
                      replace H : (vitrineref10_Passes.l0 k2 x3_3 y134 (wrap64 (x5_2 + 1)) a0_0 a0_1 a0_2 a0_3 a0_4) = some r := by first | (rw [hy134]; with_reducible exact H) | (have H2_ := (Option.bind_some _ _).symm.trans H; rw [hy134]; with_reducible exact H2_) | (have H2_ := (Option.bind_some _ _).symm.trans H; with_reducible exact H2_) | with_reducible exact H | (rw [hy134]; exact H) | exact H
                      have Ny134 := Aside0.mk hy134
                      clear hy134
                      have H' := Aside0.mk H
                      clear H
                      obtain ⟨Ao21, co21, eo21⟩ := Kd.R_slice HO_3.out
                      subst eo21
                      have p130 : 0 ≤ (x5_2 : Int) := of_decide_eq_true (by first | (with_reducible assumption) | assumption)
                      have q130 : x5_2 < (x3_3.length : Int) := of_decide_eq_true (by first | (with_reducible assumption) | assumption)
                      obtain ⟨ad130, e130, hx130_0, hx130_1, hx130_2, hx130_3, hx130_4, hx130_5⟩ := at_T34 (Kd.R_reads' HO_3.out).2.2 x5_2 p130 q130
                      cases e130
                      replace p130 := eq_true p130
                      replace q130 := eq_true q130
                      go_upto_region 11 with (fail)
                      obtain ⟨gb131, hg, w22, hw_, hbox, hb⟩ : ∃ g_ : Nat, g_ = (by exact wr : World).heap.size ∧ ∃ w_ : World, w_ = wr.alloc (.cells #[.int .i64 ((rd_T34 x3_3 x5_2).f0), .int .i64 ((rd_T34 x3_3 x5_2).f1), .int .i64 ((rd_T34 x3_3 x5_2).f2), .int .i64 ((rd_T34 x3_3 x5_2).f3), .int .i64 ((rd_T34 x3_3 x5_2).f4), .int .i64 ((rd_T34 x3_3 x5_2).f5)] 34) ∧ w_.heap[g_]? = some (.cells #[.int .i64 ((rd_T34 x3_3 x5_2).f0), .int .i64 ((rd_T34 x3_3 x5_2).f1), .int .i64 ((rd_T34 x3_3 x5_2).f2), .int .i64 ((rd_T34 x3_3 x5_2).f3), .int .i64 ((rd_T34 x3_3 x5_2).f4), .int .i64 ((rd_T34 x3_3 x5_2).f5)] 34 (0, 0)) ∧ Below wr.heap.size wr w_ := ⟨_, rfl, _, rfl, Array.getElem?_push_size, below_alloc (Below.refl _ _) _⟩
                      rw [← hg, ← hw_]
                      clear hw_
                      have n0_ := Aside0.mk (Kd.R_below (Kd.R_elderB (by (with_reducible repeat (first | apply Kd.R_alloc | apply Kd.R_drewN | apply Kd.R_drew)); exact HO_3.out) gb131 (Nat.le_of_eq hg.symm)) hb)
                      have n1_ := Aside0.mk (Kd.R_below (Kd.R_elderB (by (with_reducible repeat (first | apply Kd.R_alloc | apply Kd.R_drewN | apply Kd.R_drew)); exact HO_4.out) gb131 (Nat.le_of_eq hg.symm)) hb)
                      have n2_ := Aside0.mk (blk_below (g := gb122) (o := .cells #[.int .i64 a0_0, .int .i64 a0_1, .int .i64 a0_2, .int .i64 a0_3, .int .i64 a0_4] 23 (0, 0)) (by (with_reducible repeat (first | refine blk_drewN ?_ _ | refine blk_drew ?_ | refine blk_alloc ?_ _)); exact BK122.out) hb)
                      have n3_ := Aside0.mk (below_step (by repeat (first | (with_reducible first | exact HB.out | apply below_alloc | apply pw_below_drewN | apply below_drew1 | refine below_set ?_ GE122.out) | exact HB.out)) hb)
                      have n4_ := Aside0.mk (hbox)
                      have n5_ := Aside0.mk ((by rw [hg]; exact (below_size (by repeat (first | (with_reducible first | exact HB.out | apply below_alloc | apply pw_below_drewN | apply below_drew1 | refine below_set ?_ GE122.out) | exact HB.out))) : w.heap.size ≤ gb131))
                      have n6_ := Aside0.mk ((by rw [hg]; exact (below_size (by repeat (first | (with_reducible first | exact HB.out | apply below_alloc | apply pw_below_drewN | apply below_drew1 | refine below_set ?_ GE122.out) | exact HB.out))) : w.heap.size ≤ gb131))
                      have n7_ := Aside0.mk ((by rw [hg]; exact Nat.ne_of_lt (blk_lt (g := gb122) (o := .cells #[.int .i64 a0_0, .int .i64 a0_1, .int .i64 a0_2, .int .i64 a0_3, .int .i64 a0_4] 23 (0, 0)) (by (with_reducible repeat (first | refine blk_drewN ?_ _ | refine blk_drew ?_ | refine blk_alloc ?_ _)); exact BK122.out)) : gb122 ≠ gb131))
                      have n8_ := Aside0.mk ((by rw [hg]; exact Nat.ne_of_gt (blk_lt (g := gb122) (o := .cells #[.int .i64 a0_0, .int .i64 a0_1, .int .i64 a0_2, .int .i64 a0_3, .int .i64 a0_4] 23 (0, 0)) (by (with_reducible repeat (first | refine blk_drewN ?_ _ | refine blk_drew ?_ | refine blk_alloc ?_ _)); exact BK122.out)) : gb131 ≠ gb122))
                      clear HO_3
                      clear HO_4
                      clear BK122
                      clear HB
                      have HO_3 := n0_
                      have HO_4 := n1_
                      have BK122 := n2_
                      have HB := n3_
                      have BK131 := n4_
                      have GW131 := n5_
                      have GE131 := n6_
                      have NB122_131 := n7_
                      have NB131_122 := n8_
                      clear n0_ n1_ n2_ n3_ n4_ n5_ n6_ n7_ n8_
                      clear hb hbox hg
                      have hnb23 := NB131_122.out
                      have hnc23 := NB122_131.out
                      have hcz24_0 : w22.cell? ⟨gb131, 0, none⟩ = some (.int .i64 ((rd_T34 x3_3 x5_2).f0)) := (blk_cell BK131.out 0).trans rfl
                      have hcz24_1 : w22.cell? ⟨gb131, 1, none⟩ = some (.int .i64 ((rd_T34 x3_3 x5_2).f1)) := (blk_cell BK131.out 1).trans rfl
                      have hcz24_2 : w22.cell? ⟨gb131, 2, none⟩ = some (.int .i64 ((rd_T34 x3_3 x5_2).f2)) := (blk_cell BK131.out 2).trans rfl
                      have hcz24_3 : w22.cell? ⟨gb131, 3, none⟩ = some (.int .i64 ((rd_T34 x3_3 x5_2).f3)) := (blk_cell BK131.out 3).trans rfl
                      have hcz24_4 : w22.cell? ⟨gb131, 4, none⟩ = some (.int .i64 ((rd_T34 x3_3 x5_2).f4)) := (blk_cell BK131.out 4).trans rfl
                      have hcz24_5 : w22.cell? ⟨gb131, 5, none⟩ = some (.int .i64 ((rd_T34 x3_3 x5_2).f5)) := (blk_cell BK131.out 5).trans rfl
                      have hfz24_0 := blk_frozen BK131.out 0
                      have hfz24_1 := blk_frozen BK131.out 1
                      have hfz24_2 := blk_frozen BK131.out 2
                      have hfz24_3 := blk_frozen BK131.out 3
                      have hfz24_4 := blk_frozen BK131.out 4
                      have hfz24_5 := blk_frozen BK131.out 5
                      have hcz25_0 : w22.cell? ⟨gb122, 0, none⟩ = some (.int .i64 a0_0) := (blk_cell BK122.out 0).trans rfl
                      have hcz25_1 : w22.cell? ⟨gb122, 1, none⟩ = some (.int .i64 a0_1) := (blk_cell BK122.out 1).trans rfl
                      have hcz25_2 : w22.cell? ⟨gb122, 2, none⟩ = some (.int .i64 a0_2) := (blk_cell BK122.out 2).trans rfl
                      have hcz25_3 : w22.cell? ⟨gb122, 3, none⟩ = some (.int .i64 a0_3) := (blk_cell BK122.out 3).trans rfl
                      have hcz25_4 : w22.cell? ⟨gb122, 4, none⟩ = some (.int .i64 a0_4) := (blk_cell BK122.out 4).trans rfl
                      have hfz25_0 := blk_frozen BK122.out 0
                      have hfz25_1 := blk_frozen BK122.out 1
                      have hfz25_2 := blk_frozen BK122.out 2
                      have hfz25_3 := blk_frozen BK122.out 3
                      have hfz25_4 := blk_frozen BK122.out 4
                      go_wp2_with (first | ((with_reducible refine gate_callee (f := 21) rfl ?_); refine goesL_ (some 39) rfl rfl Try.func21 (by kernel_rfl) rfl #[.int .i64 a0_0, .int .i64 ((rd_T34 x3_3 x5_2).f0), .int .i64 ((rd_T34 x3_3 x5_2).f2)] rfl (by (try simp only [List.map_toArray, List.map_cons, List.map_nil]); first | done | rfl | (simp only [List.length_drop, List.length_take]; rfl) | (simp only [ByteArray.size_extract, Nat.min_self]; done) | (simp only [ByteArray.size_extract, Nat.min_self]; rfl)) ?_; (with_reducible refine (vitrineref10_many.calls k2 a0_0 ((rd_T34 x3_3 x5_2).f0) ((rd_T34 x3_3 x5_2).f2) t132 _ A16.out).mono ?_); rintro e w' ⟨rfl, ⟨nd, rfl⟩⟩; refine ⟨_, rfl, ?_⟩) | ((with_reducible refine gate_callee (f := 21) rfl ?_); refine goesL_ (some 47) rfl rfl Try.func21 (by kernel_rfl) rfl #[.int .i64 a0_1, .int .i64 ((rd_T34 x3_3 x5_2).f1), .int .i64 ((rd_T34 x3_3 x5_2).f3)] rfl (by (try simp only [List.map_toArray, List.map_cons, List.map_nil]); first | done | rfl | (simp only [List.length_drop, List.length_take]; rfl) | (simp only [ByteArray.size_extract, Nat.min_self]; done) | (simp only [ByteArray.size_extract, Nat.min_self]; rfl)) ?_; (with_reducible refine (vitrineref10_many.calls k2 a0_1 ((rd_T34 x3_3 x5_2).f1) ((rd_T34 x3_3 x5_2).f3) t133 _ A17.out).mono ?_); rintro e w' ⟨rfl, ⟨nd, rfl⟩⟩; refine ⟨_, rfl, ?_⟩) | ((with_reducible refine gate_builtin (b := .append) (xs := #[.tmp 57, .tmp 59]) rfl ?_); at_builtin; refine Kd.R_append k34 (w0 := w) w.heap.size rfl (.tmp 57) (.tmp 59) 25 34 (.agg #[(.int .i64 0), (.int .i64 0), (.int .i64 0), (.int .i64 0), (.int .i64 0), (.int .i64 0)]) 48 rfl Try.underlying25 info34 rfl (by decide) (by omega) u4 x4_2 (⟨(rd_T34 x3_3 x5_2).f0, (rd_T34 x3_3 x5_2).f1, (rd_T34 x3_3 x5_2).f2, (rd_T34 x3_3 x5_2).f3, t132, t133⟩ : S34) [.int .i64 ((rd_T34 x3_3 x5_2).f0), .int .i64 ((rd_T34 x3_3 x5_2).f1), .int .i64 ((rd_T34 x3_3 x5_2).f2), .int .i64 ((rd_T34 x3_3 x5_2).f3), .int .i64 t132, .int .i64 t133] (fun k_ => some k_ ≠ (.slice (some ad130) x3_3.length co21 : Value).ownBlock ∧ k_ ≠ gb131) (fun _ => False) rfl (by first | (go_simp; done) | (go_simp; rfl)) ?aP (fun _ hk => hk.elim) ?aF ?aO ?aB ?aS ?aL ?_; (case aP => exact k34_mkM _ _ _ (⟨(rd_T34 x3_3 x5_2).f0, (rd_T34 x3_3 x5_2).f1, (rd_T34 x3_3 x5_2).f2, (rd_T34 x3_3 x5_2).f3, t132, t133⟩ : S34)); (case aB => exact (by repeat (first | (with_reducible first | exact HB.out | apply below_alloc | apply pw_below_drewN | apply below_drew1 | refine below_set ?_ GE122.out | refine below_set ?_ GE131.out) | exact HB.out))); (case aF => exact (fun k_ hk => ⟨Kd.fresh' (Kd.R_lt (by (with_reducible repeat (first | apply Kd.R_alloc | apply Kd.R_drewN | apply Kd.R_drew)); exact (Kd.R_mono (Kd.R_far (p := ⟨gb131, 5, none⟩) (Kd.R_far (p := ⟨gb131, 4, none⟩) (Kd.R_mono HO_3.out (fun k_ hk => (⟨hk, hk.2⟩ : _ ∧ k_ ≠ gb131))) (fun _ hk => hk.2) (.int .i64 t132)) (fun _ hk => hk.2) (.int .i64 t133)) (fun _ h_ => h_.1)))) k_ hk, Kd.freshB (g := gb131) (o := .cells #[.int .i64 ((rd_T34 x3_3 x5_2).f0), .int .i64 ((rd_T34 x3_3 x5_2).f1), .int .i64 ((rd_T34 x3_3 x5_2).f2), .int .i64 ((rd_T34 x3_3 x5_2).f3), .int .i64 t132, .int .i64 t133] 34 (0, 0)) (by (with_reducible repeat (first | refine blk_drewN ?_ _ | refine blk_drew ?_ | refine blk_alloc ?_ _)); refine blk_put (cs := #[.int .i64 ((rd_T34 x3_3 x5_2).f0), .int .i64 ((rd_T34 x3_3 x5_2).f1), .int .i64 ((rd_T34 x3_3 x5_2).f2), .int .i64 ((rd_T34 x3_3 x5_2).f3), .int .i64 t132, .int .i64 ((rd_T34 x3_3 x5_2).f5)]) ?_ 5 _ rfl; (with_reducible repeat (first | refine blk_drewN ?_ _ | refine blk_drew ?_ | refine blk_alloc ?_ _)); refine blk_put (cs := #[.int .i64 ((rd_T34 x3_3 x5_2).f0), .int .i64 ((rd_T34 x3_3 x5_2).f1), .int .i64 ((rd_T34 x3_3 x5_2).f2), .int .i64 ((rd_T34 x3_3 x5_2).f3), .int .i64 ((rd_T34 x3_3 x5_2).f4), .int .i64 ((rd_T34 x3_3 x5_2).f5)]) ?_ 4 _ rfl; (with_reducible repeat (first | refine blk_drewN ?_ _ | refine blk_drew ?_ | refine blk_alloc ?_ _)); exact BK131.out) k_ hk⟩)); (case aO => exact (by (with_reducible repeat (first | apply Kd.R_alloc | apply Kd.R_drewN | apply Kd.R_drew)); exact Kd.R_mono (Kd.R_far (p := ⟨gb131, 5, none⟩) (Kd.R_far (p := ⟨gb131, 4, none⟩) (Kd.R_mono HO_4.out (fun k_ hk => (⟨hk, hk.2⟩ : _ ∧ k_ ≠ gb131))) (fun _ hk => hk.2) (.int .i64 t132)) (fun _ hk => hk.2) (.int .i64 t133)) (fun _ hk => ⟨hk.1.1, hk.1.2⟩))); (case aS => exact (below_size (by repeat (first | (with_reducible first | exact HB.out | apply below_alloc | apply pw_below_drewN | apply below_drew1 | refine below_set ?_ GE122.out | refine below_set ?_ GE131.out) | exact HB.out)))); (case aL => have := LMc20.out; omega); intro v135 w26 ho hb hg hat; rw [← Ny134.out] at ho; have n0_ := Aside0.mk (Kd.R_after (ok := (fun k_ => k_ ≠ gb131)) (by (with_reducible repeat (first | apply Kd.R_alloc | apply Kd.R_drewN | apply Kd.R_drew)); exact Kd.R_mono (Kd.R_far (p := ⟨gb131, 5, none⟩) (Kd.R_far (p := ⟨gb131, 4, none⟩) (Kd.R_mono HO_3.out (fun k_ hk => (⟨hk, hk.2⟩ : _ ∧ k_ ≠ gb131))) (fun _ hk => hk.2) (.int .i64 t132)) (fun _ hk => hk.2) (.int .i64 t133)) (fun _ hk => ⟨hk.1.2, hk.1.1⟩)) hg hat); have n1_ := Aside0.mk (blk_grown (g := gb122) (o := .cells #[.int .i64 a0_0, .int .i64 a0_1, .int .i64 a0_2, .int .i64 a0_3, .int .i64 a0_4] 23 (0, 0)) (by (with_reducible repeat (first | refine blk_drewN ?_ _ | refine blk_drew ?_ | refine blk_alloc ?_ _)); refine blk_far ?_ NB122_131.out _; (with_reducible repeat (first | refine blk_drewN ?_ _ | refine blk_drew ?_ | refine blk_alloc ?_ _)); refine blk_far ?_ NB122_131.out _; (with_reducible repeat (first | refine blk_drewN ?_ _ | refine blk_drew ?_ | refine blk_alloc ?_ _)); exact BK122.out) hg (Kd.R_ne HO_4.out BK122.out (by decide))); have n2_ := Aside0.mk (blk_grown (g := gb131) (o := .cells #[.int .i64 ((rd_T34 x3_3 x5_2).f0), .int .i64 ((rd_T34 x3_3 x5_2).f1), .int .i64 ((rd_T34 x3_3 x5_2).f2), .int .i64 ((rd_T34 x3_3 x5_2).f3), .int .i64 t132, .int .i64 t133] 34 (0, 0)) (by (with_reducible repeat (first | refine blk_drewN ?_ _ | refine blk_drew ?_ | refine blk_alloc ?_ _)); refine blk_put (cs := #[.int .i64 ((rd_T34 x3_3 x5_2).f0), .int .i64 ((rd_T34 x3_3 x5_2).f1), .int .i64 ((rd_T34 x3_3 x5_2).f2), .int .i64 ((rd_T34 x3_3 x5_2).f3), .int .i64 t132, .int .i64 ((rd_T34 x3_3 x5_2).f5)]) ?_ 5 _ rfl; (with_reducible repeat (first | refine blk_drewN ?_ _ | refine blk_drew ?_ | refine blk_alloc ?_ _)); refine blk_put (cs := #[.int .i64 ((rd_T34 x3_3 x5_2).f0), .int .i64 ((rd_T34 x3_3 x5_2).f1), .int .i64 ((rd_T34 x3_3 x5_2).f2), .int .i64 ((rd_T34 x3_3 x5_2).f3), .int .i64 ((rd_T34 x3_3 x5_2).f4), .int .i64 ((rd_T34 x3_3 x5_2).f5)]) ?_ 4 _ rfl; (with_reducible repeat (first | refine blk_drewN ?_ _ | refine blk_drew ?_ | refine blk_alloc ?_ _)); exact BK131.out) hg (Kd.R_away HO_4.out (fun _ hk => hk.2))); have n3_ := Aside0.mk (hb); have n4_ := Aside0.mk (ho); clear HO_3; clear BK122; clear BK131; clear HB; clear HO_4; have HO_3 := n0_; have BK122 := n1_; have BK131 := n2_; have HB := n3_; have HO136 := n4_; clear n0_ n1_ n2_ n3_ n4_; clear ho hb hg hat))
                      go_roundg k2
                      case measure => have := HJ3.out; have := HK2.out; omega
                      case rel => exact ⟨(y134), (wrap64 (x5_2 + 1)), (by first | rfl | (simp; done) | (simp [*]; done)), H', ⟨by have := HJ3.out; have := HK2.out; omega⟩, ⟨by (with_reducible repeat (first | apply Kd.R_alloc | apply Kd.R_drewN | apply Kd.R_drew)); exact Kd.R_mono HO_3.out (fun _ hk => hk.2)⟩, ⟨by (with_reducible repeat (first | apply Kd.R_alloc | apply Kd.R_drewN | apply Kd.R_drew)); exact Kd.R_mono HO136.out (fun _ hk => hk.1)⟩, ⟨by (with_reducible repeat (first | refine blk_drewN ?_ _ | refine blk_drew ?_ | refine blk_alloc ?_ _)); exact BK122.out⟩, ⟨by repeat (first | (with_reducible first | exact HB.out | apply below_alloc | apply pw_below_drewN | apply below_drew1 | refine below_set ?_ GE122.out | refine below_set ?_ GE131.out) | exact HB.out)⟩⟩
                    · rw [if_neg c20] at H
                      exact absurd H (by simp)
                  · rw [if_neg c19] at H
                    have c19b0 : decide (0 < t133) = false := decide_eq_false c19
                    clear c19
                    have H' := Aside0.mk H
                    clear H
                    obtain ⟨Ao27, co27, eo27⟩ := Kd.R_slice HO_3.out
                    subst eo27
                    have p130 : 0 ≤ (x5_2 : Int) := of_decide_eq_true (by first | (with_reducible assumption) | assumption)
                    have q130 : x5_2 < (x3_3.length : Int) := of_decide_eq_true (by first | (with_reducible assumption) | assumption)
                    obtain ⟨ad130, e130, hx130_0, hx130_1, hx130_2, hx130_3, hx130_4, hx130_5⟩ := at_T34 (Kd.R_reads' HO_3.out).2.2 x5_2 p130 q130
                    cases e130
                    replace p130 := eq_true p130
                    replace q130 := eq_true q130
                    go_upto_region 11 with (fail)
                    obtain ⟨gb131, hg, w28, hw_, hbox, hb⟩ : ∃ g_ : Nat, g_ = (by exact wr : World).heap.size ∧ ∃ w_ : World, w_ = wr.alloc (.cells #[.int .i64 ((rd_T34 x3_3 x5_2).f0), .int .i64 ((rd_T34 x3_3 x5_2).f1), .int .i64 ((rd_T34 x3_3 x5_2).f2), .int .i64 ((rd_T34 x3_3 x5_2).f3), .int .i64 ((rd_T34 x3_3 x5_2).f4), .int .i64 ((rd_T34 x3_3 x5_2).f5)] 34) ∧ w_.heap[g_]? = some (.cells #[.int .i64 ((rd_T34 x3_3 x5_2).f0), .int .i64 ((rd_T34 x3_3 x5_2).f1), .int .i64 ((rd_T34 x3_3 x5_2).f2), .int .i64 ((rd_T34 x3_3 x5_2).f3), .int .i64 ((rd_T34 x3_3 x5_2).f4), .int .i64 ((rd_T34 x3_3 x5_2).f5)] 34 (0, 0)) ∧ Below wr.heap.size wr w_ := ⟨_, rfl, _, rfl, Array.getElem?_push_size, below_alloc (Below.refl _ _) _⟩
                    rw [← hg, ← hw_]
                    clear hw_
                    have n0_ := Aside0.mk (Kd.R_below (Kd.R_elderB (by (with_reducible repeat (first | apply Kd.R_alloc | apply Kd.R_drewN | apply Kd.R_drew)); exact HO_3.out) gb131 (Nat.le_of_eq hg.symm)) hb)
                    have n1_ := Aside0.mk (Kd.R_below (Kd.R_elderB (by (with_reducible repeat (first | apply Kd.R_alloc | apply Kd.R_drewN | apply Kd.R_drew)); exact HO_4.out) gb131 (Nat.le_of_eq hg.symm)) hb)
                    have n2_ := Aside0.mk (blk_below (g := gb122) (o := .cells #[.int .i64 a0_0, .int .i64 a0_1, .int .i64 a0_2, .int .i64 a0_3, .int .i64 a0_4] 23 (0, 0)) (by (with_reducible repeat (first | refine blk_drewN ?_ _ | refine blk_drew ?_ | refine blk_alloc ?_ _)); exact BK122.out) hb)
                    have n3_ := Aside0.mk (below_step (by repeat (first | (with_reducible first | exact HB.out | apply below_alloc | apply pw_below_drewN | apply below_drew1 | refine below_set ?_ GE122.out) | exact HB.out)) hb)
                    have n4_ := Aside0.mk (hbox)
                    have n5_ := Aside0.mk ((by rw [hg]; exact (below_size (by repeat (first | (with_reducible first | exact HB.out | apply below_alloc | apply pw_below_drewN | apply below_drew1 | refine below_set ?_ GE122.out) | exact HB.out))) : w.heap.size ≤ gb131))
                    have n6_ := Aside0.mk ((by rw [hg]; exact (below_size (by repeat (first | (with_reducible first | exact HB.out | apply below_alloc | apply pw_below_drewN | apply below_drew1 | refine below_set ?_ GE122.out) | exact HB.out))) : w.heap.size ≤ gb131))
                    have n7_ := Aside0.mk ((by rw [hg]; exact Nat.ne_of_lt (blk_lt (g := gb122) (o := .cells #[.int .i64 a0_0, .int .i64 a0_1, .int .i64 a0_2, .int .i64 a0_3, .int .i64 a0_4] 23 (0, 0)) (by (with_reducible repeat (first | refine blk_drewN ?_ _ | refine blk_drew ?_ | refine blk_alloc ?_ _)); exact BK122.out)) : gb122 ≠ gb131))
                    have n8_ := Aside0.mk ((by rw [hg]; exact Nat.ne_of_gt (blk_lt (g := gb122) (o := .cells #[.int .i64 a0_0, .int .i64 a0_1, .int .i64 a0_2, .int .i64 a0_3, .int .i64 a0_4] 23 (0, 0)) (by (with_reducible repeat (first | refine blk_drewN ?_ _ | refine blk_drew ?_ | refine blk_alloc ?_ _)); exact BK122.out)) : gb131 ≠ gb122))
                    clear HO_3
                    clear HO_4
                    clear BK122
                    clear HB
                    have HO_3 := n0_
                    have HO_4 := n1_
                    have BK122 := n2_
                    have HB := n3_
                    have BK131 := n4_
                    have GW131 := n5_
                    have GE131 := n6_
                    have NB122_131 := n7_
                    have NB131_122 := n8_
                    clear n0_ n1_ n2_ n3_ n4_ n5_ n6_ n7_ n8_
                    clear hb hbox hg
                    have hnb29 := NB131_122.out
                    have hnc29 := NB122_131.out
                    have hcz30_0 : w28.cell? ⟨gb131, 0, none⟩ = some (.int .i64 ((rd_T34 x3_3 x5_2).f0)) := (blk_cell BK131.out 0).trans rfl
                    have hcz30_1 : w28.cell? ⟨gb131, 1, none⟩ = some (.int .i64 ((rd_T34 x3_3 x5_2).f1)) := (blk_cell BK131.out 1).trans rfl
                    have hcz30_2 : w28.cell? ⟨gb131, 2, none⟩ = some (.int .i64 ((rd_T34 x3_3 x5_2).f2)) := (blk_cell BK131.out 2).trans rfl
                    have hcz30_3 : w28.cell? ⟨gb131, 3, none⟩ = some (.int .i64 ((rd_T34 x3_3 x5_2).f3)) := (blk_cell BK131.out 3).trans rfl
                    have hcz30_4 : w28.cell? ⟨gb131, 4, none⟩ = some (.int .i64 ((rd_T34 x3_3 x5_2).f4)) := (blk_cell BK131.out 4).trans rfl
                    have hcz30_5 : w28.cell? ⟨gb131, 5, none⟩ = some (.int .i64 ((rd_T34 x3_3 x5_2).f5)) := (blk_cell BK131.out 5).trans rfl
                    have hfz30_0 := blk_frozen BK131.out 0
                    have hfz30_1 := blk_frozen BK131.out 1
                    have hfz30_2 := blk_frozen BK131.out 2
                    have hfz30_3 := blk_frozen BK131.out 3
                    have hfz30_4 := blk_frozen BK131.out 4
                    have hfz30_5 := blk_frozen BK131.out 5
                    have hcz31_0 : w28.cell? ⟨gb122, 0, none⟩ = some (.int .i64 a0_0) := (blk_cell BK122.out 0).trans rfl
                    have hcz31_1 : w28.cell? ⟨gb122, 1, none⟩ = some (.int .i64 a0_1) := (blk_cell BK122.out 1).trans rfl
                    have hcz31_2 : w28.cell? ⟨gb122, 2, none⟩ = some (.int .i64 a0_2) := (blk_cell BK122.out 2).trans rfl
                    have hcz31_3 : w28.cell? ⟨gb122, 3, none⟩ = some (.int .i64 a0_3) := (blk_cell BK122.out 3).trans rfl
                    have hcz31_4 : w28.cell? ⟨gb122, 4, none⟩ = some (.int .i64 a0_4) := (blk_cell BK122.out 4).trans rfl
                    have hfz31_0 := blk_frozen BK122.out 0
                    have hfz31_1 := blk_frozen BK122.out 1
                    have hfz31_2 := blk_frozen BK122.out 2
                    have hfz31_3 := blk_frozen BK122.out 3
                    have hfz31_4 := blk_frozen BK122.out 4
                    go_wp2_with (first | ((with_reducible refine gate_callee (f := 21) rfl ?_); refine goesL_ (some 39) rfl rfl Try.func21 (by kernel_rfl) rfl #[.int .i64 a0_0, .int .i64 ((rd_T34 x3_3 x5_2).f0), .int .i64 ((rd_T34 x3_3 x5_2).f2)] rfl (by (try simp only [List.map_toArray, List.map_cons, List.map_nil]); first | done | rfl | (simp only [List.length_drop, List.length_take]; rfl) | (simp only [ByteArray.size_extract, Nat.min_self]; done) | (simp only [ByteArray.size_extract, Nat.min_self]; rfl)) ?_; (with_reducible refine (vitrineref10_many.calls k2 a0_0 ((rd_T34 x3_3 x5_2).f0) ((rd_T34 x3_3 x5_2).f2) t132 _ A16.out).mono ?_); rintro e w' ⟨rfl, ⟨nd, rfl⟩⟩; refine ⟨_, rfl, ?_⟩) | ((with_reducible refine gate_callee (f := 21) rfl ?_); refine goesL_ (some 47) rfl rfl Try.func21 (by kernel_rfl) rfl #[.int .i64 a0_1, .int .i64 ((rd_T34 x3_3 x5_2).f1), .int .i64 ((rd_T34 x3_3 x5_2).f3)] rfl (by (try simp only [List.map_toArray, List.map_cons, List.map_nil]); first | done | rfl | (simp only [List.length_drop, List.length_take]; rfl) | (simp only [ByteArray.size_extract, Nat.min_self]; done) | (simp only [ByteArray.size_extract, Nat.min_self]; rfl)) ?_; (with_reducible refine (vitrineref10_many.calls k2 a0_1 ((rd_T34 x3_3 x5_2).f1) ((rd_T34 x3_3 x5_2).f3) t133 _ A17.out).mono ?_); rintro e w' ⟨rfl, ⟨nd, rfl⟩⟩; refine ⟨_, rfl, ?_⟩))
                    go_roundg k2
                    case measure => have := HJ3.out; have := HK2.out; omega
                    case rel => exact ⟨(x4_2), (wrap64 (x5_2 + 1)), (by first | rfl | (simp; done) | (simp [*]; done)), H', ⟨by have := HJ3.out; have := HK2.out; omega⟩, ⟨by (with_reducible repeat (first | apply Kd.R_alloc | apply Kd.R_drewN | apply Kd.R_drew)); exact Kd.R_mono (Kd.R_far (p := ⟨gb131, 5, none⟩) (Kd.R_far (p := ⟨gb131, 4, none⟩) (Kd.R_mono HO_3.out (fun k_ hk => (⟨hk, hk.2⟩ : _ ∧ k_ ≠ gb131))) (fun _ hk => hk.2) (.int .i64 t132)) (fun _ hk => hk.2) (.int .i64 t133)) (fun _ hk => hk.1.1)⟩, ⟨by (with_reducible repeat (first | apply Kd.R_alloc | apply Kd.R_drewN | apply Kd.R_drew)); exact Kd.R_mono (Kd.R_far (p := ⟨gb131, 5, none⟩) (Kd.R_far (p := ⟨gb131, 4, none⟩) (Kd.R_mono HO_4.out (fun k_ hk => (⟨hk, hk.2⟩ : _ ∧ k_ ≠ gb131))) (fun _ hk => hk.2) (.int .i64 t132)) (fun _ hk => hk.2) (.int .i64 t133)) (fun _ hk => hk.1.1)⟩, ⟨by (with_reducible repeat (first | refine blk_drewN ?_ _ | refine blk_drew ?_ | refine blk_alloc ?_ _)); refine blk_far ?_ NB122_131.out _; (with_reducible repeat (first | refine blk_drewN ?_ _ | refine blk_drew ?_ | refine blk_alloc ?_ _)); refine blk_far ?_ NB122_131.out _; (with_reducible repeat (first | refine blk_drewN ?_ _ | refine blk_drew ?_ | refine blk_alloc ?_ _)); exact BK122.out⟩, ⟨by repeat (first | (with_reducible first | exact HB.out | apply below_alloc | apply pw_below_drewN | apply below_drew1 | refine below_set ?_ GE122.out | refine below_set ?_ GE131.out) | exact HB.out)⟩⟩
                · rw [if_neg c18] at H
                  have c18b0 : decide (0 < t132) = false := decide_eq_false c18
                  clear c18
                  have H' := Aside0.mk H
                  clear H
                  obtain ⟨Ao32, co32, eo32⟩ := Kd.R_slice HO_3.out
                  subst eo32
                  have p130 : 0 ≤ (x5_2 : Int) := of_decide_eq_true (by first | (with_reducible assumption) | assumption)
                  have q130 : x5_2 < (x3_3.length : Int) := of_decide_eq_true (by first | (with_reducible assumption) | assumption)
                  obtain ⟨ad130, e130, hx130_0, hx130_1, hx130_2, hx130_3, hx130_4, hx130_5⟩ := at_T34 (Kd.R_reads' HO_3.out).2.2 x5_2 p130 q130
                  cases e130
                  replace p130 := eq_true p130
                  replace q130 := eq_true q130
                  go_upto_region 11 with (fail)
                  obtain ⟨gb131, hg, w33, hw_, hbox, hb⟩ : ∃ g_ : Nat, g_ = (by exact wr : World).heap.size ∧ ∃ w_ : World, w_ = wr.alloc (.cells #[.int .i64 ((rd_T34 x3_3 x5_2).f0), .int .i64 ((rd_T34 x3_3 x5_2).f1), .int .i64 ((rd_T34 x3_3 x5_2).f2), .int .i64 ((rd_T34 x3_3 x5_2).f3), .int .i64 ((rd_T34 x3_3 x5_2).f4), .int .i64 ((rd_T34 x3_3 x5_2).f5)] 34) ∧ w_.heap[g_]? = some (.cells #[.int .i64 ((rd_T34 x3_3 x5_2).f0), .int .i64 ((rd_T34 x3_3 x5_2).f1), .int .i64 ((rd_T34 x3_3 x5_2).f2), .int .i64 ((rd_T34 x3_3 x5_2).f3), .int .i64 ((rd_T34 x3_3 x5_2).f4), .int .i64 ((rd_T34 x3_3 x5_2).f5)] 34 (0, 0)) ∧ Below wr.heap.size wr w_ := ⟨_, rfl, _, rfl, Array.getElem?_push_size, below_alloc (Below.refl _ _) _⟩
                  rw [← hg, ← hw_]
                  clear hw_
                  have n0_ := Aside0.mk (Kd.R_below (Kd.R_elderB (by (with_reducible repeat (first | apply Kd.R_alloc | apply Kd.R_drewN | apply Kd.R_drew)); exact HO_3.out) gb131 (Nat.le_of_eq hg.symm)) hb)
                  have n1_ := Aside0.mk (Kd.R_below (Kd.R_elderB (by (with_reducible repeat (first | apply Kd.R_alloc | apply Kd.R_drewN | apply Kd.R_drew)); exact HO_4.out) gb131 (Nat.le_of_eq hg.symm)) hb)
                  have n2_ := Aside0.mk (blk_below (g := gb122) (o := .cells #[.int .i64 a0_0, .int .i64 a0_1, .int .i64 a0_2, .int .i64 a0_3, .int .i64 a0_4] 23 (0, 0)) (by (with_reducible repeat (first | refine blk_drewN ?_ _ | refine blk_drew ?_ | refine blk_alloc ?_ _)); exact BK122.out) hb)
                  have n3_ := Aside0.mk (below_step (by repeat (first | (with_reducible first | exact HB.out | apply below_alloc | apply pw_below_drewN | apply below_drew1 | refine below_set ?_ GE122.out) | exact HB.out)) hb)
                  have n4_ := Aside0.mk (hbox)
                  have n5_ := Aside0.mk ((by rw [hg]; exact (below_size (by repeat (first | (with_reducible first | exact HB.out | apply below_alloc | apply pw_below_drewN | apply below_drew1 | refine below_set ?_ GE122.out) | exact HB.out))) : w.heap.size ≤ gb131))
                  have n6_ := Aside0.mk ((by rw [hg]; exact (below_size (by repeat (first | (with_reducible first | exact HB.out | apply below_alloc | apply pw_below_drewN | apply below_drew1 | refine below_set ?_ GE122.out) | exact HB.out))) : w.heap.size ≤ gb131))
                  have n7_ := Aside0.mk ((by rw [hg]; exact Nat.ne_of_lt (blk_lt (g := gb122) (o := .cells #[.int .i64 a0_0, .int .i64 a0_1, .int .i64 a0_2, .int .i64 a0_3, .int .i64 a0_4] 23 (0, 0)) (by (with_reducible repeat (first | refine blk_drewN ?_ _ | refine blk_drew ?_ | refine blk_alloc ?_ _)); exact BK122.out)) : gb122 ≠ gb131))
                  have n8_ := Aside0.mk ((by rw [hg]; exact Nat.ne_of_gt (blk_lt (g := gb122) (o := .cells #[.int .i64 a0_0, .int .i64 a0_1, .int .i64 a0_2, .int .i64 a0_3, .int .i64 a0_4] 23 (0, 0)) (by (with_reducible repeat (first | refine blk_drewN ?_ _ | refine blk_drew ?_ | refine blk_alloc ?_ _)); exact BK122.out)) : gb131 ≠ gb122))
                  clear HO_3
                  clear HO_4
                  clear BK122
                  clear HB
                  have HO_3 := n0_
                  have HO_4 := n1_
                  have BK122 := n2_
                  have HB := n3_
                  have BK131 := n4_
                  have GW131 := n5_
                  have GE131 := n6_
                  have NB122_131 := n7_
                  have NB131_122 := n8_
                  clear n0_ n1_ n2_ n3_ n4_ n5_ n6_ n7_ n8_
                  clear hb hbox hg
                  have hnb34 := NB131_122.out
                  have hnc34 := NB122_131.out
                  have hcz35_0 : w33.cell? ⟨gb131, 0, none⟩ = some (.int .i64 ((rd_T34 x3_3 x5_2).f0)) := (blk_cell BK131.out 0).trans rfl
                  have hcz35_1 : w33.cell? ⟨gb131, 1, none⟩ = some (.int .i64 ((rd_T34 x3_3 x5_2).f1)) := (blk_cell BK131.out 1).trans rfl
                  have hcz35_2 : w33.cell? ⟨gb131, 2, none⟩ = some (.int .i64 ((rd_T34 x3_3 x5_2).f2)) := (blk_cell BK131.out 2).trans rfl
                  have hcz35_3 : w33.cell? ⟨gb131, 3, none⟩ = some (.int .i64 ((rd_T34 x3_3 x5_2).f3)) := (blk_cell BK131.out 3).trans rfl
                  have hcz35_4 : w33.cell? ⟨gb131, 4, none⟩ = some (.int .i64 ((rd_T34 x3_3 x5_2).f4)) := (blk_cell BK131.out 4).trans rfl
                  have hcz35_5 : w33.cell? ⟨gb131, 5, none⟩ = some (.int .i64 ((rd_T34 x3_3 x5_2).f5)) := (blk_cell BK131.out 5).trans rfl
                  have hfz35_0 := blk_frozen BK131.out 0
                  have hfz35_1 := blk_frozen BK131.out 1
                  have hfz35_2 := blk_frozen BK131.out 2
                  have hfz35_3 := blk_frozen BK131.out 3
                  have hfz35_4 := blk_frozen BK131.out 4
                  have hfz35_5 := blk_frozen BK131.out 5
                  have hcz36_0 : w33.cell? ⟨gb122, 0, none⟩ = some (.int .i64 a0_0) := (blk_cell BK122.out 0).trans rfl
                  have hcz36_1 : w33.cell? ⟨gb122, 1, none⟩ = some (.int .i64 a0_1) := (blk_cell BK122.out 1).trans rfl
                  have hcz36_2 : w33.cell? ⟨gb122, 2, none⟩ = some (.int .i64 a0_2) := (blk_cell BK122.out 2).trans rfl
                  have hcz36_3 : w33.cell? ⟨gb122, 3, none⟩ = some (.int .i64 a0_3) := (blk_cell BK122.out 3).trans rfl
                  have hcz36_4 : w33.cell? ⟨gb122, 4, none⟩ = some (.int .i64 a0_4) := (blk_cell BK122.out 4).trans rfl
                  have hfz36_0 := blk_frozen BK122.out 0
                  have hfz36_1 := blk_frozen BK122.out 1
                  have hfz36_2 := blk_frozen BK122.out 2
                  have hfz36_3 := blk_frozen BK122.out 3
                  have hfz36_4 := blk_frozen BK122.out 4
                  go_wp2_with (first | ((with_reducible refine gate_callee (f := 21) rfl ?_); refine goesL_ (some 39) rfl rfl Try.func21 (by kernel_rfl) rfl #[.int .i64 a0_0, .int .i64 ((rd_T34 x3_3 x5_2).f0), .int .i64 ((rd_T34 x3_3 x5_2).f2)] rfl (by (try simp only [List.map_toArray, List.map_cons, List.map_nil]); first | done | rfl | (simp only [List.length_drop, List.length_take]; rfl) | (simp only [ByteArray.size_extract, Nat.min_self]; done) | (simp only [ByteArray.size_extract, Nat.min_self]; rfl)) ?_; (with_reducible refine (vitrineref10_many.calls k2 a0_0 ((rd_T34 x3_3 x5_2).f0) ((rd_T34 x3_3 x5_2).f2) t132 _ A16.out).mono ?_); rintro e w' ⟨rfl, ⟨nd, rfl⟩⟩; refine ⟨_, rfl, ?_⟩) | ((with_reducible refine gate_callee (f := 21) rfl ?_); refine goesL_ (some 47) rfl rfl Try.func21 (by kernel_rfl) rfl #[.int .i64 a0_1, .int .i64 ((rd_T34 x3_3 x5_2).f1), .int .i64 ((rd_T34 x3_3 x5_2).f3)] rfl (by (try simp only [List.map_toArray, List.map_cons, List.map_nil]); first | done | rfl | (simp only [List.length_drop, List.length_take]; rfl) | (simp only [ByteArray.size_extract, Nat.min_self]; done) | (simp only [ByteArray.size_extract, Nat.min_self]; rfl)) ?_; (with_reducible refine (vitrineref10_many.calls k2 a0_1 ((rd_T34 x3_3 x5_2).f1) ((rd_T34 x3_3 x5_2).f3) t133 _ A17.out).mono ?_); rintro e w' ⟨rfl, ⟨nd, rfl⟩⟩; refine ⟨_, rfl, ?_⟩))
                  go_roundg k2
                  case measure => have := HJ3.out; have := HK2.out; omega
                  case rel => exact ⟨(x4_2), (wrap64 (x5_2 + 1)), (by first | rfl | (simp; done) | (simp [*]; done)), H', ⟨by have := HJ3.out; have := HK2.out; omega⟩, ⟨by (with_reducible repeat (first | apply Kd.R_alloc | apply Kd.R_drewN | apply Kd.R_drew)); exact Kd.R_mono (Kd.R_far (p := ⟨gb131, 5, none⟩) (Kd.R_far (p := ⟨gb131, 4, none⟩) (Kd.R_mono HO_3.out (fun k_ hk => (⟨hk, hk.2⟩ : _ ∧ k_ ≠ gb131))) (fun _ hk => hk.2) (.int .i64 t132)) (fun _ hk => hk.2) (.int .i64 t133)) (fun _ hk => hk.1.1)⟩, ⟨by (with_reducible repeat (first | apply Kd.R_alloc | apply Kd.R_drewN | apply Kd.R_drew)); exact Kd.R_mono (Kd.R_far (p := ⟨gb131, 5, none⟩) (Kd.R_far (p := ⟨gb131, 4, none⟩) (Kd.R_mono HO_4.out (fun k_ hk => (⟨hk, hk.2⟩ : _ ∧ k_ ≠ gb131))) (fun _ hk => hk.2) (.int .i64 t132)) (fun _ hk => hk.2) (.int .i64 t133)) (fun _ hk => hk.1.1)⟩, ⟨by (with_reducible repeat (first | refine blk_drewN ?_ _ | refine blk_drew ?_ | refine blk_alloc ?_ _)); refine blk_far ?_ NB122_131.out _; (with_reducible repeat (first | refine blk_drewN ?_ _ | refine blk_drew ?_ | refine blk_alloc ?_ _)); refine blk_far ?_ NB122_131.out _; (with_reducible repeat (first | refine blk_drewN ?_ _ | refine blk_drew ?_ | refine blk_alloc ?_ _)); exact BK122.out⟩, ⟨by repeat (first | (with_reducible first | exact HB.out | apply below_alloc | apply pw_below_drewN | apply below_drew1 | refine below_set ?_ GE122.out | refine below_set ?_ GE131.out) | exact HB.out)⟩⟩
              · rw [if_neg c15] at H
                exact absurd H (by simp)
            · rw [if_neg c14] at H
              have c14b0 : decide (x5_2 < (x3_3.length : Int)) = false := decide_eq_false c14
              clear c14
              obtain rfl := Option.some.inj H
              obtain ⟨Ao37, co37, eo37⟩ := Kd.R_slice HO_3.out
              subst eo37
              go_wp2
              go_ret
              exact ⟨_, by first | rfl | (simp [errW_none, errW_some] <;> rfl) | (simp [*, errW_none, errW_some] <;> rfl), by (with_reducible repeat (first | apply Kd.R_alloc | apply Kd.R_drewN | apply Kd.R_drew)); exact Kd.R_mono HO_4.out (fun _ hk => trivial), by repeat (first | (with_reducible first | exact HB.out | apply below_alloc | apply pw_below_drewN | apply below_drew1 | refine below_set ?_ GE122.out) | exact HB.out)⟩
  · rw [if_neg c3] at H
    have c3b0 : (t123 == 0) = false := beq_eq_false_iff_ne.mpr c3
    have c3b1 : (t123 != 0) = true := bne_iff_ne.mpr c3
    obtain rfl := Option.some.inj H
    go_enter Try.func12, Try.ntmps12
    go_wp2_with (first | ((with_reducible refine gate_dst (N := 1) rfl ?_); refine box_event ?hg (N := 1) ?hd (cs := #[.int .i64 a0_0, .int .i64 a0_1, .int .i64 a0_2, .int .i64 a0_3, .int .i64 a0_4]) (t := 23) ?hr ?_; (case hd => rfl); (case hg => rfl); (case hr => first | (go_simp; done) | (go_simp; rfl)); intro gb122 hg w38 hbox hb; have n0_ := Aside0.mk (below_step (by repeat (first | (with_reducible first | exact HB.out | apply below_alloc | apply pw_below_drewN | apply below_drew1) | exact HB.out)) hb); have n1_ := Aside0.mk (hbox); have n2_ := Aside0.mk ((by rw [hg]; exact (below_size (by repeat (first | (with_reducible first | exact HB.out | apply below_alloc | apply pw_below_drewN | apply below_drew1) | exact HB.out))) : w.heap.size ≤ gb122)); have n3_ := Aside0.mk ((by rw [hg]; exact (below_size (by repeat (first | (with_reducible first | exact HB.out | apply below_alloc | apply pw_below_drewN | apply below_drew1) | exact HB.out))) : w.heap.size ≤ gb122)); clear HB; have HB := n0_; have BK122 := n1_; have GW122 := n2_; have GE122 := n3_; clear n0_ n1_ n2_ n3_; clear hb hbox hg; have hcz39_0 : w38.cell? ⟨gb122, 0, none⟩ = some (.int .i64 a0_0) := (blk_cell BK122.out 0).trans rfl; have hcz39_1 : w38.cell? ⟨gb122, 1, none⟩ = some (.int .i64 a0_1) := (blk_cell BK122.out 1).trans rfl; have hcz39_2 : w38.cell? ⟨gb122, 2, none⟩ = some (.int .i64 a0_2) := (blk_cell BK122.out 2).trans rfl; have hcz39_3 : w38.cell? ⟨gb122, 3, none⟩ = some (.int .i64 a0_3) := (blk_cell BK122.out 3).trans rfl; have hcz39_4 : w38.cell? ⟨gb122, 4, none⟩ = some (.int .i64 a0_4) := (blk_cell BK122.out 4).trans rfl; have hfz39_0 := blk_frozen BK122.out 0; have hfz39_1 := blk_frozen BK122.out 1; have hfz39_2 := blk_frozen BK122.out 2; have hfz39_3 := blk_frozen BK122.out 3; have hfz39_4 := blk_frozen BK122.out 4) | ((with_reducible refine gate_callee (f := 20) rfl ?_); refine goesL_ (some 8) rfl rfl Try.func20 (by kernel_rfl) rfl #[.agg #[.int .i64 a0_0, .int .i64 a0_1, .int .i64 a0_2, .int .i64 a0_3, .int .i64 a0_4]] rfl (by (try simp only [List.map_toArray, List.map_cons, List.map_nil]); first | done | rfl | (simp only [List.length_drop, List.length_take]; rfl) | (simp only [ByteArray.size_extract, Nat.min_self]; done) | (simp only [ByteArray.size_extract, Nat.min_self]; rfl)) ?_; (with_reducible refine (vitrineref08_Right.calls k a0_0 a0_1 a0_2 a0_3 a0_4 t123 _ A2.out).mono ?_); rintro e w40 ⟨rfl, hb⟩; refine ⟨_, rfl, ?_⟩; have n0_ := Aside0.mk (blk_below (g := gb122) (o := .cells #[.int .i64 a0_0, .int .i64 a0_1, .int .i64 a0_2, .int .i64 a0_3, .int .i64 a0_4] 23 (0, 0)) (by (with_reducible repeat (first | refine blk_drewN ?_ _ | refine blk_drew ?_ | refine blk_alloc ?_ _)); exact BK122.out) hb); have n1_ := Aside0.mk (below_step (by repeat (first | (with_reducible first | exact HB.out | apply below_alloc | apply pw_below_drewN | apply below_drew1 | refine below_set ?_ GE122.out) | exact HB.out)) hb); clear BK122; clear HB; have BK122 := n0_; have HB := n1_; clear n0_ n1_; (try clear hb); (try clear hb2); (try clear hk); (try clear hi)))
    go_ret
    exact ⟨_, by first | rfl | (simp [errW_none, errW_some] <;> rfl) | (simp [*, errW_none, errW_some] <;> rfl), by first | exact Kd.R_nil _ _ _ _ _ | exact Kd.N_nil _ _ _ _ _ | exact Kd.V_nil _ _ _ _ _ | exact Kd.Q_nil _ _ _ _ _ | exact Kd.S_nil _ _ _ _ _, by repeat (first | (with_reducible first | exact HB.out | apply below_alloc | apply pw_below_drewN | apply below_drew1 | refine below_set ?_ GE122.out) | exact HB.out)⟩

end Go.Proofs.Ytlonbchidopcpaa.PL10
