/- Printed for this claim by a program of this session over the kit's print program: the Go functions as Lean functions, and proofs that the calls come to these answers. No conditions. -/
import Derived.Test.YtpccfanjdbenlaaPM11x0
namespace Go.Proofs.Ytpccfanjdbenlaa.PM11
open Go.RowKit Go.Proofs.YtpccfanjdbenlaaW.PrintWords Go.Proofs.YtpccfanjdbenlaaW.PrintLast Go.Proofs.YtpccfanjdbenlaaW.PrintMore
attribute [local go_sem] max2_int min2_int max_two min_two max_three min_three max_four min_four   -- for this text's walks alone
set_option linter.unusedVariables false
set_option linter.unusedSimpArgs false

/-! ### samples_glassy: function 27 -/
mutual
def samples_glassy.j0 : Nat → List Int → Bool → Int → Int → Int → Int → Int → ByteArray → ByteArray → Bool → Option (Bool)
  | 0, _, _, _, _, _, _, _, _, _, _ => none
  | k + 1, x1, x19, x149000, x149001, x149002, x149003, x149004, x149005, x149006, x149007 => if x19 = true then (some false) else (samples_glassy.l0 k x1 (x1.length : Int) 0 x149000 x149001 x149002 x149003 x149004 x149005 x149006 x149007)
def samples_glassy.l0 : Nat → List Int → Int → Int → Int → Int → Int → Int → Int → ByteArray → ByteArray → Bool → Option (Bool)
  | 0, _, _, _, _, _, _, _, _, _, _, _ => none
  | k + 1, x20, x21, x22, x149000, x149001, x149002, x149003, x149004, x149005, x149006, x149007 => if x22 < x21 then (if 0 ≤ x22 then (if x22 < (x20.length : Int) then (if 0 ≤ (wrap64 (2 * x22)) then (if (wrap64 (2 * x22)) < (x149006.size : Int) then (if 0 ≤ (wrap64 ((wrap64 (2 * x22)) + 1)) then (if (wrap64 ((wrap64 (2 * x22)) + 1)) < (x149006.size : Int) then (if 0 ≤ x149002 then (if (Go.bits .and .i64 (Go.bits .or .i64 (wrap64 ((wrap64 (bt x149006 (wrap64 (2 * x22)))) * 256)) (wrap64 (bt x149006 (wrap64 ((wrap64 (2 * x22)) + 1))))) (wrap64 ((shl .i64 1 x149002) - 1))) = (rd x20 x22) then (samples_glassy.l0 k x20 x21 (wrap64 (x22 + 1)) x149000 x149001 x149002 x149003 x149004 x149005 x149006 x149007) else (some false)) else (none)) else (none)) else (none)) else (none)) else (none)) else (none)) else (none)) else (some true)
end
def samples_glassy.f (k : Nat) (a0_0 : Int) (a0_1 : Int) (a0_2 : Int) (a0_3 : Int) (a0_4 : Int) (a0_5 : ByteArray) (a0_6 : ByteArray) (a0_7 : Bool) (l1 : List Int) : Option (Bool) := if a0_7 = true then (samples_glassy.j0 k l1 ((a0_6.size : Int) != (wrap64 (2 * (l1.length : Int)))) a0_0 a0_1 a0_2 a0_3 a0_4 a0_5 a0_6 a0_7) else (samples_glassy.j0 k l1 true a0_0 a0_1 a0_2 a0_3 a0_4 a0_5 a0_6 a0_7)
theorem samples_glassy.mono_l : ∀ k, (∀ y0 y1 y2 y3 y4 y5 y6 y7 y8 y9, LeO (samples_glassy.j0 k y0 y1 y2 y3 y4 y5 y6 y7 y8 y9) (samples_glassy.j0 (k + 1) y0 y1 y2 y3 y4 y5 y6 y7 y8 y9)) ∧ (∀ y0 y1 y2 y3 y4 y5 y6 y7 y8 y9 y10, LeO (samples_glassy.l0 k y0 y1 y2 y3 y4 y5 y6 y7 y8 y9 y10) (samples_glassy.l0 (k + 1) y0 y1 y2 y3 y4 y5 y6 y7 y8 y9 y10))
  | 0 => ⟨fun _ _ _ _ _ _ _ _ _ _ r h => by simp [samples_glassy.j0] at h, fun _ _ _ _ _ _ _ _ _ _ _ r h => by simp [samples_glassy.l0] at h⟩
  | k + 1 => by
    obtain ⟨ih0, ih1⟩ := samples_glassy.mono_l k
    refine ⟨?_, ?_⟩
    · intro y0 y1 y2 y3 y4 y5 y6 y7 y8 y9
      unfold samples_glassy.j0
      repeat' first
      | (with_reducible exact ih0 _ _ _ _ _ _ _ _ _ _)
      | (with_reducible exact ih1 _ _ _ _ _ _ _ _ _ _ _)
      | (with_reducible exact LeO.refl _)
      | (with_reducible exact LeO.none _)
      | (with_reducible refine LeO.ite ?_ ?_)
      | (with_reducible refine LeO.bind ?_ (fun _ => ?_))
      | exact ih0 _ _ _ _ _ _ _ _ _ _
      | exact ih1 _ _ _ _ _ _ _ _ _ _ _
      | exact LeO.none _
      | refine LeO.ite ?_ ?_
      | refine LeO.bind ?_ (fun _ => ?_)
    · intro y0 y1 y2 y3 y4 y5 y6 y7 y8 y9 y10
      unfold samples_glassy.l0
      repeat' first
      | (with_reducible exact ih0 _ _ _ _ _ _ _ _ _ _)
      | (with_reducible exact ih1 _ _ _ _ _ _ _ _ _ _ _)
      | (with_reducible exact LeO.refl _)
      | (with_reducible exact LeO.none _)
      | (with_reducible refine LeO.ite ?_ ?_)
      | (with_reducible refine LeO.bind ?_ (fun _ => ?_))
      | exact ih0 _ _ _ _ _ _ _ _ _ _
      | exact ih1 _ _ _ _ _ _ _ _ _ _ _
      | exact LeO.none _
      | refine LeO.ite ?_ ?_
      | refine LeO.bind ?_ (fun _ => ?_)
theorem samples_glassy.mono : ∀ a0 a1 a2 a3 a4 a5 a6 a7 a8 k, LeO (samples_glassy.f k a0 a1 a2 a3 a4 a5 a6 a7 a8) (samples_glassy.f (k + 1) a0 a1 a2 a3 a4 a5 a6 a7 a8) := by
  intro a0 a1 a2 a3 a4 a5 a6 a7 a8 k
  obtain ⟨ih0, ih1⟩ := samples_glassy.mono_l k
  unfold samples_glassy.f
  repeat' first
      | (with_reducible exact ih0 _ _ _ _ _ _ _ _ _ _)
      | (with_reducible exact ih1 _ _ _ _ _ _ _ _ _ _ _)
      | (with_reducible exact LeO.refl _)
      | (with_reducible exact LeO.none _)
      | (with_reducible refine LeO.ite ?_ ?_)
      | (with_reducible refine LeO.bind ?_ (fun _ => ?_))
      | exact ih0 _ _ _ _ _ _ _ _ _ _
      | exact ih1 _ _ _ _ _ _ _ _ _ _ _
      | exact LeO.none _
      | refine LeO.ite ?_ ?_
      | refine LeO.bind ?_ (fun _ => ?_)
set_option maxHeartbeats 8000000 in
set_option maxRecDepth 100000 in
theorem samples_glassy.calls (k : Nat) (a0_0 : Int) (a0_1 : Int) (a0_2 : Int) (a0_3 : Int) (a0_4 : Int) (a0_5 : ByteArray) (a0_6 : ByteArray) (a0_7 : Bool) (A1 : Option Addr) (c1 : Nat) (l1 : List Int) (r : Bool) (w : World) (hr1 : Kd.C (Kd.int .i64) w A1 l1.length l1) (hc1 : l1.length ≤ c1) (h : samples_glassy.f k a0_0 a0_1 a0_2 a0_3 a0_4 a0_5 a0_6 a0_7 l1 = some r) :
    Calls Try.prog 27 #[.agg #[.int .i64 a0_0, .int .i64 a0_1, .int .i64 a0_2, .int .i64 a0_3, .int .i64 a0_4, .string a0_5, .string a0_6, .bool a0_7], .slice A1 l1.length c1] w fun e w' => e = .returned (.bool r) ∧ Below w.heap.size w w' := by
  have hu38 := Try.underlying38
  have HR1 := Aside0.mk hr1
  have HC1 := Aside0.mk hc1
  clear hr1 hc1
  have HB := Aside0.mk (Below.refl w.heap.size w)
  have H : (if a0_7 = true then (samples_glassy.j0 k l1 ((a0_6.size : Int) != (wrap64 (2 * (l1.length : Int)))) a0_0 a0_1 a0_2 a0_3 a0_4 a0_5 a0_6 a0_7) else (samples_glassy.j0 k l1 true a0_0 a0_1 a0_2 a0_3 a0_4 a0_5 a0_6 a0_7)) = some r := h
  clear h
  have HC3 := Aside0.mk H
  clear H
  go_enter Try.func27, Try.ntmps27
  go_upto_region 1 with (first | ((with_reducible refine gate_dst (N := 2) rfl ?_); (try (refine gate_guard (by rfl) ?_; dsimp only)); refine box_event ?hg (N := 2) ?hd (cs := #[.int .i64 a0_0, .int .i64 a0_1, .int .i64 a0_2, .int .i64 a0_3, .int .i64 a0_4, .string a0_5, .string a0_6, .bool a0_7]) (t := 38) ?hr ?_; (case hd => rfl); (case hg => rfl); (case hr => first | (go_simp; done) | (go_simp; rfl)); intro gb148 hg w4 hbox hb; have n0_ := Aside0.mk (below_step (by repeat (first | (with_reducible first | exact HB.out | apply below_alloc | apply pw_below_drewN | apply below_drew1) | exact HB.out)) hb); have n1_ := Aside0.mk (hbox); have n2_ := Aside0.mk ((by rw [hg]; exact (below_size (by repeat (first | (with_reducible first | exact HB.out | apply below_alloc | apply pw_below_drewN | apply below_drew1) | exact HB.out))) : w.heap.size ≤ gb148)); have n3_ := Aside0.mk ((by rw [hg]; exact (below_size (by repeat (first | (with_reducible first | exact HB.out | apply below_alloc | apply pw_below_drewN | apply below_drew1) | exact HB.out))) : w.heap.size ≤ gb148)); clear HB; have HB := n0_; have BK148 := n1_; have GW148 := n2_; have GE148 := n3_; clear n0_ n1_ n2_ n3_; clear hb hbox hg))
  repeat (go_quiet (first | ((with_reducible refine gate_dst (N := 2) rfl ?_); (try (refine gate_guard (by rfl) ?_; dsimp only)); refine box_event ?hg (N := 2) ?hd (cs := #[.int .i64 a0_0, .int .i64 a0_1, .int .i64 a0_2, .int .i64 a0_3, .int .i64 a0_4, .string a0_5, .string a0_6, .bool a0_7]) (t := 38) ?hr ?_; (case hd => rfl); (case hg => rfl); (case hr => first | (go_simp; done) | (go_simp; rfl)); intro gb148 hg w4 hbox hb; have n0_ := Aside0.mk (below_step (by repeat (first | (with_reducible first | exact HB.out | apply below_alloc | apply pw_below_drewN | apply below_drew1) | exact HB.out)) hb); have n1_ := Aside0.mk (hbox); have n2_ := Aside0.mk ((by rw [hg]; exact (below_size (by repeat (first | (with_reducible first | exact HB.out | apply below_alloc | apply pw_below_drewN | apply below_drew1) | exact HB.out))) : w.heap.size ≤ gb148)); have n3_ := Aside0.mk ((by rw [hg]; exact (below_size (by repeat (first | (with_reducible first | exact HB.out | apply below_alloc | apply pw_below_drewN | apply below_drew1) | exact HB.out))) : w.heap.size ≤ gb148)); clear HB; have HB := n0_; have BK148 := n1_; have GW148 := n2_; have GE148 := n3_; clear n0_ n1_ n2_ n3_; clear hb hbox hg)); go_upto_region 1 with (first | ((with_reducible refine gate_dst (N := 2) rfl ?_); (try (refine gate_guard (by rfl) ?_; dsimp only)); refine box_event ?hg (N := 2) ?hd (cs := #[.int .i64 a0_0, .int .i64 a0_1, .int .i64 a0_2, .int .i64 a0_3, .int .i64 a0_4, .string a0_5, .string a0_6, .bool a0_7]) (t := 38) ?hr ?_; (case hd => rfl); (case hg => rfl); (case hr => first | (go_simp; done) | (go_simp; rfl)); intro gb148 hg w4 hbox hb; have n0_ := Aside0.mk (below_step (by repeat (first | (with_reducible first | exact HB.out | apply below_alloc | apply pw_below_drewN | apply below_drew1) | exact HB.out)) hb); have n1_ := Aside0.mk (hbox); have n2_ := Aside0.mk ((by rw [hg]; exact (below_size (by repeat (first | (with_reducible first | exact HB.out | apply below_alloc | apply pw_below_drewN | apply below_drew1) | exact HB.out))) : w.heap.size ≤ gb148)); have n3_ := Aside0.mk ((by rw [hg]; exact (below_size (by repeat (first | (with_reducible first | exact HB.out | apply below_alloc | apply pw_below_drewN | apply below_drew1) | exact HB.out))) : w.heap.size ≤ gb148)); clear HB; have HB := n0_; have BK148 := n1_; have GW148 := n2_; have GE148 := n3_; clear n0_ n1_ n2_ n3_; clear hb hbox hg)))
  (try simp only [Act.put, List.setIfInBounds_toArray, List.set_cons_zero, List.set_cons_succ])
  go_cut [19] (fun v19 wc => ∃ (kq : Nat) (x19_2 : Bool), v19 = .bool x19_2 ∧ Aside0 (samples_glassy.j0 kq l1 x19_2 a0_0 a0_1 a0_2 a0_3 a0_4 a0_5 a0_6 a0_7 = some r) ∧ Aside0 (kq ≤ k) ∧ Aside0 (wc.heap[gb148]? = some (.cells #[.int .i64 a0_0, .int .i64 a0_1, .int .i64 a0_2, .int .i64 a0_3, .int .i64 a0_4, .string a0_5, .string a0_6, .bool a0_7] 38 (0, 0))) ∧ Aside0 (Below w.heap.size w wc))
  case first =>
    have H := HC3.out
    clear HC3
    by_cases c5 : a0_7 = true
    · subst c5
      have H1 : (samples_glassy.j0 k l1 ((a0_6.size : Int) != (wrap64 (2 * (l1.length : Int)))) a0_0 a0_1 a0_2 a0_3 a0_4 a0_5 a0_6 true) = some r := by rw [if_pos rfl] at H; exact H
      clear H
      have H := H1
      clear H1
      have H' := Aside0.mk H
      clear H
      have hcz6_0 : w4.cell? ⟨gb148, 0, none⟩ = some (.int .i64 a0_0) := (blk_cell BK148.out 0).trans rfl
      have hcz6_1 : w4.cell? ⟨gb148, 1, none⟩ = some (.int .i64 a0_1) := (blk_cell BK148.out 1).trans rfl
      have hcz6_2 : w4.cell? ⟨gb148, 2, none⟩ = some (.int .i64 a0_2) := (blk_cell BK148.out 2).trans rfl
      have hcz6_3 : w4.cell? ⟨gb148, 3, none⟩ = some (.int .i64 a0_3) := (blk_cell BK148.out 3).trans rfl
      have hcz6_4 : w4.cell? ⟨gb148, 4, none⟩ = some (.int .i64 a0_4) := (blk_cell BK148.out 4).trans rfl
      have hcz6_5 : w4.cell? ⟨gb148, 5, none⟩ = some (.string a0_5) := (blk_cell BK148.out 5).trans rfl
      have hcz6_6 : w4.cell? ⟨gb148, 6, none⟩ = some (.string a0_6) := (blk_cell BK148.out 6).trans rfl
      have hcz6_7 : w4.cell? ⟨gb148, 7, none⟩ = some (.bool true) := (blk_cell BK148.out 7).trans rfl
      have hfz6_0 := blk_frozen BK148.out 0
      have hfz6_1 := blk_frozen BK148.out 1
      have hfz6_2 := blk_frozen BK148.out 2
      have hfz6_3 := blk_frozen BK148.out 3
      have hfz6_4 := blk_frozen BK148.out 4
      have hfz6_5 := blk_frozen BK148.out 5
      have hfz6_6 := blk_frozen BK148.out 6
      have hfz6_7 := blk_frozen BK148.out 7
      go_wp2
      repeat (go_quiet (fail); try go_wp2)
      go_meet
      case rel => exact ⟨_, (((a0_6.size : Int) != (wrap64 (2 * (l1.length : Int))))), (by first | rfl | (simp; done) | (simp [*]; done)), H', ⟨by first | omega | exact Nat.le_refl _⟩, ⟨by (with_reducible repeat (first | refine blk_drewN ?_ _ | refine blk_drew ?_ | refine blk_alloc ?_ _)); exact BK148.out⟩, ⟨by repeat (first | (with_reducible first | exact HB.out | apply below_alloc | apply pw_below_drewN | apply below_drew1 | refine below_set ?_ GE148.out) | exact HB.out)⟩⟩
    · replace c5 := Bool.eq_false_iff.mpr c5
      subst c5
      have H1 : (samples_glassy.j0 k l1 true a0_0 a0_1 a0_2 a0_3 a0_4 a0_5 a0_6 false) = some r := by rw [if_neg (show ¬ (false = true) by decide)] at H; exact H
      clear H
      have H := H1
      clear H1
      have H' := Aside0.mk H
      clear H
      have hcz7_0 : w4.cell? ⟨gb148, 0, none⟩ = some (.int .i64 a0_0) := (blk_cell BK148.out 0).trans rfl
      have hcz7_1 : w4.cell? ⟨gb148, 1, none⟩ = some (.int .i64 a0_1) := (blk_cell BK148.out 1).trans rfl
      have hcz7_2 : w4.cell? ⟨gb148, 2, none⟩ = some (.int .i64 a0_2) := (blk_cell BK148.out 2).trans rfl
      have hcz7_3 : w4.cell? ⟨gb148, 3, none⟩ = some (.int .i64 a0_3) := (blk_cell BK148.out 3).trans rfl
      have hcz7_4 : w4.cell? ⟨gb148, 4, none⟩ = some (.int .i64 a0_4) := (blk_cell BK148.out 4).trans rfl
      have hcz7_5 : w4.cell? ⟨gb148, 5, none⟩ = some (.string a0_5) := (blk_cell BK148.out 5).trans rfl
      have hcz7_6 : w4.cell? ⟨gb148, 6, none⟩ = some (.string a0_6) := (blk_cell BK148.out 6).trans rfl
      have hcz7_7 : w4.cell? ⟨gb148, 7, none⟩ = some (.bool false) := (blk_cell BK148.out 7).trans rfl
      have hfz7_0 := blk_frozen BK148.out 0
      have hfz7_1 := blk_frozen BK148.out 1
      have hfz7_2 := blk_frozen BK148.out 2
      have hfz7_3 := blk_frozen BK148.out 3
      have hfz7_4 := blk_frozen BK148.out 4
      have hfz7_5 := blk_frozen BK148.out 5
      have hfz7_6 := blk_frozen BK148.out 6
      have hfz7_7 := blk_frozen BK148.out 7
      go_wp2
      repeat (go_quiet (fail); try go_wp2)
      go_meet
      case rel => exact ⟨_, (true), (by first | rfl | (simp; done) | (simp [*]; done)), H', ⟨by first | omega | exact Nat.le_refl _⟩, ⟨by (with_reducible repeat (first | refine blk_drewN ?_ _ | refine blk_drew ?_ | refine blk_alloc ?_ _)); exact BK148.out⟩, ⟨by repeat (first | (with_reducible first | exact HB.out | apply below_alloc | apply pw_below_drewN | apply below_drew1 | refine below_set ?_ GE148.out) | exact HB.out)⟩⟩
  case rest =>
    clear HC3
    try clear c1
    try clear c2
    try clear p2
    try clear c5
    try clear p6
    try clear hcz6_0
    try clear hcz6_1
    try clear hcz6_2
    try clear hcz6_3
    try clear hcz6_4
    try clear hcz6_5
    try clear hcz6_6
    try clear hcz6_7
    try clear hcz7_0
    try clear hcz7_1
    try clear hcz7_2
    try clear hcz7_3
    try clear hcz7_4
    try clear hcz7_5
    try clear hcz7_6
    try clear hcz7_7
    try clear hfz6_0
    try clear hfz6_1
    try clear hfz6_2
    try clear hfz6_3
    try clear hfz6_4
    try clear hfz6_5
    try clear hfz6_6
    try clear hfz6_7
    try clear hfz7_0
    try clear hfz7_1
    try clear hfz7_2
    try clear hfz7_3
    try clear hfz7_4
    try clear hfz7_5
    try clear hfz7_6
    try clear hfz7_7
    obtain ⟨kq, x19_2, rfl, HA, HJ2, BK148, HB⟩ := hcut
    cases kq with
    | zero => exact absurd HA.out (by simp [samples_glassy.j0])
    | succ kj2 =>
      have H := HA.out
      clear HA
      simp only [samples_glassy.j0] at H
      by_cases c8 : x19_2 = true
      · subst c8
        have H1 : (some false) = some r := by rw [if_pos rfl] at H; exact H
        clear H
        have H := H1
        clear H1
        obtain rfl := Option.some.inj H
        go_wp2
        repeat (go_quiet (fail); try go_wp2)
        go_ret
        exact ⟨by first | rfl | (simp [errW_none, errW_some] <;> rfl) | (simp [*, errW_none, errW_some] <;> rfl), by repeat (first | (with_reducible first | exact HB.out | apply below_alloc | apply pw_below_drewN | apply below_drew1 | refine below_set ?_ GE148.out) | exact HB.out)⟩
      · replace c8 := Bool.eq_false_iff.mpr c8
        subst c8
        have H1 : (samples_glassy.l0 kj2 l1 (l1.length : Int) 0 a0_0 a0_1 a0_2 a0_3 a0_4 a0_5 a0_6 a0_7) = some r := by rw [if_neg (show ¬ (false = true) by decide)] at H; exact H
        clear H
        have H := H1
        clear H1
        have H' := Aside0.mk H
        clear H
        go_wp2
        repeat (go_quiet (fail); try go_wp2)
        go_loopg [22] kj2 (fun kq v22 w' => ∃ (x22_2 : Int), v22 = .int .i64 x22_2 ∧ Aside0 (samples_glassy.l0 kq l1 (l1.length : Int) x22_2 a0_0 a0_1 a0_2 a0_3 a0_4 a0_5 a0_6 a0_7 = some r) ∧ Aside0 (kq ≤ kj2) ∧ Aside0 (w'.heap[gb148]? = some (.cells #[.int .i64 a0_0, .int .i64 a0_1, .int .i64 a0_2, .int .i64 a0_3, .int .i64 a0_4, .string a0_5, .string a0_6, .bool a0_7] 38 (0, 0))) ∧ Aside0 (Below w.heap.size w w'))
        case atStart => exact ⟨(0), (by first | rfl | (simp; done) | (simp [*]; done)), H', ⟨Nat.le_refl _⟩, ⟨by (with_reducible repeat (first | refine blk_drewN ?_ _ | refine blk_drew ?_ | refine blk_alloc ?_ _)); exact BK148.out⟩, ⟨by repeat (first | (with_reducible first | exact HB.out | apply below_alloc | apply pw_below_drewN | apply below_drew1 | refine below_set ?_ GE148.out) | exact HB.out)⟩⟩
        case round =>
          clear H'
          try clear c1
          try clear c2
          try clear p2
          try clear c5
          try clear p6
          try clear c8
          try clear hcz6_0
          try clear hcz6_1
          try clear hcz6_2
          try clear hcz6_3
          try clear hcz6_4
          try clear hcz6_5
          try clear hcz6_6
          try clear hcz6_7
          try clear hcz7_0
          try clear hcz7_1
          try clear hcz7_2
          try clear hcz7_3
          try clear hcz7_4
          try clear hcz7_5
          try clear hcz7_6
          try clear hcz7_7
          try clear hfz6_0
          try clear hfz6_1
          try clear hfz6_2
          try clear hfz6_3
          try clear hfz6_4
          try clear hfz6_5
          try clear hfz6_6
          try clear hfz6_7
          try clear hfz7_0
          try clear hfz7_1
          try clear hfz7_2
          try clear hfz7_3
          try clear hfz7_4
          try clear hfz7_5
          try clear hfz7_6
          try clear hfz7_7
          try clear p2
          try clear p6
          obtain ⟨x22_2, rfl, HA, HK2, BK148, HB⟩ := hrel
          cases gk with
          | zero => exact absurd HA.out (by simp [samples_glassy.l0])
          | succ k2 =>
            have H := HA.out
            clear HA
            simp only [samples_glassy.l0] at H
            by_cases c9 : x22_2 < (l1.length : Int)
            · rw [if_pos c9] at H
              have c9b0 : decide (x22_2 < (l1.length : Int)) = true := decide_eq_true c9
              clear c9
              by_cases c10 : 0 ≤ x22_2
              · rw [if_pos c10] at H
                have c10b0 : decide (0 ≤ x22_2) = true := decide_eq_true c10
                clear c10
                by_cases c11 : x22_2 < (l1.length : Int)
                · rw [if_pos c11] at H
                  have c11b0 : decide (x22_2 < (l1.length : Int)) = true := decide_eq_true c11
                  clear c11
                  obtain ⟨ji12, hji12⟩ : ∃ j_ : Int, (wrap64 (2 * x22_2)) = j_ := ⟨_, rfl⟩
                  replace H : (if 0 ≤ (ji12) then (if (ji12) < (a0_6.size : Int) then (if 0 ≤ (wrap64 ((ji12) + 1)) then (if (wrap64 ((ji12) + 1)) < (a0_6.size : Int) then (if 0 ≤ a0_2 then (if (Go.bits .and .i64 (Go.bits .or .i64 (wrap64 ((wrap64 (bt a0_6 (ji12))) * 256)) (wrap64 (bt a0_6 (wrap64 ((ji12) + 1))))) (wrap64 ((shl .i64 1 a0_2) - 1))) = (rd l1 x22_2) then (samples_glassy.l0 k2 l1 (l1.length : Int) (wrap64 (x22_2 + 1)) a0_0 a0_1 a0_2 a0_3 a0_4 a0_5 a0_6 a0_7) else (some false)) else (none)) else (none)) else (none)) else (none)) else (none)) = some r := by first | (rw [hji12] at H; exact H) | (simp only [hji12] at H ⊢; exact H)
                  have hji12w : (IntKind.i64.wrap (2 * x22_2)) = ji12 := (i64_w _).trans hji12
                  by_cases c13 : 0 ≤ (ji12)
                  · rw [if_pos c13] at H
                    have c13b0 : decide (0 ≤ (ji12)) = true := decide_eq_true c13
                    clear c13
                    by_cases c14 : (ji12) < (a0_6.size : Int)
                    · rw [if_pos c14] at H
                      have c14b0 : decide ((ji12) < (a0_6.size : Int)) = true := decide_eq_true c14
                      clear c14
                      obtain ⟨ji16, hji16⟩ : ∃ j_ : Int, (wrap64 ((ji12) + 1)) = j_ := ⟨_, rfl⟩
                      replace H : (if 0 ≤ (ji16) then (if (ji16) < (a0_6.size : Int) then (if 0 ≤ a0_2 then (if (Go.bits .and .i64 (Go.bits .or .i64 (wrap64 ((wrap64 (bt a0_6 (ji12))) * 256)) (wrap64 (bt a0_6 (ji16)))) (wrap64 ((shl .i64 1 a0_2) - 1))) = (rd l1 x22_2) then (samples_glassy.l0 k2 l1 (l1.length : Int) (wrap64 (x22_2 + 1)) a0_0 a0_1 a0_2 a0_3 a0_4 a0_5 a0_6 a0_7) else (some false)) else (none)) else (none)) else (none)) = some r := by first | (rw [hji16] at H; exact H) | (simp only [hji16] at H ⊢; exact H)
                      have hji16w : (IntKind.i64.wrap ((ji12) + 1)) = ji16 := (i64_w _).trans hji16
                      by_cases c17 : 0 ≤ (ji16)
                      · rw [if_pos c17] at H
                        have c17b0 : decide (0 ≤ (ji16)) = true := decide_eq_true c17
                        clear c17
                        by_cases c18 : (ji16) < (a0_6.size : Int)
                        · rw [if_pos c18] at H
                          have c18b0 : decide ((ji16) < (a0_6.size : Int)) = true := decide_eq_true c18
                          clear c18
                          by_cases c20 : 0 ≤ a0_2
                          · rw [if_pos c20] at H
                            have c20b0 := eq_true c20
                            have c20b1 : decide (0 ≤ a0_2) = true := decide_eq_true c20
                            clear c20
                            obtain ⟨ji21, hji21⟩ : ∃ j_ : Int, (shl .i64 1 a0_2) = j_ := ⟨_, rfl⟩
                            replace H : (if (Go.bits .and .i64 (Go.bits .or .i64 (wrap64 ((wrap64 (bt a0_6 (ji12))) * 256)) (wrap64 (bt a0_6 (ji16)))) (wrap64 ((ji21) - 1))) = (rd l1 x22_2) then (samples_glassy.l0 k2 l1 (l1.length : Int) (wrap64 (x22_2 + 1)) a0_0 a0_1 a0_2 a0_3 a0_4 a0_5 a0_6 a0_7) else (some false)) = some r := by first | (rw [hji21] at H; exact H) | (simp only [hji21] at H ⊢; exact H)
                            have hji21_ : (IntKind.i64.wrap (1 * 2 ^ min a0_2.toNat 64)) = ji21 := hji21
                            have hji21z : a0_2 ≤ 64 → (IntKind.i64.wrap (1 * 2 ^ a0_2.toNat)) = ji21 := shl_small hji21
                            have hji21u : (IntKind.i64.wrap (2 ^ min a0_2.toNat 64)) = ji21 := by have h_ := hji21_; rw [Int.one_mul] at h_; exact h_
                            have hji21v : a0_2 ≤ 64 → (IntKind.i64.wrap (2 ^ a0_2.toNat)) = ji21 := fun hle_ => by have h_ := hji21z hle_; rw [Int.one_mul] at h_; exact h_
                            have hji21y : (wrap64 (1 * 2 ^ min a0_2.toNat 64)) = ji21 := (i64_w _).symm.trans hji21_
                            have hji21x : a0_2 ≤ 64 → (wrap64 (1 * 2 ^ a0_2.toNat)) = ji21 := fun h_ => (i64_w _).symm.trans (hji21z h_)
                            by_cases c22 : (Go.bits .and .i64 (Go.bits .or .i64 (wrap64 ((wrap64 (bt a0_6 (ji12))) * 256)) (wrap64 (bt a0_6 (ji16)))) (wrap64 ((ji21) - 1))) = (rd l1 x22_2)
                            · rw [if_pos c22] at H
                              have c22b0 : ((Go.bits .and .i64 (Go.bits .or .i64 (wrap64 ((wrap64 (bt a0_6 (ji12))) * 256)) (wrap64 (bt a0_6 (ji16)))) (wrap64 ((ji21) - 1))) == (rd l1 x22_2)) = true := beq_iff_eq.mpr c22
                              have c22b1 : ((Go.bits .and .i64 (Go.bits .or .i64 (wrap64 ((wrap64 (bt a0_6 (ji12))) * 256)) (wrap64 (bt a0_6 (ji16)))) (wrap64 ((ji21) - 1))) != (rd l1 x22_2)) = false := bne_eq_false_iff_eq.mpr c22
                              clear c22
                              have H' := Aside0.mk H
                              clear H
                              have p149 : 0 ≤ (x22_2 : Int) := of_decide_eq_true (by first | (with_reducible assumption) | assumption)
                              have q149 : x22_2 < (l1.length : Int) := of_decide_eq_true (by first | (with_reducible assumption) | assumption)
                              obtain ⟨ad149, e149, hx149_0⟩ := Kd.at_int HR1.out x22_2 p149 q149
                              cases e149
                              replace hx149_0 := (HB.out.cell (World.block_lt_of_cell? w _ hx149_0)).trans hx149_0
                              replace p149 := eq_true p149
                              replace q149 := eq_true q149
                              have hcz23_0 : wr.cell? ⟨gb148, 0, none⟩ = some (.int .i64 a0_0) := (blk_cell BK148.out 0).trans rfl
                              have hcz23_1 : wr.cell? ⟨gb148, 1, none⟩ = some (.int .i64 a0_1) := (blk_cell BK148.out 1).trans rfl
                              have hcz23_2 : wr.cell? ⟨gb148, 2, none⟩ = some (.int .i64 a0_2) := (blk_cell BK148.out 2).trans rfl
                              have hcz23_3 : wr.cell? ⟨gb148, 3, none⟩ = some (.int .i64 a0_3) := (blk_cell BK148.out 3).trans rfl
                              have hcz23_4 : wr.cell? ⟨gb148, 4, none⟩ = some (.int .i64 a0_4) := (blk_cell BK148.out 4).trans rfl
                              have hcz23_5 : wr.cell? ⟨gb148, 5, none⟩ = some (.string a0_5) := (blk_cell BK148.out 5).trans rfl
                              have hcz23_6 : wr.cell? ⟨gb148, 6, none⟩ = some (.string a0_6) := (blk_cell BK148.out 6).trans rfl
                              have hcz23_7 : wr.cell? ⟨gb148, 7, none⟩ = some (.bool a0_7) := (blk_cell BK148.out 7).trans rfl
                              have hfz23_0 := blk_frozen BK148.out 0
                              have hfz23_1 := blk_frozen BK148.out 1
                              have hfz23_2 := blk_frozen BK148.out 2
                              have hfz23_3 := blk_frozen BK148.out 3
                              have hfz23_4 := blk_frozen BK148.out 4
                              have hfz23_5 := blk_frozen BK148.out 5
                              have hfz23_6 := blk_frozen BK148.out 6
                              have hfz23_7 := blk_frozen BK148.out 7
                              have p15 : 0 ≤ ((ji12) : Int) := of_decide_eq_true (by first | (with_reducible assumption) | assumption)
                              have q15 : (ji12) < (a0_6.size : Int) := of_decide_eq_true (by first | (with_reducible assumption) | assumption)
                              have hx15 := bt_at a0_6 (ji12)
                              replace p15 := eq_true p15
                              replace q15 := eq_true q15
                              have p19 : 0 ≤ ((ji16) : Int) := of_decide_eq_true (by first | (with_reducible assumption) | assumption)
                              have q19 : (ji16) < (a0_6.size : Int) := of_decide_eq_true (by first | (with_reducible assumption) | assumption)
                              have hx19 := bt_at a0_6 (ji16)
                              replace p19 := eq_true p19
                              replace q19 := eq_true q19
                              go_wp2
                              repeat (go_quiet (fail); try go_wp2)
                              go_roundg k2
                              case measure => have := HJ2.out; have := HK2.out; omega
                              case rel => exact ⟨(wrap64 (x22_2 + 1)), (by first | rfl | (simp; done) | (simp [*]; done)), H', ⟨by have := HJ2.out; have := HK2.out; omega⟩, ⟨by (with_reducible repeat (first | refine blk_drewN ?_ _ | refine blk_drew ?_ | refine blk_alloc ?_ _)); exact BK148.out⟩, ⟨by repeat (first | (with_reducible first | exact HB.out | apply below_alloc | apply pw_below_drewN | apply below_drew1 | refine below_set ?_ GE148.out) | exact HB.out)⟩⟩
                            · rw [if_neg c22] at H
                              have c22b0 : ((Go.bits .and .i64 (Go.bits .or .i64 (wrap64 ((wrap64 (bt a0_6 (ji12))) * 256)) (wrap64 (bt a0_6 (ji16)))) (wrap64 ((ji21) - 1))) == (rd l1 x22_2)) = false := beq_eq_false_iff_ne.mpr c22
                              have c22b1 : ((Go.bits .and .i64 (Go.bits .or .i64 (wrap64 ((wrap64 (bt a0_6 (ji12))) * 256)) (wrap64 (bt a0_6 (ji16)))) (wrap64 ((ji21) - 1))) != (rd l1 x22_2)) = true := bne_iff_ne.mpr c22
                              obtain rfl := Option.some.inj H
                              have p149 : 0 ≤ (x22_2 : Int) := of_decide_eq_true (by first | (with_reducible assumption) | assumption)
                              have q149 : x22_2 < (l1.length : Int) := of_decide_eq_true (by first | (with_reducible assumption) | assumption)
                              obtain ⟨ad149, e149, hx149_0⟩ := Kd.at_int HR1.out x22_2 p149 q149
                              cases e149
                              replace hx149_0 := (HB.out.cell (World.block_lt_of_cell? w _ hx149_0)).trans hx149_0
                              replace p149 := eq_true p149
                              replace q149 := eq_true q149
                              have hcz24_0 : wr.cell? ⟨gb148, 0, none⟩ = some (.int .i64 a0_0) := (blk_cell BK148.out 0).trans rfl
                              have hcz24_1 : wr.cell? ⟨gb148, 1, none⟩ = some (.int .i64 a0_1) := (blk_cell BK148.out 1).trans rfl
                              have hcz24_2 : wr.cell? ⟨gb148, 2, none⟩ = some (.int .i64 a0_2) := (blk_cell BK148.out 2).trans rfl
                              have hcz24_3 : wr.cell? ⟨gb148, 3, none⟩ = some (.int .i64 a0_3) := (blk_cell BK148.out 3).trans rfl
                              have hcz24_4 : wr.cell? ⟨gb148, 4, none⟩ = some (.int .i64 a0_4) := (blk_cell BK148.out 4).trans rfl
                              have hcz24_5 : wr.cell? ⟨gb148, 5, none⟩ = some (.string a0_5) := (blk_cell BK148.out 5).trans rfl
                              have hcz24_6 : wr.cell? ⟨gb148, 6, none⟩ = some (.string a0_6) := (blk_cell BK148.out 6).trans rfl
                              have hcz24_7 : wr.cell? ⟨gb148, 7, none⟩ = some (.bool a0_7) := (blk_cell BK148.out 7).trans rfl
                              have hfz24_0 := blk_frozen BK148.out 0
                              have hfz24_1 := blk_frozen BK148.out 1
                              have hfz24_2 := blk_frozen BK148.out 2
                              have hfz24_3 := blk_frozen BK148.out 3
                              have hfz24_4 := blk_frozen BK148.out 4
                              have hfz24_5 := blk_frozen BK148.out 5
                              have hfz24_6 := blk_frozen BK148.out 6
                              have hfz24_7 := blk_frozen BK148.out 7
                              have p15 : 0 ≤ ((ji12) : Int) := of_decide_eq_true (by first | (with_reducible assumption) | assumption)
                              have q15 : (ji12) < (a0_6.size : Int) := of_decide_eq_true (by first | (with_reducible assumption) | assumption)
                              have hx15 := bt_at a0_6 (ji12)
                              replace p15 := eq_true p15
                              replace q15 := eq_true q15
                              have p19 : 0 ≤ ((ji16) : Int) := of_decide_eq_true (by first | (with_reducible assumption) | assumption)
                              have q19 : (ji16) < (a0_6.size : Int) := of_decide_eq_true (by first | (with_reducible assumption) | assumption)
                              have hx19 := bt_at a0_6 (ji16)
                              replace p19 := eq_true p19
                              replace q19 := eq_true q19
                              go_wp2
                              repeat (go_quiet (fail); try go_wp2)
                              go_ret
                              exact ⟨by first | rfl | (simp [errW_none, errW_some] <;> rfl) | (simp only [← hji12, ← hji16, ← hji21]; first | rfl | (simp [errW_none, errW_some] <;> rfl)) | (simp [*, errW_none, errW_some] <;> rfl), by repeat (first | (with_reducible first | exact HB.out | apply below_alloc | apply pw_below_drewN | apply below_drew1 | refine below_set ?_ GE148.out) | exact HB.out)⟩
                          · rw [if_neg c20] at H
                            exact absurd H (by simp)
                        · rw [if_neg c18] at H
                          exact absurd H (by simp)
                      · rw [if_neg c17] at H
                        exact absurd H (by simp)
                    · rw [if_neg c14] at H
                      exact absurd H (by simp)
                  · rw [if_neg c13] at H
                    exact absurd H (by simp)
                · rw [if_neg c11] at H
                  exact absurd H (by simp)
              · rw [if_neg c10] at H
                exact absurd H (by simp)
            · rw [if_neg c9] at H
              have c9b0 : decide (x22_2 < (l1.length : Int)) = false := decide_eq_false c9
              clear c9
              obtain rfl := Option.some.inj H
              go_wp2
              repeat (go_quiet (fail); try go_wp2)
              go_ret
              exact ⟨by first | rfl | (simp [errW_none, errW_some] <;> rfl) | (simp [*, errW_none, errW_some] <;> rfl), by repeat (first | (with_reducible first | exact HB.out | apply below_alloc | apply pw_below_drewN | apply below_drew1 | refine below_set ?_ GE148.out) | exact HB.out)⟩

end Go.Proofs.Ytpccfanjdbenlaa.PM11
