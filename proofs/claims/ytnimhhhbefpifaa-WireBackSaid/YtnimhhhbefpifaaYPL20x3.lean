/- Printed for this claim by a program of this session over the kit's print program: the Go functions as Lean functions, and proofs that the calls come to these answers. No conditions. -/
import Derived.Test.YtnimhhhbefpifaaYPL20x0
namespace Go.Proofs.Ytnimhhhbefpifaa.PL20
open Go.RowKit Go.Proofs.YtnimhhhbefpifaaW.PrintWords Go.Proofs.YtnimhhhbefpifaaW.PrintLast Go.Proofs.YtnimhhhbefpifaaW.PrintMore
attribute [local go_sem] max2_int min2_int max_two min_two max_three min_three max_four min_four   -- for this text's walks alone
set_option linter.unusedVariables false
set_option linter.unusedSimpArgs false

/-! ### vitrinelaw20_few: function 9 -/
mutual
def vitrinelaw20_few.j0 : Nat → Bool → Int → Int → Int → Int → ByteArray → Int → Int → ByteArray → List ByteArray → Option (Bool)
  | 0, _, _, _, _, _, _, _, _, _, _ => none
  | k + 1, x19, x104000, x104001, x104002, x104003, x104004, x104005, x104006, x104007, x104008 => if x19 = true then (some false) else (vitrinelaw20_few.l0 k 0 x104000 x104001 x104002 x104003 x104004 x104005 x104006 x104007 x104008)
def vitrinelaw20_few.l0 : Nat → Int → Int → Int → Int → Int → ByteArray → Int → Int → ByteArray → List ByteArray → Option (Bool)
  | 0, _, _, _, _, _, _, _, _, _, _ => none
  | k + 1, x3, x104000, x104001, x104002, x104003, x104004, x104005, x104006, x104007, x104008 => if x3 < (x104008.length : Int) then (if 0 ≤ x3 then (if ((rdOf ByteArray.empty x104008 x3).size : Int) > 5000 then (some false) else (vitrinelaw20_few.l0 k (wrap64 (x3 + 1)) x104000 x104001 x104002 x104003 x104004 x104005 x104006 x104007 x104008)) else (none)) else (some true)
end
def vitrinelaw20_few.f (k : Nat) (a0_0 : Int) (a0_1 : Int) (a0_2 : Int) (a0_3 : Int) (a0_4 : ByteArray) (a0_5 : Int) (a0_6 : Int) (a0_7 : ByteArray) (l0_8 : List ByteArray) : Option (Bool) := if (l0_8.length : Int) > 20 then (vitrinelaw20_few.j0 k true a0_0 a0_1 a0_2 a0_3 a0_4 a0_5 a0_6 a0_7 l0_8) else (if (a0_4.size : Int) > 5000 then (vitrinelaw20_few.j0 k true a0_0 a0_1 a0_2 a0_3 a0_4 a0_5 a0_6 a0_7 l0_8) else (vitrinelaw20_few.j0 k (decide ((a0_7.size : Int) > 5000)) a0_0 a0_1 a0_2 a0_3 a0_4 a0_5 a0_6 a0_7 l0_8))
theorem vitrinelaw20_few.mono_l : ∀ k, (∀ y0 y1 y2 y3 y4 y5 y6 y7 y8 y9, LeO (vitrinelaw20_few.j0 k y0 y1 y2 y3 y4 y5 y6 y7 y8 y9) (vitrinelaw20_few.j0 (k + 1) y0 y1 y2 y3 y4 y5 y6 y7 y8 y9)) ∧ (∀ y0 y1 y2 y3 y4 y5 y6 y7 y8 y9, LeO (vitrinelaw20_few.l0 k y0 y1 y2 y3 y4 y5 y6 y7 y8 y9) (vitrinelaw20_few.l0 (k + 1) y0 y1 y2 y3 y4 y5 y6 y7 y8 y9))
  | 0 => ⟨fun _ _ _ _ _ _ _ _ _ _ r h => by simp [vitrinelaw20_few.j0] at h, fun _ _ _ _ _ _ _ _ _ _ r h => by simp [vitrinelaw20_few.l0] at h⟩
  | k + 1 => by
    obtain ⟨ih0, ih1⟩ := vitrinelaw20_few.mono_l k
    refine ⟨?_, ?_⟩
    · intro y0 y1 y2 y3 y4 y5 y6 y7 y8 y9
      unfold vitrinelaw20_few.j0
      repeat' first
      | (with_reducible exact ih0 _ _ _ _ _ _ _ _ _ _)
      | (with_reducible exact ih1 _ _ _ _ _ _ _ _ _ _)
      | (with_reducible exact LeO.refl _)
      | (with_reducible exact LeO.none _)
      | (with_reducible refine LeO.ite ?_ ?_)
      | (with_reducible refine LeO.bind ?_ (fun _ => ?_))
      | exact ih0 _ _ _ _ _ _ _ _ _ _
      | exact ih1 _ _ _ _ _ _ _ _ _ _
      | exact LeO.none _
      | refine LeO.ite ?_ ?_
      | refine LeO.bind ?_ (fun _ => ?_)
    · intro y0 y1 y2 y3 y4 y5 y6 y7 y8 y9
      unfold vitrinelaw20_few.l0
      repeat' first
      | (with_reducible exact ih0 _ _ _ _ _ _ _ _ _ _)
      | (with_reducible exact ih1 _ _ _ _ _ _ _ _ _ _)
      | (with_reducible exact LeO.refl _)
      | (with_reducible exact LeO.none _)
      | (with_reducible refine LeO.ite ?_ ?_)
      | (with_reducible refine LeO.bind ?_ (fun _ => ?_))
      | exact ih0 _ _ _ _ _ _ _ _ _ _
      | exact ih1 _ _ _ _ _ _ _ _ _ _
      | exact LeO.none _
      | refine LeO.ite ?_ ?_
      | refine LeO.bind ?_ (fun _ => ?_)
theorem vitrinelaw20_few.mono : ∀ a0 a1 a2 a3 a4 a5 a6 a7 a8 k, LeO (vitrinelaw20_few.f k a0 a1 a2 a3 a4 a5 a6 a7 a8) (vitrinelaw20_few.f (k + 1) a0 a1 a2 a3 a4 a5 a6 a7 a8) := by
  intro a0 a1 a2 a3 a4 a5 a6 a7 a8 k
  obtain ⟨ih0, ih1⟩ := vitrinelaw20_few.mono_l k
  unfold vitrinelaw20_few.f
  repeat' first
      | (with_reducible exact ih0 _ _ _ _ _ _ _ _ _ _)
      | (with_reducible exact ih1 _ _ _ _ _ _ _ _ _ _)
      | (with_reducible exact LeO.refl _)
      | (with_reducible exact LeO.none _)
      | (with_reducible refine LeO.ite ?_ ?_)
      | (with_reducible refine LeO.bind ?_ (fun _ => ?_))
      | exact ih0 _ _ _ _ _ _ _ _ _ _
      | exact ih1 _ _ _ _ _ _ _ _ _ _
      | exact LeO.none _
      | refine LeO.ite ?_ ?_
      | refine LeO.bind ?_ (fun _ => ?_)
set_option maxHeartbeats 40000000 in
set_option maxRecDepth 100000 in
theorem vitrinelaw20_few.calls (k : Nat) (a0_0 : Int) (a0_1 : Int) (a0_2 : Int) (a0_3 : Int) (a0_4 : ByteArray) (a0_5 : Int) (a0_6 : Int) (a0_7 : ByteArray) (A0_8 : Option Addr) (c0_8 : Nat) (l0_8 : List ByteArray) (r : Bool) (w : World) (hr0_8 : Kd.C Kd.string w A0_8 l0_8.length l0_8) (hc0_8 : l0_8.length ≤ c0_8) (h : vitrinelaw20_few.f k a0_0 a0_1 a0_2 a0_3 a0_4 a0_5 a0_6 a0_7 l0_8 = some r) :
    Calls Try.prog 9 #[.agg #[.int .i64 a0_0, .int .i64 a0_1, .int .i64 a0_2, .int .i64 a0_3, .string a0_4, .int .i64 a0_5, .int .i64 a0_6, .string a0_7, .slice A0_8 l0_8.length c0_8]] w fun e w' => e = .returned (.bool r) ∧ Below w.heap.size w w' := by
  have hu26 := Try.underlying26
  have HR0_8 := Aside0.mk hr0_8
  have HC0_8 := Aside0.mk hc0_8
  clear hr0_8 hc0_8
  have HB := Aside0.mk (Below.refl w.heap.size w)
  have H : (if (l0_8.length : Int) > 20 then (vitrinelaw20_few.j0 k true a0_0 a0_1 a0_2 a0_3 a0_4 a0_5 a0_6 a0_7 l0_8) else (if (a0_4.size : Int) > 5000 then (vitrinelaw20_few.j0 k true a0_0 a0_1 a0_2 a0_3 a0_4 a0_5 a0_6 a0_7 l0_8) else (vitrinelaw20_few.j0 k (decide ((a0_7.size : Int) > 5000)) a0_0 a0_1 a0_2 a0_3 a0_4 a0_5 a0_6 a0_7 l0_8))) = some r := h
  clear h
  have HC2 := Aside0.mk H
  clear H
  go_enter Try.func9, Try.ntmps9
  go_upto_region 1 with (first | ((with_reducible refine gate_dst (N := 1) rfl ?_); (try (refine gate_guard (by rfl) ?_; dsimp only)); refine box_event ?hg (N := 1) ?hd (cs := #[.int .i64 a0_0, .int .i64 a0_1, .int .i64 a0_2, .int .i64 a0_3, .string a0_4, .int .i64 a0_5, .int .i64 a0_6, .string a0_7, .slice A0_8 l0_8.length c0_8]) (t := 26) ?hr ?_; (case hd => rfl); (case hg => rfl); (case hr => first | (go_simp; done) | (go_simp; rfl)); intro gb103 hg w3 hbox hb; have n0_ := Aside0.mk (below_step (by repeat (first | (with_reducible first | exact HB.out | apply below_alloc | apply pw_below_drewN | apply below_drew1) | exact HB.out)) hb); have n1_ := Aside0.mk (hbox); have n2_ := Aside0.mk ((by rw [hg]; exact (below_size (by repeat (first | (with_reducible first | exact HB.out | apply below_alloc | apply pw_below_drewN | apply below_drew1) | exact HB.out))) : w.heap.size ≤ gb103)); have n3_ := Aside0.mk ((by rw [hg]; exact (below_size (by repeat (first | (with_reducible first | exact HB.out | apply below_alloc | apply pw_below_drewN | apply below_drew1) | exact HB.out))) : w.heap.size ≤ gb103)); clear HB; have HB := n0_; have BK103 := n1_; have GW103 := n2_; have GE103 := n3_; clear n0_ n1_ n2_ n3_; clear hb hbox hg))
  (try simp only [Act.put, List.setIfInBounds_toArray, List.set_cons_zero, List.set_cons_succ])
  go_cut [19] (fun v19 wc => ∃ (kq : Nat) (x19_1 : Bool), v19 = .bool x19_1 ∧ Aside0 (vitrinelaw20_few.j0 kq x19_1 a0_0 a0_1 a0_2 a0_3 a0_4 a0_5 a0_6 a0_7 l0_8 = some r) ∧ Aside0 (kq ≤ k) ∧ Aside0 (wc.heap[gb103]? = some (.cells #[.int .i64 a0_0, .int .i64 a0_1, .int .i64 a0_2, .int .i64 a0_3, .string a0_4, .int .i64 a0_5, .int .i64 a0_6, .string a0_7, (.slice A0_8 l0_8.length c0_8)] 26 (0, 0))) ∧ Aside0 (Below w.heap.size w wc))
  case first =>
    have H := HC2.out
    clear HC2
    by_cases c4 : (l0_8.length : Int) > 20
    · rw [if_pos c4] at H
      have c4b0 : decide (20 < (l0_8.length : Int)) = true := decide_eq_true c4
      have c4b1 : decide (20 < l0_8.length) = true := decide_eq_true (by omega)
      clear c4
      (first | rw [c4b0] | (simp only [i64_w, i32_w]; rw [c4b0]) | skip)
      have H' := Aside0.mk H
      clear H
      have hcz5_0 : w3.cell? ⟨gb103, 0, none⟩ = some (.int .i64 a0_0) := (blk_cell BK103.out 0).trans rfl
      have hcz5_1 : w3.cell? ⟨gb103, 1, none⟩ = some (.int .i64 a0_1) := (blk_cell BK103.out 1).trans rfl
      have hcz5_2 : w3.cell? ⟨gb103, 2, none⟩ = some (.int .i64 a0_2) := (blk_cell BK103.out 2).trans rfl
      have hcz5_3 : w3.cell? ⟨gb103, 3, none⟩ = some (.int .i64 a0_3) := (blk_cell BK103.out 3).trans rfl
      have hcz5_4 : w3.cell? ⟨gb103, 4, none⟩ = some (.string a0_4) := (blk_cell BK103.out 4).trans rfl
      have hcz5_5 : w3.cell? ⟨gb103, 5, none⟩ = some (.int .i64 a0_5) := (blk_cell BK103.out 5).trans rfl
      have hcz5_6 : w3.cell? ⟨gb103, 6, none⟩ = some (.int .i64 a0_6) := (blk_cell BK103.out 6).trans rfl
      have hcz5_7 : w3.cell? ⟨gb103, 7, none⟩ = some (.string a0_7) := (blk_cell BK103.out 7).trans rfl
      have hcz5_8 : w3.cell? ⟨gb103, 8, none⟩ = some (.slice A0_8 l0_8.length c0_8) := (blk_cell BK103.out 8).trans rfl
      have hfz5_0 := blk_frozen BK103.out 0
      have hfz5_1 := blk_frozen BK103.out 1
      have hfz5_2 := blk_frozen BK103.out 2
      have hfz5_3 := blk_frozen BK103.out 3
      have hfz5_4 := blk_frozen BK103.out 4
      have hfz5_5 := blk_frozen BK103.out 5
      have hfz5_6 := blk_frozen BK103.out 6
      have hfz5_7 := blk_frozen BK103.out 7
      have hfz5_8 := blk_frozen BK103.out 8
      go_wp2
      go_meet
      case rel => exact ⟨_, (true), (by first | rfl | (simp; done) | (simp [*]; done)), H', ⟨by first | omega | exact Nat.le_refl _⟩, ⟨by (with_reducible repeat (first | refine blk_drewN ?_ _ | refine blk_drew ?_ | refine blk_alloc ?_ _)); exact BK103.out⟩, ⟨by repeat (first | (with_reducible first | exact HB.out | apply below_alloc | apply pw_below_drewN | apply below_drew1 | refine below_set ?_ GE103.out) | exact HB.out)⟩⟩
    · rw [if_neg c4] at H
      have c4b0 : decide (20 < (l0_8.length : Int)) = false := decide_eq_false c4
      have c4b1 : decide (20 < l0_8.length) = false := decide_eq_false (by omega)
      clear c4
      (first | rw [c4b0] | (simp only [i64_w, i32_w]; rw [c4b0]) | skip)
      by_cases c6 : (a0_4.size : Int) > 5000
      · rw [if_pos c6] at H
        have c6b0 : decide (5000 < (a0_4.size : Int)) = true := decide_eq_true c6
        have c6b1 : decide (5000 < a0_4.size) = true := decide_eq_true (by omega)
        clear c6
        have H' := Aside0.mk H
        clear H
        have hcz7_0 : w3.cell? ⟨gb103, 0, none⟩ = some (.int .i64 a0_0) := (blk_cell BK103.out 0).trans rfl
        have hcz7_1 : w3.cell? ⟨gb103, 1, none⟩ = some (.int .i64 a0_1) := (blk_cell BK103.out 1).trans rfl
        have hcz7_2 : w3.cell? ⟨gb103, 2, none⟩ = some (.int .i64 a0_2) := (blk_cell BK103.out 2).trans rfl
        have hcz7_3 : w3.cell? ⟨gb103, 3, none⟩ = some (.int .i64 a0_3) := (blk_cell BK103.out 3).trans rfl
        have hcz7_4 : w3.cell? ⟨gb103, 4, none⟩ = some (.string a0_4) := (blk_cell BK103.out 4).trans rfl
        have hcz7_5 : w3.cell? ⟨gb103, 5, none⟩ = some (.int .i64 a0_5) := (blk_cell BK103.out 5).trans rfl
        have hcz7_6 : w3.cell? ⟨gb103, 6, none⟩ = some (.int .i64 a0_6) := (blk_cell BK103.out 6).trans rfl
        have hcz7_7 : w3.cell? ⟨gb103, 7, none⟩ = some (.string a0_7) := (blk_cell BK103.out 7).trans rfl
        have hcz7_8 : w3.cell? ⟨gb103, 8, none⟩ = some (.slice A0_8 l0_8.length c0_8) := (blk_cell BK103.out 8).trans rfl
        have hfz7_0 := blk_frozen BK103.out 0
        have hfz7_1 := blk_frozen BK103.out 1
        have hfz7_2 := blk_frozen BK103.out 2
        have hfz7_3 := blk_frozen BK103.out 3
        have hfz7_4 := blk_frozen BK103.out 4
        have hfz7_5 := blk_frozen BK103.out 5
        have hfz7_6 := blk_frozen BK103.out 6
        have hfz7_7 := blk_frozen BK103.out 7
        have hfz7_8 := blk_frozen BK103.out 8
        go_wp2
        go_meet
        case rel => exact ⟨_, (true), (by first | rfl | (simp; done) | (simp [*]; done)), H', ⟨by first | omega | exact Nat.le_refl _⟩, ⟨by (with_reducible repeat (first | refine blk_drewN ?_ _ | refine blk_drew ?_ | refine blk_alloc ?_ _)); exact BK103.out⟩, ⟨by repeat (first | (with_reducible first | exact HB.out | apply below_alloc | apply pw_below_drewN | apply below_drew1 | refine below_set ?_ GE103.out) | exact HB.out)⟩⟩
      · rw [if_neg c6] at H
        have c6b0 : decide (5000 < (a0_4.size : Int)) = false := decide_eq_false c6
        have c6b1 : decide (5000 < a0_4.size) = false := decide_eq_false (by omega)
        clear c6
        have H' := Aside0.mk H
        clear H
        have hcz8_0 : w3.cell? ⟨gb103, 0, none⟩ = some (.int .i64 a0_0) := (blk_cell BK103.out 0).trans rfl
        have hcz8_1 : w3.cell? ⟨gb103, 1, none⟩ = some (.int .i64 a0_1) := (blk_cell BK103.out 1).trans rfl
        have hcz8_2 : w3.cell? ⟨gb103, 2, none⟩ = some (.int .i64 a0_2) := (blk_cell BK103.out 2).trans rfl
        have hcz8_3 : w3.cell? ⟨gb103, 3, none⟩ = some (.int .i64 a0_3) := (blk_cell BK103.out 3).trans rfl
        have hcz8_4 : w3.cell? ⟨gb103, 4, none⟩ = some (.string a0_4) := (blk_cell BK103.out 4).trans rfl
        have hcz8_5 : w3.cell? ⟨gb103, 5, none⟩ = some (.int .i64 a0_5) := (blk_cell BK103.out 5).trans rfl
        have hcz8_6 : w3.cell? ⟨gb103, 6, none⟩ = some (.int .i64 a0_6) := (blk_cell BK103.out 6).trans rfl
        have hcz8_7 : w3.cell? ⟨gb103, 7, none⟩ = some (.string a0_7) := (blk_cell BK103.out 7).trans rfl
        have hcz8_8 : w3.cell? ⟨gb103, 8, none⟩ = some (.slice A0_8 l0_8.length c0_8) := (blk_cell BK103.out 8).trans rfl
        have hfz8_0 := blk_frozen BK103.out 0
        have hfz8_1 := blk_frozen BK103.out 1
        have hfz8_2 := blk_frozen BK103.out 2
        have hfz8_3 := blk_frozen BK103.out 3
        have hfz8_4 := blk_frozen BK103.out 4
        have hfz8_5 := blk_frozen BK103.out 5
        have hfz8_6 := blk_frozen BK103.out 6
        have hfz8_7 := blk_frozen BK103.out 7
        have hfz8_8 := blk_frozen BK103.out 8
        go_wp2
        go_meet
        case rel => exact ⟨_, (decide ((a0_7.size : Int) > 5000)), (by first | rfl | (simp; done) | (simp [*]; done)), H', ⟨by first | omega | exact Nat.le_refl _⟩, ⟨by (with_reducible repeat (first | refine blk_drewN ?_ _ | refine blk_drew ?_ | refine blk_alloc ?_ _)); exact BK103.out⟩, ⟨by repeat (first | (with_reducible first | exact HB.out | apply below_alloc | apply pw_below_drewN | apply below_drew1 | refine below_set ?_ GE103.out) | exact HB.out)⟩⟩
  case rest =>
    clear HC2
    try clear p2
    try clear c4
    try clear c4b0
    try clear c4b1
    try clear c6
    try clear c6b0
    try clear c6b1
    try clear hcz5_0
    try clear hcz5_1
    try clear hcz5_2
    try clear hcz5_3
    try clear hcz5_4
    try clear hcz5_5
    try clear hcz5_6
    try clear hcz5_7
    try clear hcz5_8
    try clear hcz7_0
    try clear hcz7_1
    try clear hcz7_2
    try clear hcz7_3
    try clear hcz7_4
    try clear hcz7_5
    try clear hcz7_6
    try clear hcz7_7
    try clear hcz7_8
    try clear hcz8_0
    try clear hcz8_1
    try clear hcz8_2
    try clear hcz8_3
    try clear hcz8_4
    try clear hcz8_5
    try clear hcz8_6
    try clear hcz8_7
    try clear hcz8_8
    try clear hfz5_0
    try clear hfz5_1
    try clear hfz5_2
    try clear hfz5_3
    try clear hfz5_4
    try clear hfz5_5
    try clear hfz5_6
    try clear hfz5_7
    try clear hfz5_8
    try clear hfz7_0
    try clear hfz7_1
    try clear hfz7_2
    try clear hfz7_3
    try clear hfz7_4
    try clear hfz7_5
    try clear hfz7_6
    try clear hfz7_7
    try clear hfz7_8
    try clear hfz8_0
    try clear hfz8_1
    try clear hfz8_2
    try clear hfz8_3
    try clear hfz8_4
    try clear hfz8_5
    try clear hfz8_6
    try clear hfz8_7
    try clear hfz8_8
    obtain ⟨kq, x19_1, rfl, HA, HJ1, BK103, HB⟩ := hcut
    cases kq with
    | zero => exact absurd HA.out (by simp [vitrinelaw20_few.j0])
    | succ kj1 =>
      have H := HA.out
      clear HA
      simp only [vitrinelaw20_few.j0] at H
      by_cases c9 : x19_1 = true
      · subst c9
        have H1 : (some false) = some r := by rw [if_pos rfl] at H; exact H
        clear H
        have H := H1
        clear H1
        obtain rfl := Option.some.inj H
        go_wp2
        go_ret
        exact ⟨by first | rfl | (simp [errW_none, errW_some] <;> rfl) | (simp [*, errW_none, errW_some] <;> rfl), by repeat (first | (with_reducible first | exact HB.out | apply below_alloc | apply pw_below_drewN | apply below_drew1 | refine below_set ?_ GE103.out) | exact HB.out)⟩
      · replace c9 := Bool.eq_false_iff.mpr c9
        subst c9
        have H1 : (vitrinelaw20_few.l0 kj1 0 a0_0 a0_1 a0_2 a0_3 a0_4 a0_5 a0_6 a0_7 l0_8) = some r := by rw [if_neg (show ¬ (false = true) by decide)] at H; exact H
        clear H
        have H := H1
        clear H1
        have H' := Aside0.mk H
        clear H
        go_wp2
        go_loopg [3] kj1 (fun kq v3 w' => ∃ (x3_2 : Int), v3 = .int .i64 x3_2 ∧ Aside0 (vitrinelaw20_few.l0 kq x3_2 a0_0 a0_1 a0_2 a0_3 a0_4 a0_5 a0_6 a0_7 l0_8 = some r) ∧ Aside0 (kq ≤ kj1) ∧ Aside0 (w'.heap[gb103]? = some (.cells #[.int .i64 a0_0, .int .i64 a0_1, .int .i64 a0_2, .int .i64 a0_3, .string a0_4, .int .i64 a0_5, .int .i64 a0_6, .string a0_7, (.slice A0_8 l0_8.length c0_8)] 26 (0, 0))) ∧ Aside0 (Below w.heap.size w w'))
        case atStart => exact ⟨(0), (by first | rfl | (simp; done) | (simp [*]; done)), H', ⟨Nat.le_refl _⟩, ⟨by (with_reducible repeat (first | refine blk_drewN ?_ _ | refine blk_drew ?_ | refine blk_alloc ?_ _)); exact BK103.out⟩, ⟨by repeat (first | (with_reducible first | exact HB.out | apply below_alloc | apply pw_below_drewN | apply below_drew1 | refine below_set ?_ GE103.out) | exact HB.out)⟩⟩
        case round =>
          clear H'
          try clear p2
          try clear c4
          try clear c4b0
          try clear c4b1
          try clear c6
          try clear c6b0
          try clear c6b1
          try clear c9
          try clear hcz5_0
          try clear hcz5_1
          try clear hcz5_2
          try clear hcz5_3
          try clear hcz5_4
          try clear hcz5_5
          try clear hcz5_6
          try clear hcz5_7
          try clear hcz5_8
          try clear hcz7_0
          try clear hcz7_1
          try clear hcz7_2
          try clear hcz7_3
          try clear hcz7_4
          try clear hcz7_5
          try clear hcz7_6
          try clear hcz7_7
          try clear hcz7_8
          try clear hcz8_0
          try clear hcz8_1
          try clear hcz8_2
          try clear hcz8_3
          try clear hcz8_4
          try clear hcz8_5
          try clear hcz8_6
          try clear hcz8_7
          try clear hcz8_8
          try clear hfz5_0
          try clear hfz5_1
          try clear hfz5_2
          try clear hfz5_3
          try clear hfz5_4
          try clear hfz5_5
          try clear hfz5_6
          try clear hfz5_7
          try clear hfz5_8
          try clear hfz7_0
          try clear hfz7_1
          try clear hfz7_2
          try clear hfz7_3
          try clear hfz7_4
          try clear hfz7_5
          try clear hfz7_6
          try clear hfz7_7
          try clear hfz7_8
          try clear hfz8_0
          try clear hfz8_1
          try clear hfz8_2
          try clear hfz8_3
          try clear hfz8_4
          try clear hfz8_5
          try clear hfz8_6
          try clear hfz8_7
          try clear hfz8_8
          try clear p2
          obtain ⟨x3_2, rfl, HA, HK2, BK103, HB⟩ := hrel
          cases gk with
          | zero => exact absurd HA.out (by simp [vitrinelaw20_few.l0])
          | succ k2 =>
            have H := HA.out
            clear HA
            simp only [vitrinelaw20_few.l0] at H
            by_cases c10 : x3_2 < (l0_8.length : Int)
            · rw [if_pos c10] at H
              have c10b0 : decide (x3_2 < (l0_8.length : Int)) = true := decide_eq_true c10
              clear c10
              by_cases c11 : 0 ≤ x3_2
              · rw [if_pos c11] at H
                have c11b0 : decide (0 ≤ x3_2) = true := decide_eq_true c11
                clear c11
                by_cases c12 : ((rdOf ByteArray.empty l0_8 x3_2).size : Int) > 5000
                · rw [if_pos c12] at H
                  have c12b0 : decide (5000 < ((rdOf ByteArray.empty l0_8 x3_2).size : Int)) = true := decide_eq_true c12
                  have c12b1 : decide (5000 < (rdOf ByteArray.empty l0_8 x3_2).size) = true := decide_eq_true (by omega)
                  clear c12
                  obtain rfl := Option.some.inj H
                  have hcz13_0 : wr.cell? ⟨gb103, 0, none⟩ = some (.int .i64 a0_0) := (blk_cell BK103.out 0).trans rfl
                  have hcz13_1 : wr.cell? ⟨gb103, 1, none⟩ = some (.int .i64 a0_1) := (blk_cell BK103.out 1).trans rfl
                  have hcz13_2 : wr.cell? ⟨gb103, 2, none⟩ = some (.int .i64 a0_2) := (blk_cell BK103.out 2).trans rfl
                  have hcz13_3 : wr.cell? ⟨gb103, 3, none⟩ = some (.int .i64 a0_3) := (blk_cell BK103.out 3).trans rfl
                  have hcz13_4 : wr.cell? ⟨gb103, 4, none⟩ = some (.string a0_4) := (blk_cell BK103.out 4).trans rfl
                  have hcz13_5 : wr.cell? ⟨gb103, 5, none⟩ = some (.int .i64 a0_5) := (blk_cell BK103.out 5).trans rfl
                  have hcz13_6 : wr.cell? ⟨gb103, 6, none⟩ = some (.int .i64 a0_6) := (blk_cell BK103.out 6).trans rfl
                  have hcz13_7 : wr.cell? ⟨gb103, 7, none⟩ = some (.string a0_7) := (blk_cell BK103.out 7).trans rfl
                  have hcz13_8 : wr.cell? ⟨gb103, 8, none⟩ = some (.slice A0_8 l0_8.length c0_8) := (blk_cell BK103.out 8).trans rfl
                  have hfz13_0 := blk_frozen BK103.out 0
                  have hfz13_1 := blk_frozen BK103.out 1
                  have hfz13_2 := blk_frozen BK103.out 2
                  have hfz13_3 := blk_frozen BK103.out 3
                  have hfz13_4 := blk_frozen BK103.out 4
                  have hfz13_5 := blk_frozen BK103.out 5
                  have hfz13_6 := blk_frozen BK103.out 6
                  have hfz13_7 := blk_frozen BK103.out 7
                  have hfz13_8 := blk_frozen BK103.out 8
                  have p104 : 0 ≤ (x3_2 : Int) := of_decide_eq_true (by first | (with_reducible assumption) | assumption)
                  have q104 : x3_2 < (l0_8.length : Int) := of_decide_eq_true (by first | (with_reducible assumption) | assumption)
                  obtain ⟨ad104, e104, hx104_0⟩ := Kd.at_string HR0_8.out x3_2 p104 q104
                  cases e104
                  replace hx104_0 := (HB.out.cell (World.block_lt_of_cell? w _ hx104_0)).trans hx104_0
                  replace p104 := eq_true p104
                  replace q104 := eq_true q104
                  go_wp2
                  go_ret
                  exact ⟨by first | rfl | (simp [errW_none, errW_some] <;> rfl) | (simp [*, errW_none, errW_some] <;> rfl), by repeat (first | (with_reducible first | exact HB.out | apply below_alloc | apply pw_below_drewN | apply below_drew1 | refine below_set ?_ GE103.out) | exact HB.out)⟩
                · rw [if_neg c12] at H
                  have c12b0 : decide (5000 < ((rdOf ByteArray.empty l0_8 x3_2).size : Int)) = false := decide_eq_false c12
                  have c12b1 : decide (5000 < (rdOf ByteArray.empty l0_8 x3_2).size) = false := decide_eq_false (by omega)
                  clear c12
                  have H' := Aside0.mk H
                  clear H
                  have hcz14_0 : wr.cell? ⟨gb103, 0, none⟩ = some (.int .i64 a0_0) := (blk_cell BK103.out 0).trans rfl
                  have hcz14_1 : wr.cell? ⟨gb103, 1, none⟩ = some (.int .i64 a0_1) := (blk_cell BK103.out 1).trans rfl
                  have hcz14_2 : wr.cell? ⟨gb103, 2, none⟩ = some (.int .i64 a0_2) := (blk_cell BK103.out 2).trans rfl
                  have hcz14_3 : wr.cell? ⟨gb103, 3, none⟩ = some (.int .i64 a0_3) := (blk_cell BK103.out 3).trans rfl
                  have hcz14_4 : wr.cell? ⟨gb103, 4, none⟩ = some (.string a0_4) := (blk_cell BK103.out 4).trans rfl
                  have hcz14_5 : wr.cell? ⟨gb103, 5, none⟩ = some (.int .i64 a0_5) := (blk_cell BK103.out 5).trans rfl
                  have hcz14_6 : wr.cell? ⟨gb103, 6, none⟩ = some (.int .i64 a0_6) := (blk_cell BK103.out 6).trans rfl
                  have hcz14_7 : wr.cell? ⟨gb103, 7, none⟩ = some (.string a0_7) := (blk_cell BK103.out 7).trans rfl
                  have hcz14_8 : wr.cell? ⟨gb103, 8, none⟩ = some (.slice A0_8 l0_8.length c0_8) := (blk_cell BK103.out 8).trans rfl
                  have hfz14_0 := blk_frozen BK103.out 0
                  have hfz14_1 := blk_frozen BK103.out 1
                  have hfz14_2 := blk_frozen BK103.out 2
                  have hfz14_3 := blk_frozen BK103.out 3
                  have hfz14_4 := blk_frozen BK103.out 4
                  have hfz14_5 := blk_frozen BK103.out 5
                  have hfz14_6 := blk_frozen BK103.out 6
                  have hfz14_7 := blk_frozen BK103.out 7
                  have hfz14_8 := blk_frozen BK103.out 8
                  have p104 : 0 ≤ (x3_2 : Int) := of_decide_eq_true (by first | (with_reducible assumption) | assumption)
                  have q104 : x3_2 < (l0_8.length : Int) := of_decide_eq_true (by first | (with_reducible assumption) | assumption)
                  obtain ⟨ad104, e104, hx104_0⟩ := Kd.at_string HR0_8.out x3_2 p104 q104
                  cases e104
                  replace hx104_0 := (HB.out.cell (World.block_lt_of_cell? w _ hx104_0)).trans hx104_0
                  replace p104 := eq_true p104
                  replace q104 := eq_true q104
                  go_wp2
                  go_roundg k2
                  case measure => have := HJ1.out; have := HK2.out; omega
                  case rel => exact ⟨(wrap64 (x3_2 + 1)), (by first | rfl | (simp; done) | (simp [*]; done)), H', ⟨by have := HJ1.out; have := HK2.out; omega⟩, ⟨by (with_reducible repeat (first | refine blk_drewN ?_ _ | refine blk_drew ?_ | refine blk_alloc ?_ _)); exact BK103.out⟩, ⟨by repeat (first | (with_reducible first | exact HB.out | apply below_alloc | apply pw_below_drewN | apply below_drew1 | refine below_set ?_ GE103.out) | exact HB.out)⟩⟩
              · rw [if_neg c11] at H
                exact absurd H (by simp)
            · rw [if_neg c10] at H
              have c10b0 : decide (x3_2 < (l0_8.length : Int)) = false := decide_eq_false c10
              clear c10
              obtain rfl := Option.some.inj H
              have hcz15_0 : wr.cell? ⟨gb103, 0, none⟩ = some (.int .i64 a0_0) := (blk_cell BK103.out 0).trans rfl
              have hcz15_1 : wr.cell? ⟨gb103, 1, none⟩ = some (.int .i64 a0_1) := (blk_cell BK103.out 1).trans rfl
              have hcz15_2 : wr.cell? ⟨gb103, 2, none⟩ = some (.int .i64 a0_2) := (blk_cell BK103.out 2).trans rfl
              have hcz15_3 : wr.cell? ⟨gb103, 3, none⟩ = some (.int .i64 a0_3) := (blk_cell BK103.out 3).trans rfl
              have hcz15_4 : wr.cell? ⟨gb103, 4, none⟩ = some (.string a0_4) := (blk_cell BK103.out 4).trans rfl
              have hcz15_5 : wr.cell? ⟨gb103, 5, none⟩ = some (.int .i64 a0_5) := (blk_cell BK103.out 5).trans rfl
              have hcz15_6 : wr.cell? ⟨gb103, 6, none⟩ = some (.int .i64 a0_6) := (blk_cell BK103.out 6).trans rfl
              have hcz15_7 : wr.cell? ⟨gb103, 7, none⟩ = some (.string a0_7) := (blk_cell BK103.out 7).trans rfl
              have hcz15_8 : wr.cell? ⟨gb103, 8, none⟩ = some (.slice A0_8 l0_8.length c0_8) := (blk_cell BK103.out 8).trans rfl
              have hfz15_0 := blk_frozen BK103.out 0
              have hfz15_1 := blk_frozen BK103.out 1
              have hfz15_2 := blk_frozen BK103.out 2
              have hfz15_3 := blk_frozen BK103.out 3
              have hfz15_4 := blk_frozen BK103.out 4
              have hfz15_5 := blk_frozen BK103.out 5
              have hfz15_6 := blk_frozen BK103.out 6
              have hfz15_7 := blk_frozen BK103.out 7
              have hfz15_8 := blk_frozen BK103.out 8
              go_wp2
              go_ret
              exact ⟨by first | rfl | (simp [errW_none, errW_some] <;> rfl) | (simp [*, errW_none, errW_some] <;> rfl), by repeat (first | (with_reducible first | exact HB.out | apply below_alloc | apply pw_below_drewN | apply below_drew1 | refine below_set ?_ GE103.out) | exact HB.out)⟩

end Go.Proofs.Ytnimhhhbefpifaa.PL20
