/- Printed for this claim by a program of this session over the kit's print program: the Go functions as Lean functions, and proofs that the calls come to these answers. No conditions. -/
import Derived.Test.YtejljcglbkjgkaaSH
import Derived.Test.YtejljcglbkjgkaaSPL12x3
import Derived.Test.YtejljcglbkjgkaaSPL12x12
namespace Go.Proofs.Ytejljcglbkjgkaa.PL12
open Go.RowKit Go.Proofs.YtejljcglbkjgkaaW.PrintWords Go.Proofs.YtejljcglbkjgkaaW.PrintLast Go.Proofs.YtejljcglbkjgkaaW.PrintMore
attribute [local go_sem] max2_int min2_int max_two min_two max_three min_three max_four min_four   -- for this text's walks alone
set_option linter.unusedVariables false
set_option linter.unusedSimpArgs false

mutual
def samples_listed.j0 : Nat → Int → Int → Bool → Int → Int → Int → Int → Int → ByteArray → ByteArray → Bool → Option (ByteArray × Int)
 | 0, _, _, _, _, _, _, _, _, _, _, _ => none
 | k + 1, x1, x6, x22, x177000, x177001, x177002, x177003, x177004, x177005, x177006, x177007 => if x22 = true then (if 0 ≤ x1 then (if x1 < (x177006.size : Int) then (samples_listed.j1 k x1 (wrap64 (bt x177006 x1)) x177000 x177001 x177002 x177003 x177004 x177005 x177006 x177007) else (none)) else (none)) else (samples_listed.j1 k x1 x6 x177000 x177001 x177002 x177003 x177004 x177005 x177006 x177007)
def samples_listed.j1 : Nat → Int → Int → Int → Int → Int → Int → Int → ByteArray → ByteArray → Bool → Option (ByteArray × Int)
 | 0, _, _, _, _, _, _, _, _, _, _ => none
 | k + 1, x1, x6, x177000, x177001, x177002, x177003, x177004, x177005, x177006, x177007 => if 0 ≤ (wrap64 (3 * x1)) then (if (wrap64 (3 * x1)) ≤ (x177005.size : Int) then (if 0 < ((x177005.extract ((wrap64 (3 * x1)) : Int).toNat x177005.size).size : Int) then ((samples_Wide.f k (wrap64 (bt (x177005.extract ((wrap64 (3 * x1)) : Int).toNat x177005.size) 0)) 8).bind fun t177 => (if 1 < ((x177005.extract ((wrap64 (3 * x1)) : Int).toNat x177005.size).size : Int) then ((samples_Wide.f k (wrap64 (bt (x177005.extract ((wrap64 (3 * x1)) : Int).toNat x177005.size) 1)) 8).bind fun t178 => (if 2 < ((x177005.extract ((wrap64 (3 * x1)) : Int).toNat x177005.size).size : Int) then ((samples_Wide.f k (wrap64 (bt (x177005.extract ((wrap64 (3 * x1)) : Int).toNat x177005.size) 2)) 8).bind fun t179 => ((samples_Wide.f k x6 8).bind fun t180 => ((samples_pairs.f k (([t177, t178, t179, t180] : List Int))).bind fun t184 => (some (t184, 0))))) else (none))) else (none))) else (none)) else (none)) else (none)
end
def samples_listed.f (k : Nat) (a0_0 : Int) (a0_1 : Int) (a0_2 : Int) (a0_3 : Int) (a0_4 : Int) (a0_5 : ByteArray) (a0_6 : ByteArray) (a0_7 : Bool) (a1 : Int) : Option (ByteArray × Int) := if a1 ≥ (wrap64 ((a0_5.size : Int) / 3)) then (some ((⟨#[]⟩ : ByteArray), 29)) else (if a0_7 = true then (samples_listed.j0 k a1 255 (decide (a1 < (a0_6.size : Int))) a0_0 a0_1 a0_2 a0_3 a0_4 a0_5 a0_6 a0_7) else (samples_listed.j0 k a1 255 false a0_0 a0_1 a0_2 a0_3 a0_4 a0_5 a0_6 a0_7))
theorem samples_listed.mono_l : ∀ k, (∀ y0 y1 y2 y3 y4 y5 y6 y7 y8 y9 y10, LeO (samples_listed.j0 k y0 y1 y2 y3 y4 y5 y6 y7 y8 y9 y10) (samples_listed.j0 (k + 1) y0 y1 y2 y3 y4 y5 y6 y7 y8 y9 y10)) ∧ (∀ y0 y1 y2 y3 y4 y5 y6 y7 y8 y9, LeO (samples_listed.j1 k y0 y1 y2 y3 y4 y5 y6 y7 y8 y9) (samples_listed.j1 (k + 1) y0 y1 y2 y3 y4 y5 y6 y7 y8 y9))
 | 0 => ⟨fun _ _ _ _ _ _ _ _ _ _ _ r h => by simp [samples_listed.j0] at h, fun _ _ _ _ _ _ _ _ _ _ r h => by simp [samples_listed.j1] at h⟩
 | k + 1 => by
  obtain ⟨ih0, ih1⟩ := samples_listed.mono_l k
  refine ⟨?_, ?_⟩
  ·intro y0 y1 y2 y3 y4 y5 y6 y7 y8 y9 y10
   unfold samples_listed.j0
   repeat' first
   | (with_reducible exact ih0 _ _ _ _ _ _ _ _ _ _ _)
   | (with_reducible exact ih1 _ _ _ _ _ _ _ _ _ _)
   | (with_reducible exact samples_Wide.mono _ _ _)
   | (with_reducible exact samples_pairs.mono _ _)
   | (with_reducible exact LeO.refl _)
   | (with_reducible exact LeO.none _)
   | (with_reducible refine LeO.ite ?_ ?_)
   | (with_reducible refine LeO.bind ?_ (fun _ => ?_))
   | exact ih0 _ _ _ _ _ _ _ _ _ _ _
   | exact ih1 _ _ _ _ _ _ _ _ _ _
   | exact samples_Wide.mono _ _ _
   | exact samples_pairs.mono _ _
   | exact LeO.none _
   | refine LeO.ite ?_ ?_
   | refine LeO.bind ?_ (fun _ => ?_)
  ·intro y0 y1 y2 y3 y4 y5 y6 y7 y8 y9
   unfold samples_listed.j1
   repeat' first
   | (with_reducible exact ih0 _ _ _ _ _ _ _ _ _ _ _)
   | (with_reducible exact ih1 _ _ _ _ _ _ _ _ _ _)
   | (with_reducible exact samples_Wide.mono _ _ _)
   | (with_reducible exact samples_pairs.mono _ _)
   | (with_reducible exact LeO.refl _)
   | (with_reducible exact LeO.none _)
   | (with_reducible refine LeO.ite ?_ ?_)
   | (with_reducible refine LeO.bind ?_ (fun _ => ?_))
   | exact ih0 _ _ _ _ _ _ _ _ _ _ _
   | exact ih1 _ _ _ _ _ _ _ _ _ _
   | exact samples_Wide.mono _ _ _
   | exact samples_pairs.mono _ _
   | exact LeO.none _
   | refine LeO.ite ?_ ?_
   | refine LeO.bind ?_ (fun _ => ?_)
theorem samples_listed.mono : ∀ a0 a1 a2 a3 a4 a5 a6 a7 a8 k, LeO (samples_listed.f k a0 a1 a2 a3 a4 a5 a6 a7 a8) (samples_listed.f (k + 1) a0 a1 a2 a3 a4 a5 a6 a7 a8) := by
 intro a0 a1 a2 a3 a4 a5 a6 a7 a8 k
 obtain ⟨ih0, ih1⟩ := samples_listed.mono_l k
 unfold samples_listed.f
 repeat' first
   | (with_reducible exact ih0 _ _ _ _ _ _ _ _ _ _ _)
   | (with_reducible exact ih1 _ _ _ _ _ _ _ _ _ _)
   | (with_reducible exact samples_Wide.mono _ _ _)
   | (with_reducible exact samples_pairs.mono _ _)
   | (with_reducible exact LeO.refl _)
   | (with_reducible exact LeO.none _)
   | (with_reducible refine LeO.ite ?_ ?_)
   | (with_reducible refine LeO.bind ?_ (fun _ => ?_))
   | exact ih0 _ _ _ _ _ _ _ _ _ _ _
   | exact ih1 _ _ _ _ _ _ _ _ _ _
   | exact samples_Wide.mono _ _ _
   | exact samples_pairs.mono _ _
   | exact LeO.none _
   | refine LeO.ite ?_ ?_
   | refine LeO.bind ?_ (fun _ => ?_)
def samples_listed.T7 : Bool × List (List Nat × List Nat) := (true, [([], []), ([0], [0]), ([1], [1]), ([2], [2]), ([], []), ([4], [4]), ([5], [5]), ([6, 3], [6]), ([], []), ([8], [8]), ([9], [9]), ([10, 7], [10]), ([], []), ([12, 11], [12]), ([3, 7, 11, 13], [3, 7, 11, 13]), ([14, 13], [14]), ([15, 15, 0, 1, 2, 3, 4, 5, 6, 7, 8, 9, 10, 11, 12, 13, 14, 15], [15]), ([16, 0, 1, 2, 3, 4, 5, 6, 7, 8, 9, 10, 11, 12, 13, 14, 15, 16], [])])
def samples_listed.B7 : List Nat := [0, 1, 3, 7, 0, 16, 48, 127, 0, 256, 768, 2047, 0, 8191, 16383, 32767, 65535, 131071]
theorem samples_listed.tab7 : rtab .any (opsOf Try.f66 7) = samples_listed.T7 := by kernel_rfl
theorem samples_listed.bits7 : waitsOk samples_listed.T7.2 samples_listed.B7 = true := by kernel_rfl
set_option maxHeartbeats 40000000 in
set_option maxRecDepth 100000 in
theorem samples_listed.calls (k : Nat) (a0_0 : Int) (a0_1 : Int) (a0_2 : Int) (a0_3 : Int) (a0_4 : Int) (a0_5 : ByteArray) (a0_6 : ByteArray) (a0_7 : Bool) (a1 : Int) (r1 : ByteArray) (r2 : Int) (w : World) (h : samples_listed.f k a0_0 a0_1 a0_2 a0_3 a0_4 a0_5 a0_6 a0_7 a1 = some (r1, r2)) :
  Calls Try.prog 66 #[.agg #[.int .i64 a0_0, .int .i64 a0_1, .int .i64 a0_2, .int .i64 a0_3, .int .i64 a0_4, .string a0_5, .string a0_6, .bool a0_7], .int .i64 a1] w fun e w' => e = .returned (.tuple #[.string r1, .int .i64 r2]) ∧ Below w.heap.size w w' := by
 have hu31 := Try.underlying31
 have HB := Aside0.mk (Below.refl w.heap.size w)
 have H : (if a1 ≥ (wrap64 ((a0_5.size : Int) / 3)) then (some ((⟨#[]⟩ : ByteArray), 29)) else (if a0_7 = true then (samples_listed.j0 k a1 255 (decide (a1 < (a0_6.size : Int))) a0_0 a0_1 a0_2 a0_3 a0_4 a0_5 a0_6 a0_7) else (samples_listed.j0 k a1 255 false a0_0 a0_1 a0_2 a0_3 a0_4 a0_5 a0_6 a0_7))) = some (r1, r2) := h
 clear h
 by_cases c3 : a1 ≥ (wrap64 ((a0_5.size : Int) / 3))
 ·rw [if_pos c3] at H
  have c3b0 : decide ((wrap64 ((a0_5.size : Int) / 3)) ≤ a1) = true := decide_eq_true c3
  clear c3
  simp only [Option.some.injEq, Prod.mk.injEq] at H
  obtain ⟨rfl, rfl⟩ := H
  go_enter Try.func66, Try.ntmps66
  go_wp2_with (first | ((with_reducible refine gate_dst (N := 2) rfl ?_); (try (refine gate_guard (by rfl) ?_; dsimp only)); refine box_event ?hg (N := 2) ?hd (cs := #[.int .i64 a0_0, .int .i64 a0_1, .int .i64 a0_2, .int .i64 a0_3, .int .i64 a0_4, .string a0_5, .string a0_6, .bool a0_7]) (t := 31) ?hr ?_; (case hd => rfl); (case hg => rfl); (case hr => first | (go_simp; done) | (go_simp; rfl)); intro gb176 hg w4 hbox hb; have n0_ := Aside0.mk (below_step (hz HB) hb); have n1_ := Aside0.mk (hbox); have n2_ := Aside0.mk ((by rw [hg]; exact (below_size (hz HB)) : w.heap.size ≤ gb176)); have n3_ := Aside0.mk ((by rw [hg]; exact (below_size (hz HB)) : w.heap.size ≤ gb176)); clear HB; have HB := n0_; have BK176 := n1_; have GW176 := n2_; have GE176 := n3_; clear n0_ n1_ n2_ n3_; clear hb hbox hg; have hcz5_0 : w4.cell? ⟨gb176, 0, none⟩ = some (.int .i64 a0_0) := (blk_cell BK176.out 0).trans rfl; have hcz5_1 : w4.cell? ⟨gb176, 1, none⟩ = some (.int .i64 a0_1) := (blk_cell BK176.out 1).trans rfl; have hcz5_2 : w4.cell? ⟨gb176, 2, none⟩ = some (.int .i64 a0_2) := (blk_cell BK176.out 2).trans rfl; have hcz5_3 : w4.cell? ⟨gb176, 3, none⟩ = some (.int .i64 a0_3) := (blk_cell BK176.out 3).trans rfl; have hcz5_4 : w4.cell? ⟨gb176, 4, none⟩ = some (.int .i64 a0_4) := (blk_cell BK176.out 4).trans rfl; have hcz5_5 : w4.cell? ⟨gb176, 5, none⟩ = some (.string a0_5) := (blk_cell BK176.out 5).trans rfl; have hcz5_6 : w4.cell? ⟨gb176, 6, none⟩ = some (.string a0_6) := (blk_cell BK176.out 6).trans rfl; have hcz5_7 : w4.cell? ⟨gb176, 7, none⟩ = some (.bool a0_7) := (blk_cell BK176.out 7).trans rfl; have hfz5_0 := blk_frozen BK176.out 0; have hfz5_1 := blk_frozen BK176.out 1; have hfz5_2 := blk_frozen BK176.out 2; have hfz5_3 := blk_frozen BK176.out 3; have hfz5_4 := blk_frozen BK176.out 4; have hfz5_5 := blk_frozen BK176.out 5; have hfz5_6 := blk_frozen BK176.out 6; have hfz5_7 := blk_frozen BK176.out 7))
  go_ret2
  exact ⟨by first | rfl | (simp [errW_none, errW_some] <;> rfl) | (simp [*, errW_none, errW_some] <;> rfl), by repeat (first | (with_reducible first | exact HB.out | apply below_alloc | apply pw_below_drewN | apply below_drew1 | refine below_set ?_ GE176.out) | exact HB.out)⟩
 ·rw [if_neg c3] at H
  have c3b0 : decide ((wrap64 ((a0_5.size : Int) / 3)) ≤ a1) = false := decide_eq_false c3
  clear c3
  have HC6 := Aside0.mk H
  clear H
  go_enter Try.func66, Try.ntmps66
  go_upto_region 4 with (first | ((with_reducible refine gate_dst (N := 2) rfl ?_); (try (refine gate_guard (by rfl) ?_; dsimp only)); refine box_event ?hg (N := 2) ?hd (cs := #[.int .i64 a0_0, .int .i64 a0_1, .int .i64 a0_2, .int .i64 a0_3, .int .i64 a0_4, .string a0_5, .string a0_6, .bool a0_7]) (t := 31) ?hr ?_; (case hd => rfl); (case hg => rfl); (case hr => first | (go_simp; done) | (go_simp; rfl)); intro gb176 hg w7 hbox hb; have n0_ := Aside0.mk (below_step (hz HB) hb); have n1_ := Aside0.mk (hbox); have n2_ := Aside0.mk ((by rw [hg]; exact (below_size (hz HB)) : w.heap.size ≤ gb176)); have n3_ := Aside0.mk ((by rw [hg]; exact (below_size (hz HB)) : w.heap.size ≤ gb176)); clear HB; have HB := n0_; have BK176 := n1_; have GW176 := n2_; have GE176 := n3_; clear n0_ n1_ n2_ n3_; clear hb hbox hg; have hcz8_0 : w7.cell? ⟨gb176, 0, none⟩ = some (.int .i64 a0_0) := (blk_cell BK176.out 0).trans rfl; have hcz8_1 : w7.cell? ⟨gb176, 1, none⟩ = some (.int .i64 a0_1) := (blk_cell BK176.out 1).trans rfl; have hcz8_2 : w7.cell? ⟨gb176, 2, none⟩ = some (.int .i64 a0_2) := (blk_cell BK176.out 2).trans rfl; have hcz8_3 : w7.cell? ⟨gb176, 3, none⟩ = some (.int .i64 a0_3) := (blk_cell BK176.out 3).trans rfl; have hcz8_4 : w7.cell? ⟨gb176, 4, none⟩ = some (.int .i64 a0_4) := (blk_cell BK176.out 4).trans rfl; have hcz8_5 : w7.cell? ⟨gb176, 5, none⟩ = some (.string a0_5) := (blk_cell BK176.out 5).trans rfl; have hcz8_6 : w7.cell? ⟨gb176, 6, none⟩ = some (.string a0_6) := (blk_cell BK176.out 6).trans rfl; have hcz8_7 : w7.cell? ⟨gb176, 7, none⟩ = some (.bool a0_7) := (blk_cell BK176.out 7).trans rfl; have hfz8_0 := blk_frozen BK176.out 0; have hfz8_1 := blk_frozen BK176.out 1; have hfz8_2 := blk_frozen BK176.out 2; have hfz8_3 := blk_frozen BK176.out 3; have hfz8_4 := blk_frozen BK176.out 4; have hfz8_5 := blk_frozen BK176.out 5; have hfz8_6 := blk_frozen BK176.out 6; have hfz8_7 := blk_frozen BK176.out 7))
  (try simp only [Act.put, List.setIfInBounds_toArray, List.set_cons_zero, List.set_cons_succ])
  go_cut [22] (fun v22 wc => ∃ (kq : Nat) (x22_5 : Bool), v22 = .bool x22_5 ∧ Aside0 (samples_listed.j0 kq a1 255 x22_5 a0_0 a0_1 a0_2 a0_3 a0_4 a0_5 a0_6 a0_7 = some (r1, r2)) ∧ Aside0 (kq ≤ k) ∧ Aside0 (wc.heap[gb176]? = some (.cells #[.int .i64 a0_0, .int .i64 a0_1, .int .i64 a0_2, .int .i64 a0_3, .int .i64 a0_4, .string a0_5, .string a0_6, .bool a0_7] 31 (0, 0))) ∧ Aside0 (Below w.heap.size w wc))
  case first =>
   have H := HC6.out
   clear HC6
   by_cases c9 : a0_7 = true
   ·subst c9
    have H1 : (samples_listed.j0 k a1 255 (decide (a1 < (a0_6.size : Int))) a0_0 a0_1 a0_2 a0_3 a0_4 a0_5 a0_6 true) = some (r1, r2) := by rw [if_pos rfl] at H; exact H
    clear H
    have H := H1
    clear H1
    have H' := Aside0.mk H
    clear H
    have hcz10_0 : w7.cell? ⟨gb176, 0, none⟩ = some (.int .i64 a0_0) := (blk_cell BK176.out 0).trans rfl
    have hcz10_1 : w7.cell? ⟨gb176, 1, none⟩ = some (.int .i64 a0_1) := (blk_cell BK176.out 1).trans rfl
    have hcz10_2 : w7.cell? ⟨gb176, 2, none⟩ = some (.int .i64 a0_2) := (blk_cell BK176.out 2).trans rfl
    have hcz10_3 : w7.cell? ⟨gb176, 3, none⟩ = some (.int .i64 a0_3) := (blk_cell BK176.out 3).trans rfl
    have hcz10_4 : w7.cell? ⟨gb176, 4, none⟩ = some (.int .i64 a0_4) := (blk_cell BK176.out 4).trans rfl
    have hcz10_5 : w7.cell? ⟨gb176, 5, none⟩ = some (.string a0_5) := (blk_cell BK176.out 5).trans rfl
    have hcz10_6 : w7.cell? ⟨gb176, 6, none⟩ = some (.string a0_6) := (blk_cell BK176.out 6).trans rfl
    have hcz10_7 : w7.cell? ⟨gb176, 7, none⟩ = some (.bool true) := (blk_cell BK176.out 7).trans rfl
    have hfz10_0 := blk_frozen BK176.out 0
    have hfz10_1 := blk_frozen BK176.out 1
    have hfz10_2 := blk_frozen BK176.out 2
    have hfz10_3 := blk_frozen BK176.out 3
    have hfz10_4 := blk_frozen BK176.out 4
    have hfz10_5 := blk_frozen BK176.out 5
    have hfz10_6 := blk_frozen BK176.out 6
    have hfz10_7 := blk_frozen BK176.out 7
    go_wp2
    go_meet
    case rel => exact ⟨_, (decide (a1 < (a0_6.size : Int))), (by first | rfl | (simp; done) | (simp [*]; done)), H', ⟨by first | omega | exact Nat.le_refl _⟩, ⟨kz BK176⟩, ⟨hz HB⟩⟩
   ·replace c9 := Bool.eq_false_iff.mpr c9
    subst c9
    have H1 : (samples_listed.j0 k a1 255 false a0_0 a0_1 a0_2 a0_3 a0_4 a0_5 a0_6 false) = some (r1, r2) := by rw [if_neg (show ¬ (false = true) by decide)] at H; exact H
    clear H
    have H := H1
    clear H1
    have H' := Aside0.mk H
    clear H
    have hcz11_0 : w7.cell? ⟨gb176, 0, none⟩ = some (.int .i64 a0_0) := (blk_cell BK176.out 0).trans rfl
    have hcz11_1 : w7.cell? ⟨gb176, 1, none⟩ = some (.int .i64 a0_1) := (blk_cell BK176.out 1).trans rfl
    have hcz11_2 : w7.cell? ⟨gb176, 2, none⟩ = some (.int .i64 a0_2) := (blk_cell BK176.out 2).trans rfl
    have hcz11_3 : w7.cell? ⟨gb176, 3, none⟩ = some (.int .i64 a0_3) := (blk_cell BK176.out 3).trans rfl
    have hcz11_4 : w7.cell? ⟨gb176, 4, none⟩ = some (.int .i64 a0_4) := (blk_cell BK176.out 4).trans rfl
    have hcz11_5 : w7.cell? ⟨gb176, 5, none⟩ = some (.string a0_5) := (blk_cell BK176.out 5).trans rfl
    have hcz11_6 : w7.cell? ⟨gb176, 6, none⟩ = some (.string a0_6) := (blk_cell BK176.out 6).trans rfl
    have hcz11_7 : w7.cell? ⟨gb176, 7, none⟩ = some (.bool false) := (blk_cell BK176.out 7).trans rfl
    have hfz11_0 := blk_frozen BK176.out 0
    have hfz11_1 := blk_frozen BK176.out 1
    have hfz11_2 := blk_frozen BK176.out 2
    have hfz11_3 := blk_frozen BK176.out 3
    have hfz11_4 := blk_frozen BK176.out 4
    have hfz11_5 := blk_frozen BK176.out 5
    have hfz11_6 := blk_frozen BK176.out 6
    have hfz11_7 := blk_frozen BK176.out 7
    go_wp2
    go_meet
    case rel => exact ⟨_, (false), (by first | rfl | (simp; done) | (simp [*]; done)), H', ⟨by first | omega | exact Nat.le_refl _⟩, ⟨kz BK176⟩, ⟨hz HB⟩⟩
  case rest =>
   clear HC6
   try clear c3
   try clear c3b0
   try clear hcz8_0
   try clear hcz8_1
   try clear hcz8_2
   try clear hcz8_3
   try clear hcz8_4
   try clear hcz8_5
   try clear hcz8_6
   try clear hcz8_7
   try clear hfz8_0
   try clear hfz8_1
   try clear hfz8_2
   try clear hfz8_3
   try clear hfz8_4
   try clear hfz8_5
   try clear hfz8_6
   try clear hfz8_7
   obtain ⟨kq, x22_5, rfl, HA, HJ5, BK176, HB⟩ := hcut
   cases kq with
   | zero => exact absurd HA.out (by simp [samples_listed.j0])
   | succ kj5 =>
    have H := HA.out
    clear HA
    simp only [samples_listed.j0] at H
    have HC12 := Aside0.mk H
    clear H
    go_upto_if 22 with (fail)
    go_cut [6] (fun v6 wc => ∃ (kq : Nat) (x6_11 : Int), v6 = .int .i64 x6_11 ∧ Aside0 (samples_listed.j1 kq a1 x6_11 a0_0 a0_1 a0_2 a0_3 a0_4 a0_5 a0_6 a0_7 = some (r1, r2)) ∧ Aside0 (kq ≤ kj5) ∧ Aside0 (wc.heap[gb176]? = some (.cells #[.int .i64 a0_0, .int .i64 a0_1, .int .i64 a0_2, .int .i64 a0_3, .int .i64 a0_4, .string a0_5, .string a0_6, .bool a0_7] 31 (0, 0))) ∧ Aside0 (Below w.heap.size w wc))
    case first =>
     have H := HC12.out
     clear HC12
     by_cases c13 : x22_5 = true
     ·subst c13
      have H1 : (if 0 ≤ a1 then (if a1 < (a0_6.size : Int) then (samples_listed.j1 kj5 a1 (wrap64 (bt a0_6 a1)) a0_0 a0_1 a0_2 a0_3 a0_4 a0_5 a0_6 a0_7) else (none)) else (none)) = some (r1, r2) := by rw [if_pos rfl] at H; exact H
      clear H
      have H := H1
      clear H1
      by_cases c14 : 0 ≤ a1
      ·rw [if_pos c14] at H
       have c14b0 : decide (0 ≤ a1) = true := decide_eq_true c14
       clear c14
       (first | rw [c14b0] | (simp only [i64_w, i32_w]; rw [c14b0]) | skip)
       by_cases c15 : a1 < (a0_6.size : Int)
       ·rw [if_pos c15] at H
        have c15b0 : decide (a1 < (a0_6.size : Int)) = true := decide_eq_true c15
        clear c15
        have H' := Aside0.mk H
        clear H
        have hcz17_0 : wc.cell? ⟨gb176, 0, none⟩ = some (.int .i64 a0_0) := (blk_cell BK176.out 0).trans rfl
        have hcz17_1 : wc.cell? ⟨gb176, 1, none⟩ = some (.int .i64 a0_1) := (blk_cell BK176.out 1).trans rfl
        have hcz17_2 : wc.cell? ⟨gb176, 2, none⟩ = some (.int .i64 a0_2) := (blk_cell BK176.out 2).trans rfl
        have hcz17_3 : wc.cell? ⟨gb176, 3, none⟩ = some (.int .i64 a0_3) := (blk_cell BK176.out 3).trans rfl
        have hcz17_4 : wc.cell? ⟨gb176, 4, none⟩ = some (.int .i64 a0_4) := (blk_cell BK176.out 4).trans rfl
        have hcz17_5 : wc.cell? ⟨gb176, 5, none⟩ = some (.string a0_5) := (blk_cell BK176.out 5).trans rfl
        have hcz17_6 : wc.cell? ⟨gb176, 6, none⟩ = some (.string a0_6) := (blk_cell BK176.out 6).trans rfl
        have hcz17_7 : wc.cell? ⟨gb176, 7, none⟩ = some (.bool a0_7) := (blk_cell BK176.out 7).trans rfl
        have hfz17_0 := blk_frozen BK176.out 0
        have hfz17_1 := blk_frozen BK176.out 1
        have hfz17_2 := blk_frozen BK176.out 2
        have hfz17_3 := blk_frozen BK176.out 3
        have hfz17_4 := blk_frozen BK176.out 4
        have hfz17_5 := blk_frozen BK176.out 5
        have hfz17_6 := blk_frozen BK176.out 6
        have hfz17_7 := blk_frozen BK176.out 7
        have p16 : 0 ≤ (a1 : Int) := of_decide_eq_true (by first | (with_reducible assumption) | assumption)
        have q16 : a1 < (a0_6.size : Int) := of_decide_eq_true (by first | (with_reducible assumption) | assumption)
        have hx16 := bt_at a0_6 a1
        replace p16 := eq_true p16
        replace q16 := eq_true q16
        go_wp2
        go_meet
        case rel => exact ⟨_, (wrap64 (bt a0_6 a1)), (by first | rfl | (simp; done) | (simp [*]; done)), H', ⟨by have := HJ5.out; first | omega | exact Nat.le_refl _⟩, ⟨kz BK176⟩, ⟨hz HB⟩⟩
       ·rw [if_neg c15] at H
        exact absurd H (by simp)
      ·rw [if_neg c14] at H
       exact absurd H (by simp)
     ·replace c13 := Bool.eq_false_iff.mpr c13
      subst c13
      have H1 : (samples_listed.j1 kj5 a1 255 a0_0 a0_1 a0_2 a0_3 a0_4 a0_5 a0_6 a0_7) = some (r1, r2) := by rw [if_neg (show ¬ (false = true) by decide)] at H; exact H
      clear H
      have H := H1
      clear H1
      have H' := Aside0.mk H
      clear H
      go_wp2
      go_meet
      case rel => exact ⟨_, (255), (by first | rfl | (simp; done) | (simp [*]; done)), H', ⟨by have := HJ5.out; first | omega | exact Nat.le_refl _⟩, ⟨kz BK176⟩, ⟨hz HB⟩⟩
    case rest =>
     clear HC12
     try clear c3
     try clear c3b0
     try clear hcz8_0
     try clear hcz8_1
     try clear hcz8_2
     try clear hcz8_3
     try clear hcz8_4
     try clear hcz8_5
     try clear hcz8_6
     try clear hcz8_7
     try clear hfz8_0
     try clear hfz8_1
     try clear hfz8_2
     try clear hfz8_3
     try clear hfz8_4
     try clear hfz8_5
     try clear hfz8_6
     try clear hfz8_7
     obtain ⟨kq, x6_11, rfl, HA, HJ11, BK176, HB⟩ := hcut
     cases kq with
     | zero => exact absurd HA.out (by simp [samples_listed.j1])
     | succ kj11 =>
      have H := HA.out
      clear HA
      simp only [samples_listed.j1] at H
      obtain ⟨ji18, hji18⟩ : ∃ j_ : Int, (wrap64 (3 * a1)) = j_ := ⟨_, rfl⟩
      replace H : (if 0 ≤ (ji18) then (if (ji18) ≤ (a0_5.size : Int) then (if 0 < ((a0_5.extract ((ji18) : Int).toNat a0_5.size).size : Int) then ((samples_Wide.f kj11 (wrap64 (bt (a0_5.extract ((ji18) : Int).toNat a0_5.size) 0)) 8).bind fun t177 => (if 1 < ((a0_5.extract ((ji18) : Int).toNat a0_5.size).size : Int) then ((samples_Wide.f kj11 (wrap64 (bt (a0_5.extract ((ji18) : Int).toNat a0_5.size) 1)) 8).bind fun t178 => (if 2 < ((a0_5.extract ((ji18) : Int).toNat a0_5.size).size : Int) then ((samples_Wide.f kj11 (wrap64 (bt (a0_5.extract ((ji18) : Int).toNat a0_5.size) 2)) 8).bind fun t179 => ((samples_Wide.f kj11 x6_11 8).bind fun t180 => ((samples_pairs.f kj11 (([t177, t178, t179, t180] : List Int))).bind fun t184 => (some (t184, 0))))) else (none))) else (none))) else (none)) else (none)) else (none)) = some (r1, r2) := by first | (rw [hji18] at H; exact H) | (simp only [hji18] at H ⊢; exact H)
      have hji18w : (IntKind.i64.wrap (3 * a1)) = ji18 := (i64_w _).trans hji18
      by_cases c19 : 0 ≤ (ji18)
      ·rw [if_pos c19] at H
       have c19b0 := eq_true c19
       have c19b1 : decide (0 ≤ (ji18)) = true := decide_eq_true c19
       clear c19
       by_cases c20 : (ji18) ≤ (a0_5.size : Int)
       ·rw [if_pos c20] at H
        have c20b0 := eq_true c20
        have c20b1 : decide ((ji18) ≤ (a0_5.size : Int)) = true := decide_eq_true c20
        clear c20
        by_cases c21 : 0 < ((a0_5.extract ((ji18) : Int).toNat a0_5.size).size : Int)
        ·rw [if_pos c21] at H
         have c21b0 : decide (0 < ((a0_5.extract ((ji18) : Int).toNat a0_5.size).size : Int)) = true := decide_eq_true c21
         have c21b1 : decide (0 < (a0_5.extract ((ji18) : Int).toNat a0_5.size).size) = true := decide_eq_true (by omega)
         have c21bx : (0 < a0_5.size - ((ji18) : Int).toNat) = True := eq_true (by have h_ : (0 : Int) < ((a0_5.extract ((ji18) : Int).toNat a0_5.size).size : Int) := c21; rw [ByteArray.size_extract] at h_; omega)
         have c21by : (0 < ((a0_5.size - ((ji18) : Int).toNat : Nat) : Int)) = True := eq_true (by have h_ := of_eq_true c21bx; omega)
         clear c21
         replace H := Option.bind_eq_some_iff.mp H
         obtain ⟨t177, A230, H⟩ := H
         replace H : (if 1 < ((a0_5.extract ((ji18) : Int).toNat a0_5.size).size : Int) then ((samples_Wide.f kj11 (wrap64 (bt (a0_5.extract ((ji18) : Int).toNat a0_5.size) 1)) 8).bind fun t178 => (if 2 < ((a0_5.extract ((ji18) : Int).toNat a0_5.size).size : Int) then ((samples_Wide.f kj11 (wrap64 (bt (a0_5.extract ((ji18) : Int).toNat a0_5.size) 2)) 8).bind fun t179 => ((samples_Wide.f kj11 x6_11 8).bind fun t180 => ((samples_pairs.f kj11 (([t177, t178, t179, t180] : List Int))).bind fun t184 => (some (t184, 0))))) else (none))) else (none)) = some (r1, r2) := H
         have A23 := Aside0.mk A230
         clear A230
         by_cases c24 : 1 < ((a0_5.extract ((ji18) : Int).toNat a0_5.size).size : Int)
         ·rw [if_pos c24] at H
          have c24b0 : decide (1 < ((a0_5.extract ((ji18) : Int).toNat a0_5.size).size : Int)) = true := decide_eq_true c24
          have c24b1 : decide (1 < (a0_5.extract ((ji18) : Int).toNat a0_5.size).size) = true := decide_eq_true (by omega)
          have c24bx : (1 < a0_5.size - ((ji18) : Int).toNat) = True := eq_true (by have h_ : (1 : Int) < ((a0_5.extract ((ji18) : Int).toNat a0_5.size).size : Int) := c24; rw [ByteArray.size_extract] at h_; omega)
          have c24by : (1 < ((a0_5.size - ((ji18) : Int).toNat : Nat) : Int)) = True := eq_true (by have h_ := of_eq_true c24bx; omega)
          clear c24
          replace H := Option.bind_eq_some_iff.mp H
          obtain ⟨t178, A260, H⟩ := H
          replace H : (if 2 < ((a0_5.extract ((ji18) : Int).toNat a0_5.size).size : Int) then ((samples_Wide.f kj11 (wrap64 (bt (a0_5.extract ((ji18) : Int).toNat a0_5.size) 2)) 8).bind fun t179 => ((samples_Wide.f kj11 x6_11 8).bind fun t180 => ((samples_pairs.f kj11 (([t177, t178, t179, t180] : List Int))).bind fun t184 => (some (t184, 0))))) else (none)) = some (r1, r2) := H
          have A26 := Aside0.mk A260
          clear A260
          by_cases c27 : 2 < ((a0_5.extract ((ji18) : Int).toNat a0_5.size).size : Int)
          ·rw [if_pos c27] at H
           have c27b0 : decide (2 < ((a0_5.extract ((ji18) : Int).toNat a0_5.size).size : Int)) = true := decide_eq_true c27
           have c27b1 : decide (2 < (a0_5.extract ((ji18) : Int).toNat a0_5.size).size) = true := decide_eq_true (by omega)
           have c27bx : (2 < a0_5.size - ((ji18) : Int).toNat) = True := eq_true (by have h_ : (2 : Int) < ((a0_5.extract ((ji18) : Int).toNat a0_5.size).size : Int) := c27; rw [ByteArray.size_extract] at h_; omega)
           have c27by : (2 < ((a0_5.size - ((ji18) : Int).toNat : Nat) : Int)) = True := eq_true (by have h_ := of_eq_true c27bx; omega)
           clear c27
           replace H := Option.bind_eq_some_iff.mp H
           obtain ⟨t179, A290, H⟩ := H
           replace H : ((samples_Wide.f kj11 x6_11 8).bind fun t180 => ((samples_pairs.f kj11 (([t177, t178, t179, t180] : List Int))).bind fun t184 => (some (t184, 0)))) = some (r1, r2) := H
           have A29 := Aside0.mk A290
           clear A290
           replace H := Option.bind_eq_some_iff.mp H
           obtain ⟨t180, A300, H⟩ := H
           replace H : ((samples_pairs.f kj11 (([t177, t178, t179, t180] : List Int))).bind fun t184 => (some (t184, 0))) = some (r1, r2) := H
           have A30 := Aside0.mk A300
           clear A300
           obtain ⟨y181, hy181⟩ : ∃ y_ : List Int, y_ = (([t177, t178, t179, t180] : List Int)) := ⟨_, rfl⟩
           replace H : ((samples_pairs.f kj11 y181).bind fun t184 => (some (t184, 0))) = some (r1, r2) := by first | (rw [hy181]; with_reducible exact H) | (have H2_ := (Option.bind_some _ _).symm.trans H; rw [hy181]; with_reducible exact H2_) | (have H2_ := (Option.bind_some _ _).symm.trans H; with_reducible exact H2_) | with_reducible exact H | (rw [hy181]; exact H) | exact H
           have Ny181 := Aside0.mk hy181
           clear hy181
           replace H := Option.bind_eq_some_iff.mp H
           obtain ⟨t184, A310, H⟩ := H
           replace H : (some (t184, 0)) = some (r1, r2) := H
           have A31 := Aside0.mk A310
           clear A310
           simp only [Option.some.injEq, Prod.mk.injEq] at H
           obtain ⟨rfl, rfl⟩ := H
           have hcz32_0 : wc.cell? ⟨gb176, 0, none⟩ = some (.int .i64 a0_0) := (blk_cell BK176.out 0).trans rfl
           have hcz32_1 : wc.cell? ⟨gb176, 1, none⟩ = some (.int .i64 a0_1) := (blk_cell BK176.out 1).trans rfl
           have hcz32_2 : wc.cell? ⟨gb176, 2, none⟩ = some (.int .i64 a0_2) := (blk_cell BK176.out 2).trans rfl
           have hcz32_3 : wc.cell? ⟨gb176, 3, none⟩ = some (.int .i64 a0_3) := (blk_cell BK176.out 3).trans rfl
           have hcz32_4 : wc.cell? ⟨gb176, 4, none⟩ = some (.int .i64 a0_4) := (blk_cell BK176.out 4).trans rfl
           have hcz32_5 : wc.cell? ⟨gb176, 5, none⟩ = some (.string a0_5) := (blk_cell BK176.out 5).trans rfl
           have hcz32_6 : wc.cell? ⟨gb176, 6, none⟩ = some (.string a0_6) := (blk_cell BK176.out 6).trans rfl
           have hcz32_7 : wc.cell? ⟨gb176, 7, none⟩ = some (.bool a0_7) := (blk_cell BK176.out 7).trans rfl
           have hfz32_0 := blk_frozen BK176.out 0
           have hfz32_1 := blk_frozen BK176.out 1
           have hfz32_2 := blk_frozen BK176.out 2
           have hfz32_3 := blk_frozen BK176.out 3
           have hfz32_4 := blk_frozen BK176.out 4
           have hfz32_5 := blk_frozen BK176.out 5
           have hfz32_6 := blk_frozen BK176.out 6
           have hfz32_7 := blk_frozen BK176.out 7
           try go_wp2
           have n0_ := Aside0.mk (blk_drew BK176.out)
           have n1_ := Aside0.mk (below_drew1 HB.out)
           clear BK176
           clear HB
           have BK176 := n0_
           have HB := n1_
           clear n0_ n1_
           have p22 : 0 ≤ (0 : Int) := (by omega)
           have q22 : 0 < (a0_5.extract ((ji18) : Int).toNat a0_5.size).size := (by have : (0 : Int) < ((a0_5.extract ((ji18) : Int).toNat a0_5.size).size : Int) := of_decide_eq_true (by first | (with_reducible assumption) | assumption); omega)
           have hx22 : ∀ h : 0 < (a0_5.extract ((ji18) : Int).toNat a0_5.size).size, (((a0_5.extract ((ji18) : Int).toNat a0_5.size)[0]'h).toNat : Int) = bt (a0_5.extract ((ji18) : Int).toNat a0_5.size) 0 := bt_at (a0_5.extract ((ji18) : Int).toNat a0_5.size) 0
           clear p22
           have qi22 : (0 < ((a0_5.extract ((ji18) : Int).toNat a0_5.size).size : Int)) = True := eq_true (of_decide_eq_true (by first | (with_reducible assumption) | assumption))
           replace q22 := eq_true q22
           have p25 : 0 ≤ (1 : Int) := (by omega)
           have q25 : 1 < (a0_5.extract ((ji18) : Int).toNat a0_5.size).size := (by have : (1 : Int) < ((a0_5.extract ((ji18) : Int).toNat a0_5.size).size : Int) := of_decide_eq_true (by first | (with_reducible assumption) | assumption); omega)
           have hx25 : ∀ h : 1 < (a0_5.extract ((ji18) : Int).toNat a0_5.size).size, (((a0_5.extract ((ji18) : Int).toNat a0_5.size)[1]'h).toNat : Int) = bt (a0_5.extract ((ji18) : Int).toNat a0_5.size) 1 := bt_at (a0_5.extract ((ji18) : Int).toNat a0_5.size) 1
           clear p25
           have qi25 : (1 < ((a0_5.extract ((ji18) : Int).toNat a0_5.size).size : Int)) = True := eq_true (of_decide_eq_true (by first | (with_reducible assumption) | assumption))
           replace q25 := eq_true q25
           have p28 : 0 ≤ (2 : Int) := (by omega)
           have q28 : 2 < (a0_5.extract ((ji18) : Int).toNat a0_5.size).size := (by have : (2 : Int) < ((a0_5.extract ((ji18) : Int).toNat a0_5.size).size : Int) := of_decide_eq_true (by first | (with_reducible assumption) | assumption); omega)
           have hx28 : ∀ h : 2 < (a0_5.extract ((ji18) : Int).toNat a0_5.size).size, (((a0_5.extract ((ji18) : Int).toNat a0_5.size)[2]'h).toNat : Int) = bt (a0_5.extract ((ji18) : Int).toNat a0_5.size) 2 := bt_at (a0_5.extract ((ji18) : Int).toNat a0_5.size) 2
           clear p28
           have qi28 : (2 < ((a0_5.extract ((ji18) : Int).toNat a0_5.size).size : Int)) = True := eq_true (of_decide_eq_true (by first | (with_reducible assumption) | assumption))
           replace q28 := eq_true q28
           refine start_ (n := 18) (S := fun w' => True) (ds := []) (bm 18 0) (by kernel_rfl) rfl rfl trivial (fun hHeld => ?_); refine with_tabW samples_listed.tab7 samples_listed.bits7 (fun HT_ HW_ => ?_)
           generalize wc.drew = w33 at BK176 HB hHeld ⊢
           refine zp 0 33 (bm 18 1) ?_
           refine zp 4 37 (bm 18 17) ?_
           refine zp 8 41 (bm 18 273) ?_
           refine zp 12 45 (bm 18 4369) ?_
           refine zt 1 34 (bm 18 4371) rfl (by intro w' _; go_simp; with_reducible rfl) ?_
           refine zp 2 35 (bm 18 4375) ?_
           refine zt 5 38 (bm 18 4407) rfl (by intro w' _; go_simp; with_reducible rfl) ?_
           refine zp 6 39 (bm 18 4471) ?_
           refine zt 9 42 (bm 18 4983) rfl (by intro w' _; go_simp; with_reducible rfl) ?_
           refine zp 10 43 (bm 18 6007) ?_
           refine one_ (i := 3) (N := some 36) (bm 18 6015) rfl rfl (one_of HT_.out (by kernel_rfl)) (by decide) (fun K hK => ?_)
           refine goes_ Try.func67 (by kernel_rfl) rfl #[.int .i64 (wrap64 (bt (a0_5.extract ((ji18) : Int).toNat a0_5.size) 0)), .int .i64 8] (by rfl) rfl rfl (by (try simp only [List.map_toArray, List.map_cons, List.map_nil]); first | done | (simp only [hji18]; rfl) | rfl | (simp only [List.length_drop, List.length_take]; rfl) | (simp only [ByteArray.size_extract, Nat.min_self]; done) | (simp only [ByteArray.size_extract, Nat.min_self]; rfl)) ?_
           with_reducible refine (samples_Wide.calls kj11 (wrap64 (bt (a0_5.extract ((ji18) : Int).toNat a0_5.size) 0)) 8 t177 _ A23.out).mono ?_
           rintro e w34 ⟨rfl, hb⟩
           refine ⟨_, rfl, ?_⟩
           have n0_ := Aside0.mk (blk_below (g := gb176) (o := .cells #[.int .i64 a0_0, .int .i64 a0_1, .int .i64 a0_2, .int .i64 a0_3, .int .i64 a0_4, .string a0_5, .string a0_6, .bool a0_7] 31 (0, 0)) (kz BK176) hb)
           have n1_ := Aside0.mk (below_step (hz HB) hb)
           clear BK176
           clear HB
           have BK176 := n0_
           have HB := n1_
           clear n0_ n1_
           (try clear hb)
           refine hK.out _ _ trivial (fun hHeld => ?_)
           clear hK K
           refine norm_ (a' := ?_) ?_ ?_
           rotate_left
           ·show Act.put _ (some 36) _ = _
            simp only [Act.put, zq1, zq2, zq3, i64_w, i32_w]
            rfl
           refine one_ (i := 7) (N := some 40) (bm 18 6143) rfl rfl (one_of HT_.out (by kernel_rfl)) (by decide) (fun K hK => ?_)
           refine goes_ Try.func67 (by kernel_rfl) rfl #[.int .i64 (wrap64 (bt (a0_5.extract ((ji18) : Int).toNat a0_5.size) 1)), .int .i64 8] (by rfl) rfl rfl (by (try simp only [List.map_toArray, List.map_cons, List.map_nil]); first | done | (simp only [hji18]; rfl) | rfl | (simp only [List.length_drop, List.length_take]; rfl) | (simp only [ByteArray.size_extract, Nat.min_self]; done) | (simp only [ByteArray.size_extract, Nat.min_self]; rfl)) ?_
           with_reducible refine (samples_Wide.calls kj11 (wrap64 (bt (a0_5.extract ((ji18) : Int).toNat a0_5.size) 1)) 8 t178 _ A26.out).mono ?_
           rintro e w35 ⟨rfl, hb⟩
           refine ⟨_, rfl, ?_⟩
           have n0_ := Aside0.mk (blk_below (g := gb176) (o := .cells #[.int .i64 a0_0, .int .i64 a0_1, .int .i64 a0_2, .int .i64 a0_3, .int .i64 a0_4, .string a0_5, .string a0_6, .bool a0_7] 31 (0, 0)) (kz BK176) hb)
           have n1_ := Aside0.mk (below_step (hz HB) hb)
           clear BK176
           clear HB
           have BK176 := n0_
           have HB := n1_
           clear n0_ n1_
           (try clear hb)
           refine hK.out _ _ trivial (fun hHeld => ?_)
           clear hK K
           refine norm_ (a' := ?_) ?_ ?_
           rotate_left
           ·show Act.put _ (some 40) _ = _
            simp only [Act.put, zq1, zq2, zq3, i64_w, i32_w]
            rfl
           refine one_ (i := 11) (N := some 44) (bm 18 8191) rfl rfl (one_of HT_.out (by kernel_rfl)) (by decide) (fun K hK => ?_)
           refine goes_ Try.func67 (by kernel_rfl) rfl #[.int .i64 (wrap64 (bt (a0_5.extract ((ji18) : Int).toNat a0_5.size) 2)), .int .i64 8] (by rfl) rfl rfl (by (try simp only [List.map_toArray, List.map_cons, List.map_nil]); first | done | (simp only [hji18]; rfl) | rfl | (simp only [List.length_drop, List.length_take]; rfl) | (simp only [ByteArray.size_extract, Nat.min_self]; done) | (simp only [ByteArray.size_extract, Nat.min_self]; rfl)) ?_
           with_reducible refine (samples_Wide.calls kj11 (wrap64 (bt (a0_5.extract ((ji18) : Int).toNat a0_5.size) 2)) 8 t179 _ A29.out).mono ?_
           rintro e w36 ⟨rfl, hb⟩
           refine ⟨_, rfl, ?_⟩
           have n0_ := Aside0.mk (blk_below (g := gb176) (o := .cells #[.int .i64 a0_0, .int .i64 a0_1, .int .i64 a0_2, .int .i64 a0_3, .int .i64 a0_4, .string a0_5, .string a0_6, .bool a0_7] 31 (0, 0)) (kz BK176) hb)
           have n1_ := Aside0.mk (below_step (hz HB) hb)
           clear BK176
           clear HB
           have BK176 := n0_
           have HB := n1_
           clear n0_ n1_
           (try clear hb)
           refine hK.out _ _ trivial (fun hHeld => ?_)
           clear hK K
           refine norm_ (a' := ?_) ?_ ?_
           rotate_left
           ·show Act.put _ (some 44) _ = _
            simp only [Act.put, zq1, zq2, zq3, i64_w, i32_w]
            rfl
           refine one_ (i := 13) (N := some 46) (bm 18 16383) rfl rfl (one_of HT_.out (by kernel_rfl)) (by decide) (fun K hK => ?_)
           refine goes_ Try.func67 (by kernel_rfl) rfl #[.int .i64 x6_11, .int .i64 8] (by rfl) rfl rfl (by (try simp only [List.map_toArray, List.map_cons, List.map_nil]); first | done | rfl | (simp only [List.length_drop, List.length_take]; rfl) | (simp only [ByteArray.size_extract, Nat.min_self]; done) | (simp only [ByteArray.size_extract, Nat.min_self]; rfl)) ?_
           with_reducible refine (samples_Wide.calls kj11 x6_11 8 t180 _ A30.out).mono ?_
           rintro e w37 ⟨rfl, hb⟩
           refine ⟨_, rfl, ?_⟩
           have n0_ := Aside0.mk (blk_below (g := gb176) (o := .cells #[.int .i64 a0_0, .int .i64 a0_1, .int .i64 a0_2, .int .i64 a0_3, .int .i64 a0_4, .string a0_5, .string a0_6, .bool a0_7] 31 (0, 0)) (kz BK176) hb)
           have n1_ := Aside0.mk (below_step (hz HB) hb)
           clear BK176
           clear HB
           have BK176 := n0_
           have HB := n1_
           clear n0_ n1_
           (try clear hb)
           refine hK.out _ _ trivial (fun hHeld => ?_)
           clear hK K
           refine norm_ (a' := ?_) ?_ ?_
           rotate_left
           ·show Act.put _ (some 46) _ = _
            simp only [Act.put, zq1, zq2, zq3, i64_w, i32_w]
            rfl
           refine one_ (i := 14) (N := some 47) (bm 18 32767) rfl rfl (one_of HT_.out (by kernel_rfl)) (by decide) (fun K hK => ?_)
           refine Kd.R_lit_step (Kd.int .i64) _ 3 ?hg (N := 47) ?hd (xs := ([t177, t178, t179, t180] : List Int)) (inner := [.int .i64 t177, .int .i64 t178, .int .i64 t179, .int .i64 t180]) (ok := fun _ => True) (okp := fun _ => True) ?hr ?hp (fun _ hk => hk) trivial (Below.refl _ _) (Nat.le_refl _) (by simp) ?_; (case hd => rfl); (case hg => rfl); (case hr => first | (go_simp; done) | (go_simp; rfl)); (case hp => exact (Reps.one (show Kd.M (Kd.int .i64) _ _ _ t177 [.int .i64 t177] from rfl) (Reps.one (show Kd.M (Kd.int .i64) _ _ _ t178 [.int .i64 t178] from rfl) (Reps.one (show Kd.M (Kd.int .i64) _ _ _ t179 [.int .i64 t179] from rfl) (Reps.one (show Kd.M (Kd.int .i64) _ _ _ t180 [.int .i64 t180] from rfl) (Reps.none _ _))))))
           intro v182 w38 ho39 hb hg_ hnew_
           clear hg_ hnew_
           (first | rw [← Ny181.out] at ho39 | (simp only [Int.reduceToNat] at ho39; rw [← Ny181.out] at ho39))
           have n0_ := Aside0.mk (Kd.R_lower ho39 (below_size (hz HB)))
           have n1_ := Aside0.mk (blk_below (g := gb176) (o := .cells #[.int .i64 a0_0, .int .i64 a0_1, .int .i64 a0_2, .int .i64 a0_3, .int .i64 a0_4, .string a0_5, .string a0_6, .bool a0_7] 31 (0, 0)) (kz BK176) hb)
           have n2_ := Aside0.mk (below_step (hz HB) hb)
           clear BK176
           clear HB
           have HO183 := n0_
           have BK176 := n1_
           have HB := n2_
           clear n0_ n1_ n2_
           clear hb ho39
           obtain ⟨Ao40, co40, eo40⟩ := Kd.R_slice HO183.out
           (first | subst eo40 | (injection eo40 with f1_ f2_ f3_; have f4_ := f1_.symm; have f5_ := f3_.symm; clear f1_ f2_ f3_; subst f4_; subst f5_))
           refine hK.out _ _ trivial (fun hHeld => ?_)
           clear hK K
           refine norm_ (a' := ?_) ?_ ?_
           rotate_left
           ·show Act.put _ (some 47) _ = _
            simp only [Act.put, zq1, zq2, zq3, i64_w, i32_w]
            rfl
           refine one_ (i := 15) (N := some 48) (bm 18 65535) rfl rfl (one_of HT_.out (by kernel_rfl)) (by decide) (fun K hK => ?_)
           refine goes_ Try.func69 (by kernel_rfl) rfl #[.slice Ao40 y181.length co40] (by rfl) rfl rfl (by (try simp only [List.map_toArray, List.map_cons, List.map_nil]); first | done | rfl | (simp only [List.length_drop, List.length_take]; rfl) | (simp only [ByteArray.size_extract, Nat.min_self]; done) | (simp only [ByteArray.size_extract, Nat.min_self]; rfl)) ?_
           with_reducible refine (samples_pairs.calls kj11 _ _ y181 t184 _ ?side1 ?side2 A31.out).mono ?_
           (case side1 => repeat (first | exact (Kd.R_reads' HO183.out).2.2 | (with_reducible refine Kd.C_alloc ?_ _) | (with_reducible refine Kd.C_drewN ?_ _) | (with_reducible refine Kd.C_drew ?_)))
           (case side2 => exact (Kd.R_reads' HO183.out).2.1)
           rintro e w41 ⟨rfl, hb⟩
           refine ⟨_, rfl, ?_⟩
           have n0_ := Aside0.mk (Kd.R_below (oz HO183) hb)
           have n1_ := Aside0.mk (blk_below (g := gb176) (o := .cells #[.int .i64 a0_0, .int .i64 a0_1, .int .i64 a0_2, .int .i64 a0_3, .int .i64 a0_4, .string a0_5, .string a0_6, .bool a0_7] 31 (0, 0)) (kz BK176) hb)
           have n2_ := Aside0.mk (below_step (hz HB) hb)
           clear HO183
           clear BK176
           clear HB
           have HO183 := n0_
           have BK176 := n1_
           have HB := n2_
           clear n0_ n1_ n2_
           (try clear hb)
           refine hK.out _ _ trivial (fun hHeld => ?_)
           clear hK K
           refine norm_ (a' := ?_) ?_ ?_
           rotate_left
           ·show Act.put _ (some 48) _ = _
            simp only [Act.put, zq1, zq2, zq3, i64_w, i32_w]
            rfl
           refine zp 16 4 (bm 18 131071) ?_
           refine zp 17 5 (bm 18 262143) ?_
           refine done_ (done_of HT_.out (by kernel_rfl)) ?_
           try go_wp2
           go_ret2
           exact ⟨by first | rfl | (simp [errW_none, errW_some] <;> rfl) | (simp only [← hji18]; first | rfl | (simp [errW_none, errW_some] <;> rfl)) | (simp [*, errW_none, errW_some] <;> rfl), by repeat (first | (with_reducible first | exact HB.out | apply below_alloc | apply pw_below_drewN | apply below_drew1 | refine below_set ?_ GE176.out) | exact HB.out)⟩
          ·rw [if_neg c27] at H
           exact absurd H (by simp)
         ·rw [if_neg c24] at H
          exact absurd H (by simp)
        ·rw [if_neg c21] at H
         exact absurd H (by simp)
       ·rw [if_neg c20] at H
        exact absurd H (by simp)
      ·rw [if_neg c19] at H
       exact absurd H (by simp)

end Go.Proofs.Ytejljcglbkjgkaa.PL12

namespace Go.Proofs.Ytejljcglbkjgkaa.PL12
open Go.RowKit Go.Proofs.YtejljcglbkjgkaaW.PrintWords Go.Proofs.YtejljcglbkjgkaaW.PrintLast Go.Proofs.YtejljcglbkjgkaaW.PrintMore
attribute [local go_sem] max2_int min2_int max_two min_two max_three min_three max_four min_four   -- for this text's walks alone
set_option linter.unusedVariables false
set_option linter.unusedSimpArgs false

mutual
def samples_glassy.j0 : Nat → List Int → Bool → Int → Int → Int → Int → Int → ByteArray → ByteArray → Bool → Option (Bool)
 | 0, _, _, _, _, _, _, _, _, _, _ => none
 | k + 1, x1, x19, x186000, x186001, x186002, x186003, x186004, x186005, x186006, x186007 => if x19 = true then (some false) else (samples_glassy.l0 k x1 (x1.length : Int) 0 x186000 x186001 x186002 x186003 x186004 x186005 x186006 x186007)
def samples_glassy.l0 : Nat → List Int → Int → Int → Int → Int → Int → Int → Int → ByteArray → ByteArray → Bool → Option (Bool)
 | 0, _, _, _, _, _, _, _, _, _, _, _ => none
 | k + 1, x20, x21, x22, x186000, x186001, x186002, x186003, x186004, x186005, x186006, x186007 => if x22 < x21 then (if 0 ≤ x22 then (if x22 < (x20.length : Int) then (if 0 ≤ (wrap64 (2 * x22)) then (if (wrap64 (2 * x22)) < (x186006.size : Int) then (if 0 ≤ (wrap64 ((wrap64 (2 * x22)) + 1)) then (if (wrap64 ((wrap64 (2 * x22)) + 1)) < (x186006.size : Int) then (if 0 ≤ x186002 then (if (Go.bits .and .i64 (Go.bits .or .i64 (wrap64 ((wrap64 (bt x186006 (wrap64 (2 * x22)))) * 256)) (wrap64 (bt x186006 (wrap64 ((wrap64 (2 * x22)) + 1))))) (wrap64 ((shl .i64 1 x186002) - 1))) = (rd x20 x22) then (samples_glassy.l0 k x20 x21 (wrap64 (x22 + 1)) x186000 x186001 x186002 x186003 x186004 x186005 x186006 x186007) else (some false)) else (none)) else (none)) else (none)) else (none)) else (none)) else (none)) else (none)) else (some true)
end
def samples_glassy.f (k : Nat) (a0_0 : Int) (a0_1 : Int) (a0_2 : Int) (a0_3 : Int) (a0_4 : Int) (a0_5 : ByteArray) (a0_6 : ByteArray) (a0_7 : Bool) (l1 : List Int) : Option (Bool) := if a0_7 = true then (samples_glassy.j0 k l1 ((a0_6.size : Int) != (wrap64 (2 * (l1.length : Int)))) a0_0 a0_1 a0_2 a0_3 a0_4 a0_5 a0_6 a0_7) else (samples_glassy.j0 k l1 true a0_0 a0_1 a0_2 a0_3 a0_4 a0_5 a0_6 a0_7)
theorem samples_glassy.mono_l : ∀ k, (∀ y0 y1 y2 y3 y4 y5 y6 y7 y8 y9, LeO (samples_glassy.j0 k y0 y1 y2 y3 y4 y5 y6 y7 y8 y9) (samples_glassy.j0 (k + 1) y0 y1 y2 y3 y4 y5 y6 y7 y8 y9)) ∧ (∀ y0 y1 y2 y3 y4 y5 y6 y7 y8 y9 y10, LeO (samples_glassy.l0 k y0 y1 y2 y3 y4 y5 y6 y7 y8 y9 y10) (samples_glassy.l0 (k + 1) y0 y1 y2 y3 y4 y5 y6 y7 y8 y9 y10))
 | 0 => ⟨fun _ _ _ _ _ _ _ _ _ _ r h => by simp [samples_glassy.j0] at h, fun _ _ _ _ _ _ _ _ _ _ _ r h => by simp [samples_glassy.l0] at h⟩
 | k + 1 => by
  obtain ⟨ih0, ih1⟩ := samples_glassy.mono_l k
  refine ⟨?_, ?_⟩
  ·intro y0 y1 y2 y3 y4 y5 y6 y7 y8 y9
   unfold samples_glassy.j0
   repeat' first
   | (with_reducible exact ih0 _ _ _ _ _ _ _ _ _ _)
   | (with_reducible exact ih1 _ _ _ _ _ _ _ _ _ _ _)
   | (with_reducible exact LeO.refl _)
   | (with_reducible exact LeO.none _)
   | (with_reducible refine LeO.ite ?_ ?_)
   | (with_reducible refine LeO.bind ?_ (fun _ => ?_))
   | exact ih0 _ _ _ _ _ _ _ _ _ _
   | exact ih1 _ _ _ _ _ _ _ _ _ _ _
   | exact LeO.none _
   | refine LeO.ite ?_ ?_
   | refine LeO.bind ?_ (fun _ => ?_)
  ·intro y0 y1 y2 y3 y4 y5 y6 y7 y8 y9 y10
   unfold samples_glassy.l0
   repeat' first
   | (with_reducible exact ih0 _ _ _ _ _ _ _ _ _ _)
   | (with_reducible exact ih1 _ _ _ _ _ _ _ _ _ _ _)
   | (with_reducible exact LeO.refl _)
   | (with_reducible exact LeO.none _)
   | (with_reducible refine LeO.ite ?_ ?_)
   | (with_reducible refine LeO.bind ?_ (fun _ => ?_))
   | exact ih0 _ _ _ _ _ _ _ _ _ _
   | exact ih1 _ _ _ _ _ _ _ _ _ _ _
   | exact LeO.none _
   | refine LeO.ite ?_ ?_
   | refine LeO.bind ?_ (fun _ => ?_)
theorem samples_glassy.mono : ∀ a0 a1 a2 a3 a4 a5 a6 a7 a8 k, LeO (samples_glassy.f k a0 a1 a2 a3 a4 a5 a6 a7 a8) (samples_glassy.f (k + 1) a0 a1 a2 a3 a4 a5 a6 a7 a8) := by
 intro a0 a1 a2 a3 a4 a5 a6 a7 a8 k
 obtain ⟨ih0, ih1⟩ := samples_glassy.mono_l k
 unfold samples_glassy.f
 repeat' first
   | (with_reducible exact ih0 _ _ _ _ _ _ _ _ _ _)
   | (with_reducible exact ih1 _ _ _ _ _ _ _ _ _ _ _)
   | (with_reducible exact LeO.refl _)
   | (with_reducible exact LeO.none _)
   | (with_reducible refine LeO.ite ?_ ?_)
   | (with_reducible refine LeO.bind ?_ (fun _ => ?_))
   | exact ih0 _ _ _ _ _ _ _ _ _ _
   | exact ih1 _ _ _ _ _ _ _ _ _ _ _
   | exact LeO.none _
   | refine LeO.ite ?_ ?_
   | refine LeO.bind ?_ (fun _ => ?_)
set_option maxHeartbeats 40000000 in
set_option maxRecDepth 100000 in
theorem samples_glassy.calls (k : Nat) (a0_0 : Int) (a0_1 : Int) (a0_2 : Int) (a0_3 : Int) (a0_4 : Int) (a0_5 : ByteArray) (a0_6 : ByteArray) (a0_7 : Bool) (A1 : Option Addr) (c1 : Nat) (l1 : List Int) (r : Bool) (w : World) (hr1 : Kd.C (Kd.int .i64) w A1 l1.length l1) (hc1 : l1.length ≤ c1) (h : samples_glassy.f k a0_0 a0_1 a0_2 a0_3 a0_4 a0_5 a0_6 a0_7 l1 = some r) :
  Calls Try.prog 68 #[.agg #[.int .i64 a0_0, .int .i64 a0_1, .int .i64 a0_2, .int .i64 a0_3, .int .i64 a0_4, .string a0_5, .string a0_6, .bool a0_7], .slice A1 l1.length c1] w fun e w' => e = .returned (.bool r) ∧ Below w.heap.size w w' := by
 have hu31 := Try.underlying31
 have HR1 := Aside0.mk hr1
 have HC1 := Aside0.mk hc1
 clear hr1 hc1
 have HB := Aside0.mk (Below.refl w.heap.size w)
 have H : (if a0_7 = true then (samples_glassy.j0 k l1 ((a0_6.size : Int) != (wrap64 (2 * (l1.length : Int)))) a0_0 a0_1 a0_2 a0_3 a0_4 a0_5 a0_6 a0_7) else (samples_glassy.j0 k l1 true a0_0 a0_1 a0_2 a0_3 a0_4 a0_5 a0_6 a0_7)) = some r := h
 clear h
 have HC3 := Aside0.mk H
 clear H
 go_enter Try.func68, Try.ntmps68
 go_upto_region 1 with (first | ((with_reducible refine gate_dst (N := 2) rfl ?_); (try (refine gate_guard (by rfl) ?_; dsimp only)); refine box_event ?hg (N := 2) ?hd (cs := #[.int .i64 a0_0, .int .i64 a0_1, .int .i64 a0_2, .int .i64 a0_3, .int .i64 a0_4, .string a0_5, .string a0_6, .bool a0_7]) (t := 31) ?hr ?_; (case hd => rfl); (case hg => rfl); (case hr => first | (go_simp; done) | (go_simp; rfl)); intro gb185 hg w4 hbox hb; have n0_ := Aside0.mk (below_step (hz HB) hb); have n1_ := Aside0.mk (hbox); have n2_ := Aside0.mk ((by rw [hg]; exact (below_size (hz HB)) : w.heap.size ≤ gb185)); have n3_ := Aside0.mk ((by rw [hg]; exact (below_size (hz HB)) : w.heap.size ≤ gb185)); clear HB; have HB := n0_; have BK185 := n1_; have GW185 := n2_; have GE185 := n3_; clear n0_ n1_ n2_ n3_; clear hb hbox hg))
 repeat (go_quiet (first | ((with_reducible refine gate_dst (N := 2) rfl ?_); (try (refine gate_guard (by rfl) ?_; dsimp only)); refine box_event ?hg (N := 2) ?hd (cs := #[.int .i64 a0_0, .int .i64 a0_1, .int .i64 a0_2, .int .i64 a0_3, .int .i64 a0_4, .string a0_5, .string a0_6, .bool a0_7]) (t := 31) ?hr ?_; (case hd => rfl); (case hg => rfl); (case hr => first | (go_simp; done) | (go_simp; rfl)); intro gb185 hg w4 hbox hb; have n0_ := Aside0.mk (below_step (hz HB) hb); have n1_ := Aside0.mk (hbox); have n2_ := Aside0.mk ((by rw [hg]; exact (below_size (hz HB)) : w.heap.size ≤ gb185)); have n3_ := Aside0.mk ((by rw [hg]; exact (below_size (hz HB)) : w.heap.size ≤ gb185)); clear HB; have HB := n0_; have BK185 := n1_; have GW185 := n2_; have GE185 := n3_; clear n0_ n1_ n2_ n3_; clear hb hbox hg)); go_upto_region 1 with (first | ((with_reducible refine gate_dst (N := 2) rfl ?_); (try (refine gate_guard (by rfl) ?_; dsimp only)); refine box_event ?hg (N := 2) ?hd (cs := #[.int .i64 a0_0, .int .i64 a0_1, .int .i64 a0_2, .int .i64 a0_3, .int .i64 a0_4, .string a0_5, .string a0_6, .bool a0_7]) (t := 31) ?hr ?_; (case hd => rfl); (case hg => rfl); (case hr => first | (go_simp; done) | (go_simp; rfl)); intro gb185 hg w4 hbox hb; have n0_ := Aside0.mk (below_step (hz HB) hb); have n1_ := Aside0.mk (hbox); have n2_ := Aside0.mk ((by rw [hg]; exact (below_size (hz HB)) : w.heap.size ≤ gb185)); have n3_ := Aside0.mk ((by rw [hg]; exact (below_size (hz HB)) : w.heap.size ≤ gb185)); clear HB; have HB := n0_; have BK185 := n1_; have GW185 := n2_; have GE185 := n3_; clear n0_ n1_ n2_ n3_; clear hb hbox hg)))
 (try simp only [Act.put, List.setIfInBounds_toArray, List.set_cons_zero, List.set_cons_succ])
 go_cut [19] (fun v19 wc => ∃ (kq : Nat) (x19_2 : Bool), v19 = .bool x19_2 ∧ Aside0 (samples_glassy.j0 kq l1 x19_2 a0_0 a0_1 a0_2 a0_3 a0_4 a0_5 a0_6 a0_7 = some r) ∧ Aside0 (kq ≤ k) ∧ Aside0 (wc.heap[gb185]? = some (.cells #[.int .i64 a0_0, .int .i64 a0_1, .int .i64 a0_2, .int .i64 a0_3, .int .i64 a0_4, .string a0_5, .string a0_6, .bool a0_7] 31 (0, 0))) ∧ Aside0 (Below w.heap.size w wc))
 case first =>
  have H := HC3.out
  clear HC3
  by_cases c5 : a0_7 = true
  ·subst c5
   have H1 : (samples_glassy.j0 k l1 ((a0_6.size : Int) != (wrap64 (2 * (l1.length : Int)))) a0_0 a0_1 a0_2 a0_3 a0_4 a0_5 a0_6 true) = some r := by rw [if_pos rfl] at H; exact H
   clear H
   have H := H1
   clear H1
   have H' := Aside0.mk H
   clear H
   have hcz6_0 : w4.cell? ⟨gb185, 0, none⟩ = some (.int .i64 a0_0) := (blk_cell BK185.out 0).trans rfl
   have hcz6_1 : w4.cell? ⟨gb185, 1, none⟩ = some (.int .i64 a0_1) := (blk_cell BK185.out 1).trans rfl
   have hcz6_2 : w4.cell? ⟨gb185, 2, none⟩ = some (.int .i64 a0_2) := (blk_cell BK185.out 2).trans rfl
   have hcz6_3 : w4.cell? ⟨gb185, 3, none⟩ = some (.int .i64 a0_3) := (blk_cell BK185.out 3).trans rfl
   have hcz6_4 : w4.cell? ⟨gb185, 4, none⟩ = some (.int .i64 a0_4) := (blk_cell BK185.out 4).trans rfl
   have hcz6_5 : w4.cell? ⟨gb185, 5, none⟩ = some (.string a0_5) := (blk_cell BK185.out 5).trans rfl
   have hcz6_6 : w4.cell? ⟨gb185, 6, none⟩ = some (.string a0_6) := (blk_cell BK185.out 6).trans rfl
   have hcz6_7 : w4.cell? ⟨gb185, 7, none⟩ = some (.bool true) := (blk_cell BK185.out 7).trans rfl
   have hfz6_0 := blk_frozen BK185.out 0
   have hfz6_1 := blk_frozen BK185.out 1
   have hfz6_2 := blk_frozen BK185.out 2
   have hfz6_3 := blk_frozen BK185.out 3
   have hfz6_4 := blk_frozen BK185.out 4
   have hfz6_5 := blk_frozen BK185.out 5
   have hfz6_6 := blk_frozen BK185.out 6
   have hfz6_7 := blk_frozen BK185.out 7
   go_wp2
   repeat (go_quiet (fail); try go_wp2)
   go_meet
   case rel => exact ⟨_, (((a0_6.size : Int) != (wrap64 (2 * (l1.length : Int))))), (by first | rfl | (simp; done) | (simp [*]; done)), H', ⟨by first | omega | exact Nat.le_refl _⟩, ⟨kz BK185⟩, ⟨hz HB⟩⟩
  ·replace c5 := Bool.eq_false_iff.mpr c5
   subst c5
   have H1 : (samples_glassy.j0 k l1 true a0_0 a0_1 a0_2 a0_3 a0_4 a0_5 a0_6 false) = some r := by rw [if_neg (show ¬ (false = true) by decide)] at H; exact H
   clear H
   have H := H1
   clear H1
   have H' := Aside0.mk H
   clear H
   have hcz7_0 : w4.cell? ⟨gb185, 0, none⟩ = some (.int .i64 a0_0) := (blk_cell BK185.out 0).trans rfl
   have hcz7_1 : w4.cell? ⟨gb185, 1, none⟩ = some (.int .i64 a0_1) := (blk_cell BK185.out 1).trans rfl
   have hcz7_2 : w4.cell? ⟨gb185, 2, none⟩ = some (.int .i64 a0_2) := (blk_cell BK185.out 2).trans rfl
   have hcz7_3 : w4.cell? ⟨gb185, 3, none⟩ = some (.int .i64 a0_3) := (blk_cell BK185.out 3).trans rfl
   have hcz7_4 : w4.cell? ⟨gb185, 4, none⟩ = some (.int .i64 a0_4) := (blk_cell BK185.out 4).trans rfl
   have hcz7_5 : w4.cell? ⟨gb185, 5, none⟩ = some (.string a0_5) := (blk_cell BK185.out 5).trans rfl
   have hcz7_6 : w4.cell? ⟨gb185, 6, none⟩ = some (.string a0_6) := (blk_cell BK185.out 6).trans rfl
   have hcz7_7 : w4.cell? ⟨gb185, 7, none⟩ = some (.bool false) := (blk_cell BK185.out 7).trans rfl
   have hfz7_0 := blk_frozen BK185.out 0
   have hfz7_1 := blk_frozen BK185.out 1
   have hfz7_2 := blk_frozen BK185.out 2
   have hfz7_3 := blk_frozen BK185.out 3
   have hfz7_4 := blk_frozen BK185.out 4
   have hfz7_5 := blk_frozen BK185.out 5
   have hfz7_6 := blk_frozen BK185.out 6
   have hfz7_7 := blk_frozen BK185.out 7
   go_wp2
   repeat (go_quiet (fail); try go_wp2)
   go_meet
   case rel => exact ⟨_, (true), (by first | rfl | (simp; done) | (simp [*]; done)), H', ⟨by first | omega | exact Nat.le_refl _⟩, ⟨kz BK185⟩, ⟨hz HB⟩⟩
 case rest =>
  clear HC3
  obtain ⟨kq, x19_2, rfl, HA, HJ2, BK185, HB⟩ := hcut
  cases kq with
  | zero => exact absurd HA.out (by simp [samples_glassy.j0])
  | succ kj2 =>
   have H := HA.out
   clear HA
   simp only [samples_glassy.j0] at H
   by_cases c8 : x19_2 = true
   ·subst c8
    have H1 : (some false) = some r := by rw [if_pos rfl] at H; exact H
    clear H
    have H := H1
    clear H1
    obtain rfl := Option.some.inj H
    go_wp2
    repeat (go_quiet (fail); try go_wp2)
    go_ret
    exact ⟨by first | rfl | (simp [errW_none, errW_some] <;> rfl) | (simp [*, errW_none, errW_some] <;> rfl), by repeat (first | (with_reducible first | exact HB.out | apply below_alloc | apply pw_below_drewN | apply below_drew1 | refine below_set ?_ GE185.out) | exact HB.out)⟩
   ·replace c8 := Bool.eq_false_iff.mpr c8
    subst c8
    have H1 : (samples_glassy.l0 kj2 l1 (l1.length : Int) 0 a0_0 a0_1 a0_2 a0_3 a0_4 a0_5 a0_6 a0_7) = some r := by rw [if_neg (show ¬ (false = true) by decide)] at H; exact H
    clear H
    have H := H1
    clear H1
    have H' := Aside0.mk H
    clear H
    go_wp2
    repeat (go_quiet (fail); try go_wp2)
    go_loopg [22] kj2 (fun kq v22 w' => ∃ (x22_2 : Int), v22 = .int .i64 x22_2 ∧ Aside0 (samples_glassy.l0 kq l1 (l1.length : Int) x22_2 a0_0 a0_1 a0_2 a0_3 a0_4 a0_5 a0_6 a0_7 = some r) ∧ Aside0 (kq ≤ kj2) ∧ Aside0 (w'.heap[gb185]? = some (.cells #[.int .i64 a0_0, .int .i64 a0_1, .int .i64 a0_2, .int .i64 a0_3, .int .i64 a0_4, .string a0_5, .string a0_6, .bool a0_7] 31 (0, 0))) ∧ Aside0 (Below w.heap.size w w'))
    case atStart => exact ⟨(0), (by first | rfl | (simp; done) | (simp [*]; done)), H', ⟨Nat.le_refl _⟩, ⟨kz BK185⟩, ⟨hz HB⟩⟩
    case round =>
     clear H'
     try clear c8
     obtain ⟨x22_2, rfl, HA, HK2, BK185, HB⟩ := hrel
     cases gk with
     | zero => exact absurd HA.out (by simp [samples_glassy.l0])
     | succ k2 =>
      have H := HA.out
      clear HA
      simp only [samples_glassy.l0] at H
      by_cases c9 : x22_2 < (l1.length : Int)
      ·rw [if_pos c9] at H
       have c9b0 : decide (x22_2 < (l1.length : Int)) = true := decide_eq_true c9
       clear c9
       by_cases c10 : 0 ≤ x22_2
       ·rw [if_pos c10] at H
        have c10b0 : decide (0 ≤ x22_2) = true := decide_eq_true c10
        clear c10
        by_cases c11 : x22_2 < (l1.length : Int)
        ·rw [if_pos c11] at H
         have c11b0 : decide (x22_2 < (l1.length : Int)) = true := decide_eq_true c11
         clear c11
         obtain ⟨ji12, hji12⟩ : ∃ j_ : Int, (wrap64 (2 * x22_2)) = j_ := ⟨_, rfl⟩
         replace H : (if 0 ≤ (ji12) then (if (ji12) < (a0_6.size : Int) then (if 0 ≤ (wrap64 ((ji12) + 1)) then (if (wrap64 ((ji12) + 1)) < (a0_6.size : Int) then (if 0 ≤ a0_2 then (if (Go.bits .and .i64 (Go.bits .or .i64 (wrap64 ((wrap64 (bt a0_6 (ji12))) * 256)) (wrap64 (bt a0_6 (wrap64 ((ji12) + 1))))) (wrap64 ((shl .i64 1 a0_2) - 1))) = (rd l1 x22_2) then (samples_glassy.l0 k2 l1 (l1.length : Int) (wrap64 (x22_2 + 1)) a0_0 a0_1 a0_2 a0_3 a0_4 a0_5 a0_6 a0_7) else (some false)) else (none)) else (none)) else (none)) else (none)) else (none)) = some r := by first | (rw [hji12] at H; exact H) | (simp only [hji12] at H ⊢; exact H)
         have hji12w : (IntKind.i64.wrap (2 * x22_2)) = ji12 := (i64_w _).trans hji12
         by_cases c13 : 0 ≤ (ji12)
         ·rw [if_pos c13] at H
          have c13b0 : decide (0 ≤ (ji12)) = true := decide_eq_true c13
          clear c13
          by_cases c14 : (ji12) < (a0_6.size : Int)
          ·rw [if_pos c14] at H
           have c14b0 : decide ((ji12) < (a0_6.size : Int)) = true := decide_eq_true c14
           clear c14
           obtain ⟨ji16, hji16⟩ : ∃ j_ : Int, (wrap64 ((ji12) + 1)) = j_ := ⟨_, rfl⟩
           replace H : (if 0 ≤ (ji16) then (if (ji16) < (a0_6.size : Int) then (if 0 ≤ a0_2 then (if (Go.bits .and .i64 (Go.bits .or .i64 (wrap64 ((wrap64 (bt a0_6 (ji12))) * 256)) (wrap64 (bt a0_6 (ji16)))) (wrap64 ((shl .i64 1 a0_2) - 1))) = (rd l1 x22_2) then (samples_glassy.l0 k2 l1 (l1.length : Int) (wrap64 (x22_2 + 1)) a0_0 a0_1 a0_2 a0_3 a0_4 a0_5 a0_6 a0_7) else (some false)) else (none)) else (none)) else (none)) = some r := by first | (rw [hji16] at H; exact H) | (simp only [hji16] at H ⊢; exact H)
           have hji16w : (IntKind.i64.wrap ((ji12) + 1)) = ji16 := (i64_w _).trans hji16
           by_cases c17 : 0 ≤ (ji16)
           ·rw [if_pos c17] at H
            have c17b0 : decide (0 ≤ (ji16)) = true := decide_eq_true c17
            clear c17
            by_cases c18 : (ji16) < (a0_6.size : Int)
            ·rw [if_pos c18] at H
             have c18b0 : decide ((ji16) < (a0_6.size : Int)) = true := decide_eq_true c18
             clear c18
             by_cases c20 : 0 ≤ a0_2
             ·rw [if_pos c20] at H
              have c20b0 := eq_true c20
              have c20b1 : decide (0 ≤ a0_2) = true := decide_eq_true c20
              clear c20
              obtain ⟨ji21, hji21⟩ : ∃ j_ : Int, (shl .i64 1 a0_2) = j_ := ⟨_, rfl⟩
              replace H : (if (Go.bits .and .i64 (Go.bits .or .i64 (wrap64 ((wrap64 (bt a0_6 (ji12))) * 256)) (wrap64 (bt a0_6 (ji16)))) (wrap64 ((ji21) - 1))) = (rd l1 x22_2) then (samples_glassy.l0 k2 l1 (l1.length : Int) (wrap64 (x22_2 + 1)) a0_0 a0_1 a0_2 a0_3 a0_4 a0_5 a0_6 a0_7) else (some false)) = some r := by first | (rw [hji21] at H; exact H) | (simp only [hji21] at H ⊢; exact H)
              have hji21_ : (IntKind.i64.wrap (1 * 2 ^ min a0_2.toNat 64)) = ji21 := hji21
              have hji21z : a0_2 ≤ 64 → (IntKind.i64.wrap (1 * 2 ^ a0_2.toNat)) = ji21 := shl_small hji21
              have hji21u : (IntKind.i64.wrap (2 ^ min a0_2.toNat 64)) = ji21 := by have h_ := hji21_; rw [Int.one_mul] at h_; exact h_
              have hji21v : a0_2 ≤ 64 → (IntKind.i64.wrap (2 ^ a0_2.toNat)) = ji21 := fun hle_ => by have h_ := hji21z hle_; rw [Int.one_mul] at h_; exact h_
              have hji21y : (wrap64 (1 * 2 ^ min a0_2.toNat 64)) = ji21 := (i64_w _).symm.trans hji21_
              have hji21x : a0_2 ≤ 64 → (wrap64 (1 * 2 ^ a0_2.toNat)) = ji21 := fun h_ => (i64_w _).symm.trans (hji21z h_)
              by_cases c22 : (Go.bits .and .i64 (Go.bits .or .i64 (wrap64 ((wrap64 (bt a0_6 (ji12))) * 256)) (wrap64 (bt a0_6 (ji16)))) (wrap64 ((ji21) - 1))) = (rd l1 x22_2)
              ·rw [if_pos c22] at H
               have c22b0 : ((Go.bits .and .i64 (Go.bits .or .i64 (wrap64 ((wrap64 (bt a0_6 (ji12))) * 256)) (wrap64 (bt a0_6 (ji16)))) (wrap64 ((ji21) - 1))) == (rd l1 x22_2)) = true := beq_iff_eq.mpr c22
               have c22b1 : ((Go.bits .and .i64 (Go.bits .or .i64 (wrap64 ((wrap64 (bt a0_6 (ji12))) * 256)) (wrap64 (bt a0_6 (ji16)))) (wrap64 ((ji21) - 1))) != (rd l1 x22_2)) = false := bne_eq_false_iff_eq.mpr c22
               clear c22
               have H' := Aside0.mk H
               clear H
               have p186 : 0 ≤ (x22_2 : Int) := of_decide_eq_true (by first | (with_reducible assumption) | assumption)
               have q186 : x22_2 < (l1.length : Int) := of_decide_eq_true (by first | (with_reducible assumption) | assumption)
               obtain ⟨ad186, e186, hx186_0⟩ := Kd.at_int HR1.out x22_2 p186 q186
               cases e186
               replace hx186_0 := (HB.out.cell (World.block_lt_of_cell? w _ hx186_0)).trans hx186_0
               replace p186 := eq_true p186
               replace q186 := eq_true q186
               have hcz23_0 : wr.cell? ⟨gb185, 0, none⟩ = some (.int .i64 a0_0) := (blk_cell BK185.out 0).trans rfl
               have hcz23_1 : wr.cell? ⟨gb185, 1, none⟩ = some (.int .i64 a0_1) := (blk_cell BK185.out 1).trans rfl
               have hcz23_2 : wr.cell? ⟨gb185, 2, none⟩ = some (.int .i64 a0_2) := (blk_cell BK185.out 2).trans rfl
               have hcz23_3 : wr.cell? ⟨gb185, 3, none⟩ = some (.int .i64 a0_3) := (blk_cell BK185.out 3).trans rfl
               have hcz23_4 : wr.cell? ⟨gb185, 4, none⟩ = some (.int .i64 a0_4) := (blk_cell BK185.out 4).trans rfl
               have hcz23_5 : wr.cell? ⟨gb185, 5, none⟩ = some (.string a0_5) := (blk_cell BK185.out 5).trans rfl
               have hcz23_6 : wr.cell? ⟨gb185, 6, none⟩ = some (.string a0_6) := (blk_cell BK185.out 6).trans rfl
               have hcz23_7 : wr.cell? ⟨gb185, 7, none⟩ = some (.bool a0_7) := (blk_cell BK185.out 7).trans rfl
               have hfz23_0 := blk_frozen BK185.out 0
               have hfz23_1 := blk_frozen BK185.out 1
               have hfz23_2 := blk_frozen BK185.out 2
               have hfz23_3 := blk_frozen BK185.out 3
               have hfz23_4 := blk_frozen BK185.out 4
               have hfz23_5 := blk_frozen BK185.out 5
               have hfz23_6 := blk_frozen BK185.out 6
               have hfz23_7 := blk_frozen BK185.out 7
               have p15 : 0 ≤ ((ji12) : Int) := of_decide_eq_true (by first | (with_reducible assumption) | assumption)
               have q15 : (ji12) < (a0_6.size : Int) := of_decide_eq_true (by first | (with_reducible assumption) | assumption)
               have hx15 := bt_at a0_6 (ji12)
               replace p15 := eq_true p15
               replace q15 := eq_true q15
               have p19 : 0 ≤ ((ji16) : Int) := of_decide_eq_true (by first | (with_reducible assumption) | assumption)
               have q19 : (ji16) < (a0_6.size : Int) := of_decide_eq_true (by first | (with_reducible assumption) | assumption)
               have hx19 := bt_at a0_6 (ji16)
               replace p19 := eq_true p19
               replace q19 := eq_true q19
               go_wp2
               repeat (go_quiet (fail); try go_wp2)
               go_roundg k2
               case measure => have := HJ2.out; have := HK2.out; omega
               case rel => exact ⟨(wrap64 (x22_2 + 1)), (by first | rfl | (simp; done) | (simp [*]; done)), H', ⟨by have := HJ2.out; have := HK2.out; omega⟩, ⟨kz BK185⟩, ⟨hz HB⟩⟩
              ·rw [if_neg c22] at H
               have c22b0 : ((Go.bits .and .i64 (Go.bits .or .i64 (wrap64 ((wrap64 (bt a0_6 (ji12))) * 256)) (wrap64 (bt a0_6 (ji16)))) (wrap64 ((ji21) - 1))) == (rd l1 x22_2)) = false := beq_eq_false_iff_ne.mpr c22
               have c22b1 : ((Go.bits .and .i64 (Go.bits .or .i64 (wrap64 ((wrap64 (bt a0_6 (ji12))) * 256)) (wrap64 (bt a0_6 (ji16)))) (wrap64 ((ji21) - 1))) != (rd l1 x22_2)) = true := bne_iff_ne.mpr c22
               obtain rfl := Option.some.inj H
               have p186 : 0 ≤ (x22_2 : Int) := of_decide_eq_true (by first | (with_reducible assumption) | assumption)
               have q186 : x22_2 < (l1.length : Int) := of_decide_eq_true (by first | (with_reducible assumption) | assumption)
               obtain ⟨ad186, e186, hx186_0⟩ := Kd.at_int HR1.out x22_2 p186 q186
               cases e186
               replace hx186_0 := (HB.out.cell (World.block_lt_of_cell? w _ hx186_0)).trans hx186_0
               replace p186 := eq_true p186
               replace q186 := eq_true q186
               have hcz24_0 : wr.cell? ⟨gb185, 0, none⟩ = some (.int .i64 a0_0) := (blk_cell BK185.out 0).trans rfl
               have hcz24_1 : wr.cell? ⟨gb185, 1, none⟩ = some (.int .i64 a0_1) := (blk_cell BK185.out 1).trans rfl
               have hcz24_2 : wr.cell? ⟨gb185, 2, none⟩ = some (.int .i64 a0_2) := (blk_cell BK185.out 2).trans rfl
               have hcz24_3 : wr.cell? ⟨gb185, 3, none⟩ = some (.int .i64 a0_3) := (blk_cell BK185.out 3).trans rfl
               have hcz24_4 : wr.cell? ⟨gb185, 4, none⟩ = some (.int .i64 a0_4) := (blk_cell BK185.out 4).trans rfl
               have hcz24_5 : wr.cell? ⟨gb185, 5, none⟩ = some (.string a0_5) := (blk_cell BK185.out 5).trans rfl
               have hcz24_6 : wr.cell? ⟨gb185, 6, none⟩ = some (.string a0_6) := (blk_cell BK185.out 6).trans rfl
               have hcz24_7 : wr.cell? ⟨gb185, 7, none⟩ = some (.bool a0_7) := (blk_cell BK185.out 7).trans rfl
               have hfz24_0 := blk_frozen BK185.out 0
               have hfz24_1 := blk_frozen BK185.out 1
               have hfz24_2 := blk_frozen BK185.out 2
               have hfz24_3 := blk_frozen BK185.out 3
               have hfz24_4 := blk_frozen BK185.out 4
               have hfz24_5 := blk_frozen BK185.out 5
               have hfz24_6 := blk_frozen BK185.out 6
               have hfz24_7 := blk_frozen BK185.out 7
               have p15 : 0 ≤ ((ji12) : Int) := of_decide_eq_true (by first | (with_reducible assumption) | assumption)
               have q15 : (ji12) < (a0_6.size : Int) := of_decide_eq_true (by first | (with_reducible assumption) | assumption)
               have hx15 := bt_at a0_6 (ji12)
               replace p15 := eq_true p15
               replace q15 := eq_true q15
               have p19 : 0 ≤ ((ji16) : Int) := of_decide_eq_true (by first | (with_reducible assumption) | assumption)
               have q19 : (ji16) < (a0_6.size : Int) := of_decide_eq_true (by first | (with_reducible assumption) | assumption)
               have hx19 := bt_at a0_6 (ji16)
               replace p19 := eq_true p19
               replace q19 := eq_true q19
               go_wp2
               repeat (go_quiet (fail); try go_wp2)
               go_ret
               exact ⟨by first | rfl | (simp [errW_none, errW_some] <;> rfl) | (simp only [← hji12, ← hji16, ← hji21]; first | rfl | (simp [errW_none, errW_some] <;> rfl)) | (simp [*, errW_none, errW_some] <;> rfl), by repeat (first | (with_reducible first | exact HB.out | apply below_alloc | apply pw_below_drewN | apply below_drew1 | refine below_set ?_ GE185.out) | exact HB.out)⟩
             ·rw [if_neg c20] at H
              exact absurd H (by simp)
            ·rw [if_neg c18] at H
             exact absurd H (by simp)
           ·rw [if_neg c17] at H
            exact absurd H (by simp)
          ·rw [if_neg c14] at H
           exact absurd H (by simp)
         ·rw [if_neg c13] at H
          exact absurd H (by simp)
        ·rw [if_neg c11] at H
         exact absurd H (by simp)
       ·rw [if_neg c10] at H
        exact absurd H (by simp)
      ·rw [if_neg c9] at H
       have c9b0 : decide (x22_2 < (l1.length : Int)) = false := decide_eq_false c9
       clear c9
       obtain rfl := Option.some.inj H
       go_wp2
       repeat (go_quiet (fail); try go_wp2)
       go_ret
       exact ⟨by first | rfl | (simp [errW_none, errW_some] <;> rfl) | (simp [*, errW_none, errW_some] <;> rfl), by repeat (first | (with_reducible first | exact HB.out | apply below_alloc | apply pw_below_drewN | apply below_drew1 | refine below_set ?_ GE185.out) | exact HB.out)⟩

end Go.Proofs.Ytejljcglbkjgkaa.PL12
