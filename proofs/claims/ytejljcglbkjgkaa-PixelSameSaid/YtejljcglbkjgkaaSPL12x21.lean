/- Printed for this claim by a program of this session over the kit's print program: the Go functions as Lean functions, and proofs that the calls come to these answers. No conditions. -/
import Derived.Test.YtejljcglbkjgkaaSH
import Derived.Test.YtejljcglbkjgkaaSPL12x3
import Derived.Test.YtejljcglbkjgkaaSPL12x10
namespace Go.Proofs.Ytejljcglbkjgkaa.PL12
open Go.RowKit Go.Proofs.YtejljcglbkjgkaaW.PrintWords Go.Proofs.YtejljcglbkjgkaaW.PrintLast Go.Proofs.YtejljcglbkjgkaaW.PrintMore
attribute [local go_sem] max2_int min2_int max_two min_two max_three min_three max_four min_four   -- for this text's walks alone
set_option linter.unusedVariables false
set_option linter.unusedSimpArgs false

mutual
def vitrineref08_Right.j0 : Nat → Int → Bool → Int → Int → Int → Int → Int → Option (Int)
 | 0, _, _, _, _, _, _, _ => none
 | k + 1, x3, x4, x242000, x242001, x242002, x242003, x242004 => if x242003 = 0 then (if x4 = true then (vitrineref08_Right.j2 k true x242000 x242001 x242002 x242003 x242004) else (if x3 = 8 then (vitrineref08_Right.j2 k true x242000 x242001 x242002 x242003 x242004) else (vitrineref08_Right.j2 k (x3 == 16) x242000 x242001 x242002 x242003 x242004))) else (if x242003 = 3 then (if x4 = true then (vitrineref08_Right.j2 k true x242000 x242001 x242002 x242003 x242004) else (vitrineref08_Right.j2 k (x3 == 8) x242000 x242001 x242002 x242003 x242004)) else (if x242003 = 2 then (vitrineref08_Right.j1 k x3 false (x242003 == 2) x242000 x242001 x242002 x242003 x242004) else (if x242003 = 4 then (vitrineref08_Right.j1 k x3 false (x242003 == 4) x242000 x242001 x242002 x242003 x242004) else (vitrineref08_Right.j1 k x3 false (x242003 == 6) x242000 x242001 x242002 x242003 x242004))))
def vitrineref08_Right.j2 : Nat → Bool → Int → Int → Int → Int → Int → Option (Int)
 | 0, _, _, _, _, _, _ => none
 | k + 1, x5, x242000, x242001, x242002, x242003, x242004 => if x242000 < 1 then (vitrineref08_Right.j3 k true x242000 x242001 x242002 x242003 x242004) else (if x242000 > 2147483647 then (vitrineref08_Right.j3 k true x242000 x242001 x242002 x242003 x242004) else (if x242001 < 1 then (vitrineref08_Right.j3 k true x242000 x242001 x242002 x242003 x242004) else (if x242001 > 2147483647 then (vitrineref08_Right.j3 k true x242000 x242001 x242002 x242003 x242004) else (if x5 = true then (if x242004 = 0 then (vitrineref08_Right.j3 k false x242000 x242001 x242002 x242003 x242004) else (vitrineref08_Right.j3 k (x242004 != 1) x242000 x242001 x242002 x242003 x242004)) else (vitrineref08_Right.j3 k true x242000 x242001 x242002 x242003 x242004)))))
def vitrineref08_Right.j3 : Nat → Bool → Int → Int → Int → Int → Int → Option (Int)
 | 0, _, _, _, _, _, _ => none
 | k + 1, x79, x242000, x242001, x242002, x242003, x242004 => if x79 = true then (some 24) else (if x242000 > 1024 then (vitrineref08_Right.j4 k true) else (if x242001 > 1024 then (vitrineref08_Right.j4 k true) else (vitrineref08_Right.j4 k (decide ((wrap64 (x242000 * x242001)) > 4096)))))
def vitrineref08_Right.j4 : Nat → Bool → Option (Int)
 | 0, _ => none
 | k + 1, x95 => if x95 = true then (some 5) else (some 0)
def vitrineref08_Right.j1 : Nat → Int → Bool → Bool → Int → Int → Int → Int → Int → Option (Int)
 | 0, _, _, _, _, _, _, _, _ => none
 | k + 1, x3, x5, x38, x242000, x242001, x242002, x242003, x242004 => if x38 = true then (if x3 = 8 then (vitrineref08_Right.j2 k true x242000 x242001 x242002 x242003 x242004) else (vitrineref08_Right.j2 k (x3 == 16) x242000 x242001 x242002 x242003 x242004)) else (vitrineref08_Right.j2 k x5 x242000 x242001 x242002 x242003 x242004)
end
def vitrineref08_Right.f (k : Nat) (a0_0 : Int) (a0_1 : Int) (a0_2 : Int) (a0_3 : Int) (a0_4 : Int) : Option (Int) := if a0_2 = 1 then (vitrineref08_Right.j0 k a0_2 true a0_0 a0_1 a0_2 a0_3 a0_4) else (if a0_2 = 2 then (vitrineref08_Right.j0 k a0_2 true a0_0 a0_1 a0_2 a0_3 a0_4) else (vitrineref08_Right.j0 k a0_2 (a0_2 == 4) a0_0 a0_1 a0_2 a0_3 a0_4))
set_option maxHeartbeats 40000000 in
set_option maxRecDepth 100000 in
theorem vitrineref08_Right.calls (k : Nat) (a0_0 : Int) (a0_1 : Int) (a0_2 : Int) (a0_3 : Int) (a0_4 : Int) (r : Int) (w : World) (h : vitrineref08_Right.f k a0_0 a0_1 a0_2 a0_3 a0_4 = some r) :
  Calls Try.prog 15 #[.agg #[.int .i64 a0_0, .int .i64 a0_1, .int .i64 a0_2, .int .i64 a0_3, .int .i64 a0_4]] w fun e w' => e = .returned (.int .i64 r) ∧ Below w.heap.size w w' := by
 have hu29 := Try.underlying29
 have HB := Aside0.mk (Below.refl w.heap.size w)
 have H : (if a0_2 = 1 then (vitrineref08_Right.j0 k a0_2 true a0_0 a0_1 a0_2 a0_3 a0_4) else (if a0_2 = 2 then (vitrineref08_Right.j0 k a0_2 true a0_0 a0_1 a0_2 a0_3 a0_4) else (vitrineref08_Right.j0 k a0_2 (a0_2 == 4) a0_0 a0_1 a0_2 a0_3 a0_4))) = some r := h
 clear h
 have HC2 := Aside0.mk H
 clear H
 go_enter Try.func15, Try.ntmps15
 go_upto_region 2 with (first | ((with_reducible refine gate_dst (N := 1) rfl ?_); refine box_event ?hg (N := 1) ?hd (cs := #[.int .i64 a0_0, .int .i64 a0_1, .int .i64 a0_2, .int .i64 a0_3, .int .i64 a0_4]) (t := 29) ?hr ?_; (case hd => rfl); (case hg => rfl); (case hr => first | (go_simp; done) | (go_simp; rfl)); intro gb241 hg w3 hbox hb; have n0_ := Aside0.mk (below_step (hz HB) hb); have n1_ := Aside0.mk (hbox); have n2_ := Aside0.mk ((by rw [hg]; exact (below_size (hz HB)) : w.heap.size ≤ gb241)); have n3_ := Aside0.mk ((by rw [hg]; exact (below_size (hz HB)) : w.heap.size ≤ gb241)); clear HB; have HB := n0_; have BK241 := n1_; have GW241 := n2_; have GE241 := n3_; clear n0_ n1_ n2_ n3_; clear hb hbox hg; have hcz4_0 : w3.cell? ⟨gb241, 0, none⟩ = some (.int .i64 a0_0) := (blk_cell BK241.out 0).trans rfl; have hcz4_1 : w3.cell? ⟨gb241, 1, none⟩ = some (.int .i64 a0_1) := (blk_cell BK241.out 1).trans rfl; have hcz4_2 : w3.cell? ⟨gb241, 2, none⟩ = some (.int .i64 a0_2) := (blk_cell BK241.out 2).trans rfl; have hcz4_3 : w3.cell? ⟨gb241, 3, none⟩ = some (.int .i64 a0_3) := (blk_cell BK241.out 3).trans rfl; have hcz4_4 : w3.cell? ⟨gb241, 4, none⟩ = some (.int .i64 a0_4) := (blk_cell BK241.out 4).trans rfl; have hfz4_0 := blk_frozen BK241.out 0; have hfz4_1 := blk_frozen BK241.out 1; have hfz4_2 := blk_frozen BK241.out 2; have hfz4_3 := blk_frozen BK241.out 3; have hfz4_4 := blk_frozen BK241.out 4))
 (try simp only [Act.put, List.setIfInBounds_toArray, List.set_cons_zero, List.set_cons_succ])
 go_cut [4] (fun v4 wc => ∃ (kq : Nat) (x4_1 : Bool), v4 = .bool x4_1 ∧ Aside0 (vitrineref08_Right.j0 kq a0_2 x4_1 a0_0 a0_1 a0_2 a0_3 a0_4 = some r) ∧ Aside0 (kq ≤ k) ∧ Aside0 (wc.heap[gb241]? = some (.cells #[.int .i64 a0_0, .int .i64 a0_1, .int .i64 a0_2, .int .i64 a0_3, .int .i64 a0_4] 29 (0, 0))) ∧ Aside0 (Below w.heap.size w wc))
 case first =>
  have H := HC2.out
  clear HC2
  by_cases c5 : a0_2 = 1
  ·rw [if_pos c5] at H
   have c5b0 : (a0_2 == 1) = true := beq_iff_eq.mpr c5
   have c5b1 : (a0_2 != 1) = false := bne_eq_false_iff_eq.mpr c5
   clear c5
   (first | rw [c5b0] | (simp only [i64_w, i32_w]; rw [c5b0]) | skip)
   have H' := Aside0.mk H
   clear H
   go_wp2
   go_meet
   case rel => exact ⟨_, (true), (by first | rfl | (simp; done) | (simp [*]; done)), H', ⟨by first | omega | exact Nat.le_refl _⟩, ⟨kz BK241⟩, ⟨hz HB⟩⟩
  ·rw [if_neg c5] at H
   have c5b0 : (a0_2 == 1) = false := beq_eq_false_iff_ne.mpr c5
   have c5b1 : (a0_2 != 1) = true := bne_iff_ne.mpr c5
   (first | rw [c5b0] | (simp only [i64_w, i32_w]; rw [c5b0]) | skip)
   by_cases c6 : a0_2 = 2
   ·rw [if_pos c6] at H
    have c6b0 : (a0_2 == 2) = true := beq_iff_eq.mpr c6
    have c6b1 : (a0_2 != 2) = false := bne_eq_false_iff_eq.mpr c6
    clear c6
    have H' := Aside0.mk H
    clear H
    go_wp2
    go_meet
    case rel => exact ⟨_, (true), (by first | rfl | (simp; done) | (simp [*]; done)), H', ⟨by first | omega | exact Nat.le_refl _⟩, ⟨kz BK241⟩, ⟨hz HB⟩⟩
   ·rw [if_neg c6] at H
    have c6b0 : (a0_2 == 2) = false := beq_eq_false_iff_ne.mpr c6
    have c6b1 : (a0_2 != 2) = true := bne_iff_ne.mpr c6
    have H' := Aside0.mk H
    clear H
    go_wp2
    go_meet
    case rel => exact ⟨_, ((a0_2 == 4)), (by first | rfl | (simp; done) | (simp [*]; done)), H', ⟨by first | omega | exact Nat.le_refl _⟩, ⟨kz BK241⟩, ⟨hz HB⟩⟩
 case rest =>
  clear HC2
  try clear hcz4_0
  try clear hcz4_1
  try clear hcz4_2
  try clear hcz4_3
  try clear hcz4_4
  try clear hfz4_0
  try clear hfz4_1
  try clear hfz4_2
  try clear hfz4_3
  try clear hfz4_4
  obtain ⟨kq, x4_1, rfl, HA, HJ1, BK241, HB⟩ := hcut
  cases kq with
  | zero => exact absurd HA.out (by simp [vitrineref08_Right.j0])
  | succ kj1 =>
   have H := HA.out
   clear HA
   simp only [vitrineref08_Right.j0] at H
   have HC7 := Aside0.mk H
   clear H
   have hcz8_0 : wc.cell? ⟨gb241, 0, none⟩ = some (.int .i64 a0_0) := (blk_cell BK241.out 0).trans rfl
   have hcz8_1 : wc.cell? ⟨gb241, 1, none⟩ = some (.int .i64 a0_1) := (blk_cell BK241.out 1).trans rfl
   have hcz8_2 : wc.cell? ⟨gb241, 2, none⟩ = some (.int .i64 a0_2) := (blk_cell BK241.out 2).trans rfl
   have hcz8_3 : wc.cell? ⟨gb241, 3, none⟩ = some (.int .i64 a0_3) := (blk_cell BK241.out 3).trans rfl
   have hcz8_4 : wc.cell? ⟨gb241, 4, none⟩ = some (.int .i64 a0_4) := (blk_cell BK241.out 4).trans rfl
   have hfz8_0 := blk_frozen BK241.out 0
   have hfz8_1 := blk_frozen BK241.out 1
   have hfz8_2 := blk_frozen BK241.out 2
   have hfz8_3 := blk_frozen BK241.out 3
   have hfz8_4 := blk_frozen BK241.out 4
   go_upto_block 0 with (fail)
   go_cut [5] (fun v5 wc => ∃ (kq : Nat) (x5_6 : Bool), v5 = .bool x5_6 ∧ Aside0 (vitrineref08_Right.j2 kq x5_6 a0_0 a0_1 a0_2 a0_3 a0_4 = some r) ∧ Aside0 (kq ≤ kj1) ∧ Aside0 (wc.heap[gb241]? = some (.cells #[.int .i64 a0_0, .int .i64 a0_1, .int .i64 a0_2, .int .i64 a0_3, .int .i64 a0_4] 29 (0, 0))) ∧ Aside0 (Below w.heap.size w wc))
   case first =>
    have H := HC7.out
    clear HC7
    by_cases c9 : a0_3 = 0
    ·rw [if_pos c9] at H
     have c9b0 : (a0_3 == 0) = true := beq_iff_eq.mpr c9
     have c9b1 : (a0_3 != 0) = false := bne_eq_false_iff_eq.mpr c9
     clear c9
     (first | rw [c9b0] | (simp only [i64_w, i32_w]; rw [c9b0]) | skip)
     by_cases c10 : x4_1 = true
     ·subst c10
      have H1 : (vitrineref08_Right.j2 kj1 true a0_0 a0_1 a0_2 a0_3 a0_4) = some r := by rw [if_pos rfl] at H; exact H
      clear H
      have H := H1
      clear H1
      have H' := Aside0.mk H
      clear H
      go_wp2
      go_meet
      case rel => exact ⟨_, (true), (by first | rfl | (simp; done) | (simp [*]; done)), H', ⟨by have := HJ1.out; first | omega | exact Nat.le_refl _⟩, ⟨kz BK241⟩, ⟨hz HB⟩⟩
     ·replace c10 := Bool.eq_false_iff.mpr c10
      subst c10
      have H1 : (if a0_2 = 8 then (vitrineref08_Right.j2 kj1 true a0_0 a0_1 a0_2 a0_3 a0_4) else (vitrineref08_Right.j2 kj1 (a0_2 == 16) a0_0 a0_1 a0_2 a0_3 a0_4)) = some r := by rw [if_neg (show ¬ (false = true) by decide)] at H; exact H
      clear H
      have H := H1
      clear H1
      by_cases c11 : a0_2 = 8
      ·rw [if_pos c11] at H
       have c11b0 : (a0_2 == 8) = true := beq_iff_eq.mpr c11
       have c11b1 : (a0_2 != 8) = false := bne_eq_false_iff_eq.mpr c11
       clear c11
       have H' := Aside0.mk H
       clear H
       go_wp2
       go_meet
       case rel => exact ⟨_, (true), (by first | rfl | (simp; done) | (simp [*]; done)), H', ⟨by have := HJ1.out; first | omega | exact Nat.le_refl _⟩, ⟨kz BK241⟩, ⟨hz HB⟩⟩
      ·rw [if_neg c11] at H
       have c11b0 : (a0_2 == 8) = false := beq_eq_false_iff_ne.mpr c11
       have c11b1 : (a0_2 != 8) = true := bne_iff_ne.mpr c11
       have H' := Aside0.mk H
       clear H
       go_wp2
       go_meet
       case rel => exact ⟨_, ((a0_2 == 16)), (by first | rfl | (simp; done) | (simp [*]; done)), H', ⟨by have := HJ1.out; first | omega | exact Nat.le_refl _⟩, ⟨kz BK241⟩, ⟨hz HB⟩⟩
    ·rw [if_neg c9] at H
     have c9b0 : (a0_3 == 0) = false := beq_eq_false_iff_ne.mpr c9
     have c9b1 : (a0_3 != 0) = true := bne_iff_ne.mpr c9
     (first | rw [c9b0] | (simp only [i64_w, i32_w]; rw [c9b0]) | skip)
     by_cases c12 : a0_3 = 3
     ·rw [if_pos c12] at H
      have c12b0 : (a0_3 == 3) = true := beq_iff_eq.mpr c12
      have c12b1 : (a0_3 != 3) = false := bne_eq_false_iff_eq.mpr c12
      clear c12
      by_cases c13 : x4_1 = true
      ·subst c13
       have H1 : (vitrineref08_Right.j2 kj1 true a0_0 a0_1 a0_2 a0_3 a0_4) = some r := by rw [if_pos rfl] at H; exact H
       clear H
       have H := H1
       clear H1
       have H' := Aside0.mk H
       clear H
       go_wp2
       go_meet
       case rel => exact ⟨_, (true), (by first | rfl | (simp; done) | (simp [*]; done)), H', ⟨by have := HJ1.out; first | omega | exact Nat.le_refl _⟩, ⟨kz BK241⟩, ⟨hz HB⟩⟩
      ·replace c13 := Bool.eq_false_iff.mpr c13
       subst c13
       have H1 : (vitrineref08_Right.j2 kj1 (a0_2 == 8) a0_0 a0_1 a0_2 a0_3 a0_4) = some r := by rw [if_neg (show ¬ (false = true) by decide)] at H; exact H
       clear H
       have H := H1
       clear H1
       have H' := Aside0.mk H
       clear H
       go_wp2
       go_meet
       case rel => exact ⟨_, ((a0_2 == 8)), (by first | rfl | (simp; done) | (simp [*]; done)), H', ⟨by have := HJ1.out; first | omega | exact Nat.le_refl _⟩, ⟨kz BK241⟩, ⟨hz HB⟩⟩
     ·rw [if_neg c12] at H
      have c12b0 : (a0_3 == 3) = false := beq_eq_false_iff_ne.mpr c12
      have c12b1 : (a0_3 != 3) = true := bne_iff_ne.mpr c12
      have HC14 := Aside0.mk H
      clear H
      go_upto_if 38 with (fail)
      go_cut [38] (fun v38 wc => ∃ (kq : Nat) (x38_13 : Bool), v38 = .bool x38_13 ∧ Aside0 (vitrineref08_Right.j1 kq a0_2 false x38_13 a0_0 a0_1 a0_2 a0_3 a0_4 = some r) ∧ Aside0 (kq ≤ kj1) ∧ Aside0 (wc.heap[gb241]? = some (.cells #[.int .i64 a0_0, .int .i64 a0_1, .int .i64 a0_2, .int .i64 a0_3, .int .i64 a0_4] 29 (0, 0))) ∧ Aside0 (Below w.heap.size w wc))
      case first =>
       have H := HC14.out
       clear HC14
       by_cases c15 : a0_3 = 2
       ·rw [if_pos c15] at H
        have c15b0 : (a0_3 == 2) = true := beq_iff_eq.mpr c15
        have c15b1 : (a0_3 != 2) = false := bne_eq_false_iff_eq.mpr c15
        clear c15
        (first | rw [c15b0] | (simp only [i64_w, i32_w]; rw [c15b0]) | skip)
        have H' := Aside0.mk H
        clear H
        go_wp2
        go_meet
        case rel => exact ⟨_, ((a0_3 == 2)), (by first | rfl | (simp; done) | (simp [*]; done)), H', ⟨by have := HJ1.out; first | omega | exact Nat.le_refl _⟩, ⟨kz BK241⟩, ⟨hz HB⟩⟩
       ·rw [if_neg c15] at H
        have c15b0 : (a0_3 == 2) = false := beq_eq_false_iff_ne.mpr c15
        have c15b1 : (a0_3 != 2) = true := bne_iff_ne.mpr c15
        (first | rw [c15b0] | (simp only [i64_w, i32_w]; rw [c15b0]) | skip)
        by_cases c16 : a0_3 = 4
        ·rw [if_pos c16] at H
         have c16b0 : (a0_3 == 4) = true := beq_iff_eq.mpr c16
         have c16b1 : (a0_3 != 4) = false := bne_eq_false_iff_eq.mpr c16
         clear c16
         have H' := Aside0.mk H
         clear H
         go_wp2
         go_meet
         case rel => exact ⟨_, ((a0_3 == 4)), (by first | rfl | (simp; done) | (simp [*]; done)), H', ⟨by have := HJ1.out; first | omega | exact Nat.le_refl _⟩, ⟨kz BK241⟩, ⟨hz HB⟩⟩
        ·rw [if_neg c16] at H
         have c16b0 : (a0_3 == 4) = false := beq_eq_false_iff_ne.mpr c16
         have c16b1 : (a0_3 != 4) = true := bne_iff_ne.mpr c16
         have H' := Aside0.mk H
         clear H
         go_wp2
         go_meet
         case rel => exact ⟨_, ((a0_3 == 6)), (by first | rfl | (simp; done) | (simp [*]; done)), H', ⟨by have := HJ1.out; first | omega | exact Nat.le_refl _⟩, ⟨kz BK241⟩, ⟨hz HB⟩⟩
      case rest =>
       clear HC14
       try clear c9
       try clear c9b0
       try clear c9b1
       try clear c12
       try clear c12b0
       try clear c12b1
       try clear hcz4_0
       try clear hcz4_1
       try clear hcz4_2
       try clear hcz4_3
       try clear hcz4_4
       try clear hcz8_0
       try clear hcz8_1
       try clear hcz8_2
       try clear hcz8_3
       try clear hcz8_4
       try clear hfz4_0
       try clear hfz4_1
       try clear hfz4_2
       try clear hfz4_3
       try clear hfz4_4
       try clear hfz8_0
       try clear hfz8_1
       try clear hfz8_2
       try clear hfz8_3
       try clear hfz8_4
       obtain ⟨kq, x38_13, rfl, HA, HJ13, BK241, HB⟩ := hcut
       cases kq with
       | zero => exact absurd HA.out (by simp [vitrineref08_Right.j1])
       | succ kj13 =>
        have H := HA.out
        clear HA
        simp only [vitrineref08_Right.j1] at H
        by_cases c17 : x38_13 = true
        ·subst c17
         have H1 : (if a0_2 = 8 then (vitrineref08_Right.j2 kj13 true a0_0 a0_1 a0_2 a0_3 a0_4) else (vitrineref08_Right.j2 kj13 (a0_2 == 16) a0_0 a0_1 a0_2 a0_3 a0_4)) = some r := by rw [if_pos rfl] at H; exact H
         clear H
         have H := H1
         clear H1
         by_cases c18 : a0_2 = 8
         ·rw [if_pos c18] at H
          have c18b0 : (a0_2 == 8) = true := beq_iff_eq.mpr c18
          have c18b1 : (a0_2 != 8) = false := bne_eq_false_iff_eq.mpr c18
          clear c18
          have H' := Aside0.mk H
          clear H
          go_wp2
          go_meet
          case rel => exact ⟨_, (true), (by first | rfl | (simp; done) | (simp [*]; done)), H', ⟨by have := HJ1.out; have := HJ13.out; first | omega | exact Nat.le_refl _⟩, ⟨kz BK241⟩, ⟨hz HB⟩⟩
         ·rw [if_neg c18] at H
          have c18b0 : (a0_2 == 8) = false := beq_eq_false_iff_ne.mpr c18
          have c18b1 : (a0_2 != 8) = true := bne_iff_ne.mpr c18
          have H' := Aside0.mk H
          clear H
          go_wp2
          go_meet
          case rel => exact ⟨_, ((a0_2 == 16)), (by first | rfl | (simp; done) | (simp [*]; done)), H', ⟨by have := HJ1.out; have := HJ13.out; first | omega | exact Nat.le_refl _⟩, ⟨kz BK241⟩, ⟨hz HB⟩⟩
        ·replace c17 := Bool.eq_false_iff.mpr c17
         subst c17
         have H1 : (vitrineref08_Right.j2 kj13 false a0_0 a0_1 a0_2 a0_3 a0_4) = some r := by rw [if_neg (show ¬ (false = true) by decide)] at H; exact H
         clear H
         have H := H1
         clear H1
         have H' := Aside0.mk H
         clear H
         go_wp2
         go_meet
         case rel => exact ⟨_, (false), (by first | rfl | (simp; done) | (simp [*]; done)), H', ⟨by have := HJ1.out; have := HJ13.out; first | omega | exact Nat.le_refl _⟩, ⟨kz BK241⟩, ⟨hz HB⟩⟩
   case rest =>
    clear HC7
    try clear hcz4_0
    try clear hcz4_1
    try clear hcz4_2
    try clear hcz4_3
    try clear hcz4_4
    try clear hcz8_0
    try clear hcz8_1
    try clear hcz8_2
    try clear hcz8_3
    try clear hcz8_4
    try clear hfz4_0
    try clear hfz4_1
    try clear hfz4_2
    try clear hfz4_3
    try clear hfz4_4
    try clear hfz8_0
    try clear hfz8_1
    try clear hfz8_2
    try clear hfz8_3
    try clear hfz8_4
    obtain ⟨kq, x5_6, rfl, HA, HJ6, BK241, HB⟩ := hcut
    cases kq with
    | zero => exact absurd HA.out (by simp [vitrineref08_Right.j2])
    | succ kj6 =>
     have H := HA.out
     clear HA
     simp only [vitrineref08_Right.j2] at H
     have HC19 := Aside0.mk H
     clear H
     go_upto_region 13 with (fail)
     go_cut [79] (fun v79 wc => ∃ (kq : Nat) (x79_18 : Bool), v79 = .bool x79_18 ∧ Aside0 (vitrineref08_Right.j3 kq x79_18 a0_0 a0_1 a0_2 a0_3 a0_4 = some r) ∧ Aside0 (kq ≤ kj6) ∧ Aside0 (wc.heap[gb241]? = some (.cells #[.int .i64 a0_0, .int .i64 a0_1, .int .i64 a0_2, .int .i64 a0_3, .int .i64 a0_4] 29 (0, 0))) ∧ Aside0 (Below w.heap.size w wc))
     case first =>
      have H := HC19.out
      clear HC19
      by_cases c20 : a0_0 < 1
      ·rw [if_pos c20] at H
       have c20b0 : decide (a0_0 < 1) = true := decide_eq_true c20
       clear c20
       (first | rw [c20b0] | (simp only [i64_w, i32_w]; rw [c20b0]) | skip)
       have H' := Aside0.mk H
       clear H
       have hcz21_0 : wc.cell? ⟨gb241, 0, none⟩ = some (.int .i64 a0_0) := (blk_cell BK241.out 0).trans rfl
       have hcz21_1 : wc.cell? ⟨gb241, 1, none⟩ = some (.int .i64 a0_1) := (blk_cell BK241.out 1).trans rfl
       have hcz21_2 : wc.cell? ⟨gb241, 2, none⟩ = some (.int .i64 a0_2) := (blk_cell BK241.out 2).trans rfl
       have hcz21_3 : wc.cell? ⟨gb241, 3, none⟩ = some (.int .i64 a0_3) := (blk_cell BK241.out 3).trans rfl
       have hcz21_4 : wc.cell? ⟨gb241, 4, none⟩ = some (.int .i64 a0_4) := (blk_cell BK241.out 4).trans rfl
       have hfz21_0 := blk_frozen BK241.out 0
       have hfz21_1 := blk_frozen BK241.out 1
       have hfz21_2 := blk_frozen BK241.out 2
       have hfz21_3 := blk_frozen BK241.out 3
       have hfz21_4 := blk_frozen BK241.out 4
       go_wp2
       go_meet
       case rel => exact ⟨_, (true), (by first | rfl | (simp; done) | (simp [*]; done)), H', ⟨by have := HJ1.out; have := HJ6.out; first | omega | exact Nat.le_refl _⟩, ⟨kz BK241⟩, ⟨hz HB⟩⟩
      ·rw [if_neg c20] at H
       have c20b0 : decide (a0_0 < 1) = false := decide_eq_false c20
       clear c20
       (first | rw [c20b0] | (simp only [i64_w, i32_w]; rw [c20b0]) | skip)
       by_cases c22 : a0_0 > 2147483647
       ·rw [if_pos c22] at H
        have c22b0 : decide (2147483647 < a0_0) = true := decide_eq_true c22
        clear c22
        have H' := Aside0.mk H
        clear H
        have hcz23_0 : wc.cell? ⟨gb241, 0, none⟩ = some (.int .i64 a0_0) := (blk_cell BK241.out 0).trans rfl
        have hcz23_1 : wc.cell? ⟨gb241, 1, none⟩ = some (.int .i64 a0_1) := (blk_cell BK241.out 1).trans rfl
        have hcz23_2 : wc.cell? ⟨gb241, 2, none⟩ = some (.int .i64 a0_2) := (blk_cell BK241.out 2).trans rfl
        have hcz23_3 : wc.cell? ⟨gb241, 3, none⟩ = some (.int .i64 a0_3) := (blk_cell BK241.out 3).trans rfl
        have hcz23_4 : wc.cell? ⟨gb241, 4, none⟩ = some (.int .i64 a0_4) := (blk_cell BK241.out 4).trans rfl
        have hfz23_0 := blk_frozen BK241.out 0
        have hfz23_1 := blk_frozen BK241.out 1
        have hfz23_2 := blk_frozen BK241.out 2
        have hfz23_3 := blk_frozen BK241.out 3
        have hfz23_4 := blk_frozen BK241.out 4
        go_wp2
        go_meet
        case rel => exact ⟨_, (true), (by first | rfl | (simp; done) | (simp [*]; done)), H', ⟨by have := HJ1.out; have := HJ6.out; first | omega | exact Nat.le_refl _⟩, ⟨kz BK241⟩, ⟨hz HB⟩⟩
       ·rw [if_neg c22] at H
        have c22b0 : decide (2147483647 < a0_0) = false := decide_eq_false c22
        clear c22
        by_cases c24 : a0_1 < 1
        ·rw [if_pos c24] at H
         have c24b0 : decide (a0_1 < 1) = true := decide_eq_true c24
         clear c24
         have H' := Aside0.mk H
         clear H
         have hcz25_0 : wc.cell? ⟨gb241, 0, none⟩ = some (.int .i64 a0_0) := (blk_cell BK241.out 0).trans rfl
         have hcz25_1 : wc.cell? ⟨gb241, 1, none⟩ = some (.int .i64 a0_1) := (blk_cell BK241.out 1).trans rfl
         have hcz25_2 : wc.cell? ⟨gb241, 2, none⟩ = some (.int .i64 a0_2) := (blk_cell BK241.out 2).trans rfl
         have hcz25_3 : wc.cell? ⟨gb241, 3, none⟩ = some (.int .i64 a0_3) := (blk_cell BK241.out 3).trans rfl
         have hcz25_4 : wc.cell? ⟨gb241, 4, none⟩ = some (.int .i64 a0_4) := (blk_cell BK241.out 4).trans rfl
         have hfz25_0 := blk_frozen BK241.out 0
         have hfz25_1 := blk_frozen BK241.out 1
         have hfz25_2 := blk_frozen BK241.out 2
         have hfz25_3 := blk_frozen BK241.out 3
         have hfz25_4 := blk_frozen BK241.out 4
         go_wp2
         go_meet
         case rel => exact ⟨_, (true), (by first | rfl | (simp; done) | (simp [*]; done)), H', ⟨by have := HJ1.out; have := HJ6.out; first | omega | exact Nat.le_refl _⟩, ⟨kz BK241⟩, ⟨hz HB⟩⟩
        ·rw [if_neg c24] at H
         have c24b0 : decide (a0_1 < 1) = false := decide_eq_false c24
         clear c24
         by_cases c26 : a0_1 > 2147483647
         ·rw [if_pos c26] at H
          have c26b0 : decide (2147483647 < a0_1) = true := decide_eq_true c26
          clear c26
          have H' := Aside0.mk H
          clear H
          have hcz27_0 : wc.cell? ⟨gb241, 0, none⟩ = some (.int .i64 a0_0) := (blk_cell BK241.out 0).trans rfl
          have hcz27_1 : wc.cell? ⟨gb241, 1, none⟩ = some (.int .i64 a0_1) := (blk_cell BK241.out 1).trans rfl
          have hcz27_2 : wc.cell? ⟨gb241, 2, none⟩ = some (.int .i64 a0_2) := (blk_cell BK241.out 2).trans rfl
          have hcz27_3 : wc.cell? ⟨gb241, 3, none⟩ = some (.int .i64 a0_3) := (blk_cell BK241.out 3).trans rfl
          have hcz27_4 : wc.cell? ⟨gb241, 4, none⟩ = some (.int .i64 a0_4) := (blk_cell BK241.out 4).trans rfl
          have hfz27_0 := blk_frozen BK241.out 0
          have hfz27_1 := blk_frozen BK241.out 1
          have hfz27_2 := blk_frozen BK241.out 2
          have hfz27_3 := blk_frozen BK241.out 3
          have hfz27_4 := blk_frozen BK241.out 4
          go_wp2
          go_meet
          case rel => exact ⟨_, (true), (by first | rfl | (simp; done) | (simp [*]; done)), H', ⟨by have := HJ1.out; have := HJ6.out; first | omega | exact Nat.le_refl _⟩, ⟨kz BK241⟩, ⟨hz HB⟩⟩
         ·rw [if_neg c26] at H
          have c26b0 : decide (2147483647 < a0_1) = false := decide_eq_false c26
          clear c26
          by_cases c28 : x5_6 = true
          ·subst c28
           have H1 : (if a0_4 = 0 then (vitrineref08_Right.j3 kj6 false a0_0 a0_1 a0_2 a0_3 a0_4) else (vitrineref08_Right.j3 kj6 (a0_4 != 1) a0_0 a0_1 a0_2 a0_3 a0_4)) = some r := by rw [if_pos rfl] at H; exact H
           clear H
           have H := H1
           clear H1
           by_cases c29 : a0_4 = 0
           ·rw [if_pos c29] at H
            have c29b0 : (a0_4 == 0) = true := beq_iff_eq.mpr c29
            have c29b1 : (a0_4 != 0) = false := bne_eq_false_iff_eq.mpr c29
            clear c29
            have H' := Aside0.mk H
            clear H
            have hcz30_0 : wc.cell? ⟨gb241, 0, none⟩ = some (.int .i64 a0_0) := (blk_cell BK241.out 0).trans rfl
            have hcz30_1 : wc.cell? ⟨gb241, 1, none⟩ = some (.int .i64 a0_1) := (blk_cell BK241.out 1).trans rfl
            have hcz30_2 : wc.cell? ⟨gb241, 2, none⟩ = some (.int .i64 a0_2) := (blk_cell BK241.out 2).trans rfl
            have hcz30_3 : wc.cell? ⟨gb241, 3, none⟩ = some (.int .i64 a0_3) := (blk_cell BK241.out 3).trans rfl
            have hcz30_4 : wc.cell? ⟨gb241, 4, none⟩ = some (.int .i64 a0_4) := (blk_cell BK241.out 4).trans rfl
            have hfz30_0 := blk_frozen BK241.out 0
            have hfz30_1 := blk_frozen BK241.out 1
            have hfz30_2 := blk_frozen BK241.out 2
            have hfz30_3 := blk_frozen BK241.out 3
            have hfz30_4 := blk_frozen BK241.out 4
            go_wp2
            go_meet
            case rel => exact ⟨_, (false), (by first | rfl | (simp; done) | (simp [*]; done)), H', ⟨by have := HJ1.out; have := HJ6.out; first | omega | exact Nat.le_refl _⟩, ⟨kz BK241⟩, ⟨hz HB⟩⟩
           ·rw [if_neg c29] at H
            have c29b0 : (a0_4 == 0) = false := beq_eq_false_iff_ne.mpr c29
            have c29b1 : (a0_4 != 0) = true := bne_iff_ne.mpr c29
            have H' := Aside0.mk H
            clear H
            have hcz31_0 : wc.cell? ⟨gb241, 0, none⟩ = some (.int .i64 a0_0) := (blk_cell BK241.out 0).trans rfl
            have hcz31_1 : wc.cell? ⟨gb241, 1, none⟩ = some (.int .i64 a0_1) := (blk_cell BK241.out 1).trans rfl
            have hcz31_2 : wc.cell? ⟨gb241, 2, none⟩ = some (.int .i64 a0_2) := (blk_cell BK241.out 2).trans rfl
            have hcz31_3 : wc.cell? ⟨gb241, 3, none⟩ = some (.int .i64 a0_3) := (blk_cell BK241.out 3).trans rfl
            have hcz31_4 : wc.cell? ⟨gb241, 4, none⟩ = some (.int .i64 a0_4) := (blk_cell BK241.out 4).trans rfl
            have hfz31_0 := blk_frozen BK241.out 0
            have hfz31_1 := blk_frozen BK241.out 1
            have hfz31_2 := blk_frozen BK241.out 2
            have hfz31_3 := blk_frozen BK241.out 3
            have hfz31_4 := blk_frozen BK241.out 4
            go_wp2
            go_meet
            case rel => exact ⟨_, ((a0_4 != 1)), (by first | rfl | (simp; done) | (simp [*]; done)), H', ⟨by have := HJ1.out; have := HJ6.out; first | omega | exact Nat.le_refl _⟩, ⟨kz BK241⟩, ⟨hz HB⟩⟩
          ·replace c28 := Bool.eq_false_iff.mpr c28
           subst c28
           have H1 : (vitrineref08_Right.j3 kj6 true a0_0 a0_1 a0_2 a0_3 a0_4) = some r := by rw [if_neg (show ¬ (false = true) by decide)] at H; exact H
           clear H
           have H := H1
           clear H1
           have H' := Aside0.mk H
           clear H
           have hcz32_0 : wc.cell? ⟨gb241, 0, none⟩ = some (.int .i64 a0_0) := (blk_cell BK241.out 0).trans rfl
           have hcz32_1 : wc.cell? ⟨gb241, 1, none⟩ = some (.int .i64 a0_1) := (blk_cell BK241.out 1).trans rfl
           have hcz32_2 : wc.cell? ⟨gb241, 2, none⟩ = some (.int .i64 a0_2) := (blk_cell BK241.out 2).trans rfl
           have hcz32_3 : wc.cell? ⟨gb241, 3, none⟩ = some (.int .i64 a0_3) := (blk_cell BK241.out 3).trans rfl
           have hcz32_4 : wc.cell? ⟨gb241, 4, none⟩ = some (.int .i64 a0_4) := (blk_cell BK241.out 4).trans rfl
           have hfz32_0 := blk_frozen BK241.out 0
           have hfz32_1 := blk_frozen BK241.out 1
           have hfz32_2 := blk_frozen BK241.out 2
           have hfz32_3 := blk_frozen BK241.out 3
           have hfz32_4 := blk_frozen BK241.out 4
           go_wp2
           go_meet
           case rel => exact ⟨_, (true), (by first | rfl | (simp; done) | (simp [*]; done)), H', ⟨by have := HJ1.out; have := HJ6.out; first | omega | exact Nat.le_refl _⟩, ⟨kz BK241⟩, ⟨hz HB⟩⟩
     case rest =>
      clear HC19
      try clear hcz4_0
      try clear hcz4_1
      try clear hcz4_2
      try clear hcz4_3
      try clear hcz4_4
      try clear hcz8_0
      try clear hcz8_1
      try clear hcz8_2
      try clear hcz8_3
      try clear hcz8_4
      try clear hfz4_0
      try clear hfz4_1
      try clear hfz4_2
      try clear hfz4_3
      try clear hfz4_4
      try clear hfz8_0
      try clear hfz8_1
      try clear hfz8_2
      try clear hfz8_3
      try clear hfz8_4
      obtain ⟨kq, x79_18, rfl, HA, HJ18, BK241, HB⟩ := hcut
      cases kq with
      | zero => exact absurd HA.out (by simp [vitrineref08_Right.j3])
      | succ kj18 =>
       have H := HA.out
       clear HA
       simp only [vitrineref08_Right.j3] at H
       by_cases c33 : x79_18 = true
       ·subst c33
        have H1 : (some 24) = some r := by rw [if_pos rfl] at H; exact H
        clear H
        have H := H1
        clear H1
        obtain rfl := Option.some.inj H
        go_wp2
        go_ret
        exact ⟨by first | rfl | (simp [errW_none, errW_some] <;> rfl) | (simp [*, errW_none, errW_some] <;> rfl), by repeat (first | (with_reducible first | exact HB.out | apply below_alloc | apply pw_below_drewN | apply below_drew1 | refine below_set ?_ GE241.out) | exact HB.out)⟩
       ·replace c33 := Bool.eq_false_iff.mpr c33
        subst c33
        have H1 : (if a0_0 > 1024 then (vitrineref08_Right.j4 kj18 true) else (if a0_1 > 1024 then (vitrineref08_Right.j4 kj18 true) else (vitrineref08_Right.j4 kj18 (decide ((wrap64 (a0_0 * a0_1)) > 4096))))) = some r := by rw [if_neg (show ¬ (false = true) by decide)] at H; exact H
        clear H
        have H := H1
        clear H1
        have HC34 := Aside0.mk H
        clear H
        go_upto_region 15 with (fail)
        go_cut [95] (fun v95 wc => ∃ (kq : Nat) (x95_33 : Bool), v95 = .bool x95_33 ∧ Aside0 (vitrineref08_Right.j4 kq x95_33 = some r) ∧ Aside0 (kq ≤ kj18) ∧ Aside0 (wc.heap[gb241]? = some (.cells #[.int .i64 a0_0, .int .i64 a0_1, .int .i64 a0_2, .int .i64 a0_3, .int .i64 a0_4] 29 (0, 0))) ∧ Aside0 (Below w.heap.size w wc))
        case first =>
         have H := HC34.out
         clear HC34
         by_cases c35 : a0_0 > 1024
         ·rw [if_pos c35] at H
          have c35b0 : decide (1024 < a0_0) = true := decide_eq_true c35
          clear c35
          (first | rw [c35b0] | (simp only [i64_w, i32_w]; rw [c35b0]) | skip)
          have H' := Aside0.mk H
          clear H
          have hcz36_0 : wc.cell? ⟨gb241, 0, none⟩ = some (.int .i64 a0_0) := (blk_cell BK241.out 0).trans rfl
          have hcz36_1 : wc.cell? ⟨gb241, 1, none⟩ = some (.int .i64 a0_1) := (blk_cell BK241.out 1).trans rfl
          have hcz36_2 : wc.cell? ⟨gb241, 2, none⟩ = some (.int .i64 a0_2) := (blk_cell BK241.out 2).trans rfl
          have hcz36_3 : wc.cell? ⟨gb241, 3, none⟩ = some (.int .i64 a0_3) := (blk_cell BK241.out 3).trans rfl
          have hcz36_4 : wc.cell? ⟨gb241, 4, none⟩ = some (.int .i64 a0_4) := (blk_cell BK241.out 4).trans rfl
          have hfz36_0 := blk_frozen BK241.out 0
          have hfz36_1 := blk_frozen BK241.out 1
          have hfz36_2 := blk_frozen BK241.out 2
          have hfz36_3 := blk_frozen BK241.out 3
          have hfz36_4 := blk_frozen BK241.out 4
          go_wp2
          go_meet
          case rel => exact ⟨_, (true), (by first | rfl | (simp; done) | (simp [*]; done)), H', ⟨by have := HJ1.out; have := HJ6.out; have := HJ18.out; first | omega | exact Nat.le_refl _⟩, ⟨kz BK241⟩, ⟨hz HB⟩⟩
         ·rw [if_neg c35] at H
          have c35b0 : decide (1024 < a0_0) = false := decide_eq_false c35
          clear c35
          (first | rw [c35b0] | (simp only [i64_w, i32_w]; rw [c35b0]) | skip)
          by_cases c37 : a0_1 > 1024
          ·rw [if_pos c37] at H
           have c37b0 : decide (1024 < a0_1) = true := decide_eq_true c37
           clear c37
           have H' := Aside0.mk H
           clear H
           have hcz38_0 : wc.cell? ⟨gb241, 0, none⟩ = some (.int .i64 a0_0) := (blk_cell BK241.out 0).trans rfl
           have hcz38_1 : wc.cell? ⟨gb241, 1, none⟩ = some (.int .i64 a0_1) := (blk_cell BK241.out 1).trans rfl
           have hcz38_2 : wc.cell? ⟨gb241, 2, none⟩ = some (.int .i64 a0_2) := (blk_cell BK241.out 2).trans rfl
           have hcz38_3 : wc.cell? ⟨gb241, 3, none⟩ = some (.int .i64 a0_3) := (blk_cell BK241.out 3).trans rfl
           have hcz38_4 : wc.cell? ⟨gb241, 4, none⟩ = some (.int .i64 a0_4) := (blk_cell BK241.out 4).trans rfl
           have hfz38_0 := blk_frozen BK241.out 0
           have hfz38_1 := blk_frozen BK241.out 1
           have hfz38_2 := blk_frozen BK241.out 2
           have hfz38_3 := blk_frozen BK241.out 3
           have hfz38_4 := blk_frozen BK241.out 4
           go_wp2
           go_meet
           case rel => exact ⟨_, (true), (by first | rfl | (simp; done) | (simp [*]; done)), H', ⟨by have := HJ1.out; have := HJ6.out; have := HJ18.out; first | omega | exact Nat.le_refl _⟩, ⟨kz BK241⟩, ⟨hz HB⟩⟩
          ·rw [if_neg c37] at H
           have c37b0 : decide (1024 < a0_1) = false := decide_eq_false c37
           clear c37
           have H' := Aside0.mk H
           clear H
           have hcz39_0 : wc.cell? ⟨gb241, 0, none⟩ = some (.int .i64 a0_0) := (blk_cell BK241.out 0).trans rfl
           have hcz39_1 : wc.cell? ⟨gb241, 1, none⟩ = some (.int .i64 a0_1) := (blk_cell BK241.out 1).trans rfl
           have hcz39_2 : wc.cell? ⟨gb241, 2, none⟩ = some (.int .i64 a0_2) := (blk_cell BK241.out 2).trans rfl
           have hcz39_3 : wc.cell? ⟨gb241, 3, none⟩ = some (.int .i64 a0_3) := (blk_cell BK241.out 3).trans rfl
           have hcz39_4 : wc.cell? ⟨gb241, 4, none⟩ = some (.int .i64 a0_4) := (blk_cell BK241.out 4).trans rfl
           have hfz39_0 := blk_frozen BK241.out 0
           have hfz39_1 := blk_frozen BK241.out 1
           have hfz39_2 := blk_frozen BK241.out 2
           have hfz39_3 := blk_frozen BK241.out 3
           have hfz39_4 := blk_frozen BK241.out 4
           go_wp2
           go_meet
           case rel => exact ⟨_, (decide ((wrap64 (a0_0 * a0_1)) > 4096)), (by first | rfl | (simp; done) | (simp [*]; done)), H', ⟨by have := HJ1.out; have := HJ6.out; have := HJ18.out; first | omega | exact Nat.le_refl _⟩, ⟨kz BK241⟩, ⟨hz HB⟩⟩
        case rest =>
         clear HC34
         try clear c33
         try clear hcz4_0
         try clear hcz4_1
         try clear hcz4_2
         try clear hcz4_3
         try clear hcz4_4
         try clear hcz8_0
         try clear hcz8_1
         try clear hcz8_2
         try clear hcz8_3
         try clear hcz8_4
         try clear hfz4_0
         try clear hfz4_1
         try clear hfz4_2
         try clear hfz4_3
         try clear hfz4_4
         try clear hfz8_0
         try clear hfz8_1
         try clear hfz8_2
         try clear hfz8_3
         try clear hfz8_4
         obtain ⟨kq, x95_33, rfl, HA, HJ33, BK241, HB⟩ := hcut
         cases kq with
         | zero => exact absurd HA.out (by simp [vitrineref08_Right.j4])
         | succ kj33 =>
          have H := HA.out
          clear HA
          simp only [vitrineref08_Right.j4] at H
          by_cases c40 : x95_33 = true
          ·subst c40
           have H1 : (some 5) = some r := by rw [if_pos rfl] at H; exact H
           clear H
           have H := H1
           clear H1
           obtain rfl := Option.some.inj H
           go_wp2
           go_ret
           exact ⟨by first | rfl | (simp [errW_none, errW_some] <;> rfl) | (simp [*, errW_none, errW_some] <;> rfl), by repeat (first | (with_reducible first | exact HB.out | apply below_alloc | apply pw_below_drewN | apply below_drew1 | refine below_set ?_ GE241.out) | exact HB.out)⟩
          ·replace c40 := Bool.eq_false_iff.mpr c40
           subst c40
           have H1 : (some 0) = some r := by rw [if_neg (show ¬ (false = true) by decide)] at H; exact H
           clear H
           have H := H1
           clear H1
           obtain rfl := Option.some.inj H
           go_wp2
           go_ret
           exact ⟨by first | rfl | (simp [errW_none, errW_some] <;> rfl) | (simp [*, errW_none, errW_some] <;> rfl), by repeat (first | (with_reducible first | exact HB.out | apply below_alloc | apply pw_below_drewN | apply below_drew1 | refine below_set ?_ GE241.out) | exact HB.out)⟩

end Go.Proofs.Ytejljcglbkjgkaa.PL12

namespace Go.Proofs.Ytejljcglbkjgkaa.PL12
open Go.RowKit Go.Proofs.YtejljcglbkjgkaaW.PrintWords Go.Proofs.YtejljcglbkjgkaaW.PrintLast Go.Proofs.YtejljcglbkjgkaaW.PrintMore
attribute [local go_sem] max2_int min2_int max_two min_two max_three min_three max_four min_four   -- for this text's walks alone
set_option linter.unusedVariables false
set_option linter.unusedSimpArgs false

def pixel_full.f (a0_0 : Int) (a0_1 : Int) (a0_2 : ByteArray) : Option (Int × Int × Int × Int × Int) := some (a0_0, a0_1, 16, 6, 0)
set_option maxHeartbeats 40000000 in
set_option maxRecDepth 100000 in
theorem pixel_full.calls (a0_0 : Int) (a0_1 : Int) (a0_2 : ByteArray) (r1 : Int) (r2 : Int) (r3 : Int) (r4 : Int) (r5 : Int) (w : World) (h : pixel_full.f a0_0 a0_1 a0_2 = some (r1, r2, r3, r4, r5)) :
  Calls Try.prog 19 #[.agg #[.int .i64 a0_0, .int .i64 a0_1, .string a0_2]] w fun e w' => e = .returned (.agg #[.int .i64 r1, .int .i64 r2, .int .i64 r3, .int .i64 r4, .int .i64 r5]) ∧ Below w.heap.size w w' := by
 have hu23 := Try.underlying23
 have hu29 := Try.underlying29
 have HB := Aside0.mk (Below.refl w.heap.size w)
 have H : (some (a0_0, a0_1, 16, 6, 0)) = some (r1, r2, r3, r4, r5) := h
 clear h
 simp only [Option.some.injEq, Prod.mk.injEq] at H
 obtain ⟨rfl, rfl, rfl, rfl, rfl⟩ := H
 go_enter Try.func19, Try.ntmps19
 go_wp2_with (first | ((with_reducible refine gate_dst (N := 1) rfl ?_); refine box_event ?hg (N := 1) ?hd (cs := #[.int .i64 a0_0, .int .i64 a0_1, .string a0_2]) (t := 23) ?hr ?_; (case hd => rfl); (case hg => rfl); (case hr => first | (go_simp; done) | (go_simp; rfl)); intro gb232 hg w2 hbox hb; have n0_ := Aside0.mk (below_step (hz HB) hb); have n1_ := Aside0.mk (hbox); have n2_ := Aside0.mk ((by rw [hg]; exact (below_size (hz HB)) : w.heap.size ≤ gb232)); have n3_ := Aside0.mk ((by rw [hg]; exact (below_size (hz HB)) : w.heap.size ≤ gb232)); clear HB; have HB := n0_; have BK232 := n1_; have GW232 := n2_; have GE232 := n3_; clear n0_ n1_ n2_ n3_; clear hb hbox hg) | ((with_reducible refine gate_dst (N := 2) rfl ?_); refine box_event ?hg (N := 2) ?hd (cs := #[.int .i64 0, .int .i64 0, .int .i64 0, .int .i64 0, .int .i64 0]) (t := 29) ?hr ?_; (case hd => rfl); (case hg => rfl); (case hr => first | (go_simp; done) | (go_simp; rfl)); intro gb233 hg w3 hbox hb; have n0_ := Aside0.mk (blk_below (g := gb232) (o := .cells #[.int .i64 a0_0, .int .i64 a0_1, .string a0_2] 23 (0, 0)) (kz BK232) hb); have n1_ := Aside0.mk (below_step (hz HB) hb); have n2_ := Aside0.mk (hbox); have n3_ := Aside0.mk ((by rw [hg]; exact (below_size (hz HB)) : w.heap.size ≤ gb233)); have n4_ := Aside0.mk ((by rw [hg]; exact (below_size (hz HB)) : w.heap.size ≤ gb233)); have n5_ := Aside0.mk ((by rw [hg]; exact Nat.ne_of_lt (blk_lt (g := gb232) (o := .cells #[.int .i64 a0_0, .int .i64 a0_1, .string a0_2] 23 (0, 0)) (kz BK232)) : gb232 ≠ gb233)); have n6_ := Aside0.mk ((by rw [hg]; exact Nat.ne_of_gt (blk_lt (g := gb232) (o := .cells #[.int .i64 a0_0, .int .i64 a0_1, .string a0_2] 23 (0, 0)) (kz BK232)) : gb233 ≠ gb232)); clear BK232; clear HB; have BK232 := n0_; have HB := n1_; have BK233 := n2_; have GW233 := n3_; have GE233 := n4_; have NB232_233 := n5_; have NB233_232 := n6_; clear n0_ n1_ n2_ n3_ n4_ n5_ n6_; clear hb hbox hg; have hnb4 := NB232_233.out; have hnc4 := NB233_232.out; have hcz5_0 : w3.cell? ⟨gb232, 0, none⟩ = some (.int .i64 a0_0) := (blk_cell BK232.out 0).trans rfl; have hcz5_1 : w3.cell? ⟨gb232, 1, none⟩ = some (.int .i64 a0_1) := (blk_cell BK232.out 1).trans rfl; have hcz5_2 : w3.cell? ⟨gb232, 2, none⟩ = some (.string a0_2) := (blk_cell BK232.out 2).trans rfl; have hfz5_0 := blk_frozen BK232.out 0; have hfz5_1 := blk_frozen BK232.out 1; have hfz5_2 := blk_frozen BK232.out 2; have hcz6_0 : w3.cell? ⟨gb233, 0, none⟩ = some (.int .i64 0) := (blk_cell BK233.out 0).trans rfl; have hcz6_1 : w3.cell? ⟨gb233, 1, none⟩ = some (.int .i64 0) := (blk_cell BK233.out 1).trans rfl; have hcz6_2 : w3.cell? ⟨gb233, 2, none⟩ = some (.int .i64 0) := (blk_cell BK233.out 2).trans rfl; have hcz6_3 : w3.cell? ⟨gb233, 3, none⟩ = some (.int .i64 0) := (blk_cell BK233.out 3).trans rfl; have hcz6_4 : w3.cell? ⟨gb233, 4, none⟩ = some (.int .i64 0) := (blk_cell BK233.out 4).trans rfl; have hfz6_0 := blk_frozen BK233.out 0; have hfz6_1 := blk_frozen BK233.out 1; have hfz6_2 := blk_frozen BK233.out 2; have hfz6_3 := blk_frozen BK233.out 3; have hfz6_4 := blk_frozen BK233.out 4))
 refine bodyPost_ret (results_cell_row rfl _ _ gb233 29 #[.int .i64 a0_0, .int .i64 a0_1, .int .i64 16, .int .i64 6, .int .i64 0] (0, 0) _ rfl (by (with_reducible repeat (first | refine blk_drewN ?_ _ | refine blk_drew ?_ | refine blk_alloc ?_ _)); refine blk_put (cs := #[.int .i64 a0_0, .int .i64 a0_1, .int .i64 16, .int .i64 6, .int .i64 0]) ?_ 4 _ rfl; (with_reducible repeat (first | refine blk_drewN ?_ _ | refine blk_drew ?_ | refine blk_alloc ?_ _)); refine blk_put (cs := #[.int .i64 a0_0, .int .i64 a0_1, .int .i64 16, .int .i64 0, .int .i64 0]) ?_ 3 _ rfl; (with_reducible repeat (first | refine blk_drewN ?_ _ | refine blk_drew ?_ | refine blk_alloc ?_ _)); refine blk_put (cs := #[.int .i64 a0_0, .int .i64 a0_1, .int .i64 0, .int .i64 0, .int .i64 0]) ?_ 2 _ rfl; (with_reducible repeat (first | refine blk_drewN ?_ _ | refine blk_drew ?_ | refine blk_alloc ?_ _)); refine blk_put (cs := #[.int .i64 a0_0, .int .i64 0, .int .i64 0, .int .i64 0, .int .i64 0]) ?_ 1 _ rfl; (with_reducible repeat (first | refine blk_drewN ?_ _ | refine blk_drew ?_ | refine blk_alloc ?_ _)); refine blk_put (cs := #[.int .i64 0, .int .i64 0, .int .i64 0, .int .i64 0, .int .i64 0]) ?_ 0 _ rfl; (with_reducible repeat (first | refine blk_drewN ?_ _ | refine blk_drew ?_ | refine blk_alloc ?_ _)); exact BK233.out) Try.underlying29 rfl (by kernel_rfl)) rfl ?_
 exact ⟨by first | rfl | (simp [errW_none, errW_some] <;> rfl) | (simp [*, errW_none, errW_some] <;> rfl), by repeat (first | (with_reducible first | exact HB.out | apply below_alloc | apply pw_below_drewN | apply below_drew1 | refine below_set ?_ GE232.out | refine below_set ?_ GE233.out) | exact HB.out)⟩

def pixel_Check.f (k : Nat) (a0_0 : Int) (a0_1 : Int) (a0_2 : ByteArray) : Option (Int) := (pixel_full.f a0_0 a0_1 a0_2).bind fun bt235 => ((head_Right.f k bt235.1 bt235.2.1 bt235.2.2.1 bt235.2.2.2.1 bt235.2.2.2.2).bind fun t240 => (if t240 = 0 then (if (a0_2.size : Int) = (wrap64 ((wrap64 (8 * a0_0)) * a0_1)) then (some 0) else (some 24)) else (some t240)))
theorem pixel_Check.mono : ∀ a0 a1 a2 k, LeO (pixel_Check.f k a0 a1 a2) (pixel_Check.f (k + 1) a0 a1 a2) := by
 intro a0 a1 a2 k
 unfold pixel_Check.f
 repeat' first
   | (with_reducible exact head_Right.mono _ _ _ _ _ _)
   | (with_reducible exact LeO.refl _)
   | (with_reducible exact LeO.none _)
   | (with_reducible refine LeO.ite ?_ ?_)
   | (with_reducible refine LeO.bind ?_ (fun _ => ?_))
   | exact head_Right.mono _ _ _ _ _ _
   | exact LeO.none _
   | refine LeO.ite ?_ ?_
   | refine LeO.bind ?_ (fun _ => ?_)
set_option maxHeartbeats 40000000 in
set_option maxRecDepth 100000 in
theorem pixel_Check.calls (k : Nat) (a0_0 : Int) (a0_1 : Int) (a0_2 : ByteArray) (r : Int) (w : World) (h : pixel_Check.f k a0_0 a0_1 a0_2 = some r) :
  Calls Try.prog 8 #[.agg #[.int .i64 a0_0, .int .i64 a0_1, .string a0_2]] w fun e w' => e = .returned (.int .i64 r) ∧ Below w.heap.size w w' := by
 have hu23 := Try.underlying23
 have HB := Aside0.mk (Below.refl w.heap.size w)
 have H : ((pixel_full.f a0_0 a0_1 a0_2).bind fun bt235 => ((head_Right.f k bt235.1 bt235.2.1 bt235.2.2.1 bt235.2.2.2.1 bt235.2.2.2.2).bind fun t240 => (if t240 = 0 then (if (a0_2.size : Int) = (wrap64 ((wrap64 (8 * a0_0)) * a0_1)) then (some 0) else (some 24)) else (some t240)))) = some r := h
 clear h
 replace H := Option.bind_eq_some_iff.mp H
 obtain ⟨⟨t235, t236, t237, t238, t239⟩, A20, H⟩ := H
 replace H : ((head_Right.f k t235 t236 t237 t238 t239).bind fun t240 => (if t240 = 0 then (if (a0_2.size : Int) = (wrap64 ((wrap64 (8 * a0_0)) * a0_1)) then (some 0) else (some 24)) else (some t240))) = some r := H
 have A2 := Aside0.mk A20
 clear A20
 replace H := Option.bind_eq_some_iff.mp H
 obtain ⟨t240, A30, H⟩ := H
 replace H : (if t240 = 0 then (if (a0_2.size : Int) = (wrap64 ((wrap64 (8 * a0_0)) * a0_1)) then (some 0) else (some 24)) else (some t240)) = some r := H
 have A3 := Aside0.mk A30
 clear A30
 by_cases c4 : t240 = 0
 ·rw [if_pos c4] at H
  have c4b0 : (t240 == 0) = true := beq_iff_eq.mpr c4
  have c4b1 : (t240 != 0) = false := bne_eq_false_iff_eq.mpr c4
  clear c4
  by_cases c5 : (a0_2.size : Int) = (wrap64 ((wrap64 (8 * a0_0)) * a0_1))
  ·rw [if_pos c5] at H
   have c5b0 : ((a0_2.size : Int) == (wrap64 ((wrap64 (8 * a0_0)) * a0_1))) = true := beq_iff_eq.mpr c5
   have c5b1 : ((a0_2.size : Int) != (wrap64 ((wrap64 (8 * a0_0)) * a0_1))) = false := bne_eq_false_iff_eq.mpr c5
   clear c5
   obtain rfl := Option.some.inj H
   go_enter Try.func8, Try.ntmps8
   go_wp2_with (first | ((with_reducible refine gate_dst (N := 1) rfl ?_); refine box_event ?hg (N := 1) ?hd (cs := #[.int .i64 a0_0, .int .i64 a0_1, .string a0_2]) (t := 23) ?hr ?_; (case hd => rfl); (case hg => rfl); (case hr => first | (go_simp; done) | (go_simp; rfl)); intro gb234 hg w6 hbox hb; have n0_ := Aside0.mk (below_step (hz HB) hb); have n1_ := Aside0.mk (hbox); have n2_ := Aside0.mk ((by rw [hg]; exact (below_size (hz HB)) : w.heap.size ≤ gb234)); have n3_ := Aside0.mk ((by rw [hg]; exact (below_size (hz HB)) : w.heap.size ≤ gb234)); clear HB; have HB := n0_; have BK234 := n1_; have GW234 := n2_; have GE234 := n3_; clear n0_ n1_ n2_ n3_; clear hb hbox hg; have hcz7_0 : w6.cell? ⟨gb234, 0, none⟩ = some (.int .i64 a0_0) := (blk_cell BK234.out 0).trans rfl; have hcz7_1 : w6.cell? ⟨gb234, 1, none⟩ = some (.int .i64 a0_1) := (blk_cell BK234.out 1).trans rfl; have hcz7_2 : w6.cell? ⟨gb234, 2, none⟩ = some (.string a0_2) := (blk_cell BK234.out 2).trans rfl; have hfz7_0 := blk_frozen BK234.out 0; have hfz7_1 := blk_frozen BK234.out 1; have hfz7_2 := blk_frozen BK234.out 2) | ((with_reducible refine gate_callee (f := 19) rfl ?_); refine gz 5 Try.func19 #[.agg #[.int .i64 a0_0, .int .i64 a0_1, .string a0_2]] ?_; (with_reducible refine (pixel_full.calls a0_0 a0_1 a0_2 t235 t236 t237 t238 t239 _ A2.out).mono ?_); rintro e w8 ⟨rfl, hb⟩; refine ⟨_, rfl, ?_⟩; have n0_ := Aside0.mk (blk_below (g := gb234) (o := .cells #[.int .i64 a0_0, .int .i64 a0_1, .string a0_2] 23 (0, 0)) (kz BK234) hb); have n1_ := Aside0.mk (below_step (hz HB) hb); clear BK234; clear HB; have BK234 := n0_; have HB := n1_; clear n0_ n1_; (try clear hb); (try clear hb2); (try clear hk); (try clear hi)) | ((with_reducible refine gate_callee (f := 18) rfl ?_); refine gz 6 Try.func18 #[.agg #[.int .i64 t235, .int .i64 t236, .int .i64 t237, .int .i64 t238, .int .i64 t239]] ?_; (with_reducible refine (head_Right.calls k t235 t236 t237 t238 t239 t240 _ A3.out).mono ?_); rintro e w9 ⟨rfl, hb⟩; refine ⟨_, rfl, ?_⟩; have n0_ := Aside0.mk (blk_below (g := gb234) (o := .cells #[.int .i64 a0_0, .int .i64 a0_1, .string a0_2] 23 (0, 0)) (kz BK234) hb); have n1_ := Aside0.mk (below_step (hz HB) hb); clear BK234; clear HB; have BK234 := n0_; have HB := n1_; clear n0_ n1_; (try clear hb); (try clear hb2); (try clear hk); (try clear hi); have hcz10_0 : w9.cell? ⟨gb234, 0, none⟩ = some (.int .i64 a0_0) := (blk_cell BK234.out 0).trans rfl; have hcz10_1 : w9.cell? ⟨gb234, 1, none⟩ = some (.int .i64 a0_1) := (blk_cell BK234.out 1).trans rfl; have hcz10_2 : w9.cell? ⟨gb234, 2, none⟩ = some (.string a0_2) := (blk_cell BK234.out 2).trans rfl; have hfz10_0 := blk_frozen BK234.out 0; have hfz10_1 := blk_frozen BK234.out 1; have hfz10_2 := blk_frozen BK234.out 2))
   go_ret
   exact ⟨by first | rfl | (simp [errW_none, errW_some] <;> rfl) | (simp [*, errW_none, errW_some] <;> rfl), by repeat (first | (with_reducible first | exact HB.out | apply below_alloc | apply pw_below_drewN | apply below_drew1 | refine below_set ?_ GE234.out) | exact HB.out)⟩
  ·rw [if_neg c5] at H
   have c5b0 : ((a0_2.size : Int) == (wrap64 ((wrap64 (8 * a0_0)) * a0_1))) = false := beq_eq_false_iff_ne.mpr c5
   have c5b1 : ((a0_2.size : Int) != (wrap64 ((wrap64 (8 * a0_0)) * a0_1))) = true := bne_iff_ne.mpr c5
   obtain rfl := Option.some.inj H
   go_enter Try.func8, Try.ntmps8
   go_wp2_with (first | ((with_reducible refine gate_dst (N := 1) rfl ?_); refine box_event ?hg (N := 1) ?hd (cs := #[.int .i64 a0_0, .int .i64 a0_1, .string a0_2]) (t := 23) ?hr ?_; (case hd => rfl); (case hg => rfl); (case hr => first | (go_simp; done) | (go_simp; rfl)); intro gb234 hg w11 hbox hb; have n0_ := Aside0.mk (below_step (hz HB) hb); have n1_ := Aside0.mk (hbox); have n2_ := Aside0.mk ((by rw [hg]; exact (below_size (hz HB)) : w.heap.size ≤ gb234)); have n3_ := Aside0.mk ((by rw [hg]; exact (below_size (hz HB)) : w.heap.size ≤ gb234)); clear HB; have HB := n0_; have BK234 := n1_; have GW234 := n2_; have GE234 := n3_; clear n0_ n1_ n2_ n3_; clear hb hbox hg; have hcz12_0 : w11.cell? ⟨gb234, 0, none⟩ = some (.int .i64 a0_0) := (blk_cell BK234.out 0).trans rfl; have hcz12_1 : w11.cell? ⟨gb234, 1, none⟩ = some (.int .i64 a0_1) := (blk_cell BK234.out 1).trans rfl; have hcz12_2 : w11.cell? ⟨gb234, 2, none⟩ = some (.string a0_2) := (blk_cell BK234.out 2).trans rfl; have hfz12_0 := blk_frozen BK234.out 0; have hfz12_1 := blk_frozen BK234.out 1; have hfz12_2 := blk_frozen BK234.out 2) | ((with_reducible refine gate_callee (f := 19) rfl ?_); refine gz 5 Try.func19 #[.agg #[.int .i64 a0_0, .int .i64 a0_1, .string a0_2]] ?_; (with_reducible refine (pixel_full.calls a0_0 a0_1 a0_2 t235 t236 t237 t238 t239 _ A2.out).mono ?_); rintro e w13 ⟨rfl, hb⟩; refine ⟨_, rfl, ?_⟩; have n0_ := Aside0.mk (blk_below (g := gb234) (o := .cells #[.int .i64 a0_0, .int .i64 a0_1, .string a0_2] 23 (0, 0)) (kz BK234) hb); have n1_ := Aside0.mk (below_step (hz HB) hb); clear BK234; clear HB; have BK234 := n0_; have HB := n1_; clear n0_ n1_; (try clear hb); (try clear hb2); (try clear hk); (try clear hi)) | ((with_reducible refine gate_callee (f := 18) rfl ?_); refine gz 6 Try.func18 #[.agg #[.int .i64 t235, .int .i64 t236, .int .i64 t237, .int .i64 t238, .int .i64 t239]] ?_; (with_reducible refine (head_Right.calls k t235 t236 t237 t238 t239 t240 _ A3.out).mono ?_); rintro e w14 ⟨rfl, hb⟩; refine ⟨_, rfl, ?_⟩; have n0_ := Aside0.mk (blk_below (g := gb234) (o := .cells #[.int .i64 a0_0, .int .i64 a0_1, .string a0_2] 23 (0, 0)) (kz BK234) hb); have n1_ := Aside0.mk (below_step (hz HB) hb); clear BK234; clear HB; have BK234 := n0_; have HB := n1_; clear n0_ n1_; (try clear hb); (try clear hb2); (try clear hk); (try clear hi); have hcz15_0 : w14.cell? ⟨gb234, 0, none⟩ = some (.int .i64 a0_0) := (blk_cell BK234.out 0).trans rfl; have hcz15_1 : w14.cell? ⟨gb234, 1, none⟩ = some (.int .i64 a0_1) := (blk_cell BK234.out 1).trans rfl; have hcz15_2 : w14.cell? ⟨gb234, 2, none⟩ = some (.string a0_2) := (blk_cell BK234.out 2).trans rfl; have hfz15_0 := blk_frozen BK234.out 0; have hfz15_1 := blk_frozen BK234.out 1; have hfz15_2 := blk_frozen BK234.out 2))
   go_ret
   exact ⟨by first | rfl | (simp [errW_none, errW_some] <;> rfl) | (simp [*, errW_none, errW_some] <;> rfl), by repeat (first | (with_reducible first | exact HB.out | apply below_alloc | apply pw_below_drewN | apply below_drew1 | refine below_set ?_ GE234.out) | exact HB.out)⟩
 ·rw [if_neg c4] at H
  have c4b0 : (t240 == 0) = false := beq_eq_false_iff_ne.mpr c4
  have c4b1 : (t240 != 0) = true := bne_iff_ne.mpr c4
  obtain rfl := Option.some.inj H
  go_enter Try.func8, Try.ntmps8
  go_wp2_with (first | ((with_reducible refine gate_dst (N := 1) rfl ?_); refine box_event ?hg (N := 1) ?hd (cs := #[.int .i64 a0_0, .int .i64 a0_1, .string a0_2]) (t := 23) ?hr ?_; (case hd => rfl); (case hg => rfl); (case hr => first | (go_simp; done) | (go_simp; rfl)); intro gb234 hg w16 hbox hb; have n0_ := Aside0.mk (below_step (hz HB) hb); have n1_ := Aside0.mk (hbox); have n2_ := Aside0.mk ((by rw [hg]; exact (below_size (hz HB)) : w.heap.size ≤ gb234)); have n3_ := Aside0.mk ((by rw [hg]; exact (below_size (hz HB)) : w.heap.size ≤ gb234)); clear HB; have HB := n0_; have BK234 := n1_; have GW234 := n2_; have GE234 := n3_; clear n0_ n1_ n2_ n3_; clear hb hbox hg; have hcz17_0 : w16.cell? ⟨gb234, 0, none⟩ = some (.int .i64 a0_0) := (blk_cell BK234.out 0).trans rfl; have hcz17_1 : w16.cell? ⟨gb234, 1, none⟩ = some (.int .i64 a0_1) := (blk_cell BK234.out 1).trans rfl; have hcz17_2 : w16.cell? ⟨gb234, 2, none⟩ = some (.string a0_2) := (blk_cell BK234.out 2).trans rfl; have hfz17_0 := blk_frozen BK234.out 0; have hfz17_1 := blk_frozen BK234.out 1; have hfz17_2 := blk_frozen BK234.out 2) | ((with_reducible refine gate_callee (f := 19) rfl ?_); refine gz 5 Try.func19 #[.agg #[.int .i64 a0_0, .int .i64 a0_1, .string a0_2]] ?_; (with_reducible refine (pixel_full.calls a0_0 a0_1 a0_2 t235 t236 t237 t238 t239 _ A2.out).mono ?_); rintro e w18 ⟨rfl, hb⟩; refine ⟨_, rfl, ?_⟩; have n0_ := Aside0.mk (blk_below (g := gb234) (o := .cells #[.int .i64 a0_0, .int .i64 a0_1, .string a0_2] 23 (0, 0)) (kz BK234) hb); have n1_ := Aside0.mk (below_step (hz HB) hb); clear BK234; clear HB; have BK234 := n0_; have HB := n1_; clear n0_ n1_; (try clear hb); (try clear hb2); (try clear hk); (try clear hi)) | ((with_reducible refine gate_callee (f := 18) rfl ?_); refine gz 6 Try.func18 #[.agg #[.int .i64 t235, .int .i64 t236, .int .i64 t237, .int .i64 t238, .int .i64 t239]] ?_; (with_reducible refine (head_Right.calls k t235 t236 t237 t238 t239 t240 _ A3.out).mono ?_); rintro e w19 ⟨rfl, hb⟩; refine ⟨_, rfl, ?_⟩; have n0_ := Aside0.mk (blk_below (g := gb234) (o := .cells #[.int .i64 a0_0, .int .i64 a0_1, .string a0_2] 23 (0, 0)) (kz BK234) hb); have n1_ := Aside0.mk (below_step (hz HB) hb); clear BK234; clear HB; have BK234 := n0_; have HB := n1_; clear n0_ n1_; (try clear hb); (try clear hb2); (try clear hk); (try clear hi)))
  go_ret
  exact ⟨by first | rfl | (simp [errW_none, errW_some] <;> rfl) | (simp [*, errW_none, errW_some] <;> rfl), by repeat (first | (with_reducible first | exact HB.out | apply below_alloc | apply pw_below_drewN | apply below_drew1 | refine below_set ?_ GE234.out) | exact HB.out)⟩

end Go.Proofs.Ytejljcglbkjgkaa.PL12

namespace Go.Proofs.Ytejljcglbkjgkaa.PL12
open Go.RowKit Go.Proofs.YtejljcglbkjgkaaW.PrintWords Go.Proofs.YtejljcglbkjgkaaW.PrintLast Go.Proofs.YtejljcglbkjgkaaW.PrintMore
attribute [local go_sem] max2_int min2_int max_two min_two max_three min_three max_four min_four   -- for this text's walks alone
set_option linter.unusedVariables false
set_option linter.unusedSimpArgs false

def filter_Do.f (k : Nat) (a0 : Int) (a1 : Int) (a2 : ByteArray) (a3 : ByteArray) : Option (ByteArray × Int) := (filter_through.f k a0 a1 (-1) a2 a3).bind fun bt244 => (some (bt244.1, bt244.2))
theorem filter_Do.mono : ∀ a0 a1 a2 a3 k, LeO (filter_Do.f k a0 a1 a2 a3) (filter_Do.f (k + 1) a0 a1 a2 a3) := by
 intro a0 a1 a2 a3 k
 unfold filter_Do.f
 repeat' first
   | (with_reducible exact filter_through.mono _ _ _ _ _ _)
   | (with_reducible exact LeO.refl _)
   | (with_reducible exact LeO.none _)
   | (with_reducible refine LeO.ite ?_ ?_)
   | (with_reducible refine LeO.bind ?_ (fun _ => ?_))
   | exact filter_through.mono _ _ _ _ _ _
   | exact LeO.none _
   | refine LeO.ite ?_ ?_
   | refine LeO.bind ?_ (fun _ => ?_)
set_option maxHeartbeats 40000000 in
set_option maxRecDepth 100000 in
theorem filter_Do.calls (k : Nat) (a0 : Int) (a1 : Int) (a2 : ByteArray) (a3 : ByteArray) (r1 : ByteArray) (r2 : Int) (w : World) (h : filter_Do.f k a0 a1 a2 a3 = some (r1, r2)) :
  Calls Try.prog 32 #[.int .i64 a0, .int .i64 a1, .string a2, .string a3] w fun e w' => e = .returned (.tuple #[.string r1, .int .i64 r2]) ∧ Below w.heap.size w w' := by
 have HB := Aside0.mk (Below.refl w.heap.size w)
 have H : ((filter_through.f k a0 a1 (-1) a2 a3).bind fun bt244 => (some (bt244.1, bt244.2))) = some (r1, r2) := h
 clear h
 replace H := Option.bind_eq_some_iff.mp H
 obtain ⟨⟨t244, t245⟩, A50, H⟩ := H
 replace H : (some (t244, t245)) = some (r1, r2) := H
 have A5 := Aside0.mk A50
 clear A50
 simp only [Option.some.injEq, Prod.mk.injEq] at H
 obtain ⟨rfl, rfl⟩ := H
 go_enter Try.func32, Try.ntmps32
 go_wp2_with (first | ((with_reducible refine gate_callee (f := 52) rfl ?_); refine gz 14 Try.func52 #[.int .i64 a0, .int .i64 a1, .int .i64 (-1), .string a2, .string a3] ?_; (with_reducible refine (filter_through.calls k a0 a1 (-1) a2 a3 t244 t245 _ A5.out).mono ?_); rintro e w6 ⟨rfl, hb⟩; refine ⟨_, rfl, ?_⟩; have n0_ := Aside0.mk (below_step (hz HB) hb); clear HB; have HB := n0_; clear n0_; (try clear hb); (try clear hb2); (try clear hk); (try clear hi)))
 go_ret2
 exact ⟨by first | rfl | (simp [errW_none, errW_some] <;> rfl) | (simp [*, errW_none, errW_some] <;> rfl), by repeat (first | (with_reducible first | exact HB.out | apply below_alloc | apply pw_below_drewN | apply below_drew1) | exact HB.out)⟩

mutual
def filter_Pick.l0 : Nat → Int → ByteArray → ByteArray → Int → Int → Int → Option (Int × Int)
 | 0, _, _, _, _, _, _ => none
 | k + 1, x0, x1, x2, x8, x9, x15 => if x15 < 5 then ((filter_Do.f k x0 x15 x1 x2).bind fun bt246 => (if bt246.2 = 0 then (filter_Pick.l1 k x0 x1 x2 x8 x9 x15 bt246.1 0 x15 (bt246.1.size : Int) 0) else (some (0, bt246.2)))) else (some (x8, 0))
def filter_Pick.l1 : Nat → Int → ByteArray → ByteArray → Int → Int → Int → ByteArray → Int → Int → Int → Int → Option (Int × Int)
 | 0, _, _, _, _, _, _, _, _, _, _, _ => none
 | k + 1, x0, x1, x2, x8, x9, x10, x11, x13, x15, x30, x31 => if x31 < x30 then (if 0 ≤ x31 then (if x31 < (x11.size : Int) then (filter_Pick.l1 k x0 x1 x2 x8 x9 x10 x11 (wrap64 (x13 + (mn (wrap64 (bt x11 x31)) (wrap64 (256 - (wrap64 (bt x11 x31))))))) x15 x30 (wrap64 (x31 + 1))) else (none)) else (none)) else (if x9 < 0 then (filter_Pick.l0 k x0 x1 x2 x10 x13 (wrap64 (x15 + 1))) else (if x13 < x9 then (filter_Pick.l0 k x0 x1 x2 x10 x13 (wrap64 (x15 + 1))) else (filter_Pick.l0 k x0 x1 x2 x8 x9 (wrap64 (x15 + 1)))))
end
def filter_Pick.f (k : Nat) (a0 : Int) (a1 : ByteArray) (a2 : ByteArray) : Option (Int × Int) := filter_Pick.l0 k a0 a1 a2 0 (-1) 0
theorem filter_Pick.mono_l : ∀ k, (∀ y0 y1 y2 y3 y4 y5, LeO (filter_Pick.l0 k y0 y1 y2 y3 y4 y5) (filter_Pick.l0 (k + 1) y0 y1 y2 y3 y4 y5)) ∧ (∀ y0 y1 y2 y3 y4 y5 y6 y7 y8 y9 y10, LeO (filter_Pick.l1 k y0 y1 y2 y3 y4 y5 y6 y7 y8 y9 y10) (filter_Pick.l1 (k + 1) y0 y1 y2 y3 y4 y5 y6 y7 y8 y9 y10))
 | 0 => ⟨fun _ _ _ _ _ _ r h => by simp [filter_Pick.l0] at h, fun _ _ _ _ _ _ _ _ _ _ _ r h => by simp [filter_Pick.l1] at h⟩
 | k + 1 => by
  obtain ⟨ih0, ih1⟩ := filter_Pick.mono_l k
  refine ⟨?_, ?_⟩
  ·intro y0 y1 y2 y3 y4 y5
   unfold filter_Pick.l0
   repeat' first
   | (with_reducible exact ih0 _ _ _ _ _ _)
   | (with_reducible exact ih1 _ _ _ _ _ _ _ _ _ _ _)
   | (with_reducible exact filter_Do.mono _ _ _ _ _)
   | (with_reducible exact LeO.refl _)
   | (with_reducible exact LeO.none _)
   | (with_reducible refine LeO.ite ?_ ?_)
   | (with_reducible refine LeO.bind ?_ (fun _ => ?_))
   | exact ih0 _ _ _ _ _ _
   | exact ih1 _ _ _ _ _ _ _ _ _ _ _
   | exact filter_Do.mono _ _ _ _ _
   | exact LeO.none _
   | refine LeO.ite ?_ ?_
   | refine LeO.bind ?_ (fun _ => ?_)
  ·intro y0 y1 y2 y3 y4 y5 y6 y7 y8 y9 y10
   unfold filter_Pick.l1
   repeat' first
   | (with_reducible exact ih0 _ _ _ _ _ _)
   | (with_reducible exact ih1 _ _ _ _ _ _ _ _ _ _ _)
   | (with_reducible exact filter_Do.mono _ _ _ _ _)
   | (with_reducible exact LeO.refl _)
   | (with_reducible exact LeO.none _)
   | (with_reducible refine LeO.ite ?_ ?_)
   | (with_reducible refine LeO.bind ?_ (fun _ => ?_))
   | exact ih0 _ _ _ _ _ _
   | exact ih1 _ _ _ _ _ _ _ _ _ _ _
   | exact filter_Do.mono _ _ _ _ _
   | exact LeO.none _
   | refine LeO.ite ?_ ?_
   | refine LeO.bind ?_ (fun _ => ?_)
theorem filter_Pick.mono : ∀ a0 a1 a2 k, LeO (filter_Pick.f k a0 a1 a2) (filter_Pick.f (k + 1) a0 a1 a2) := by
 intro a0 a1 a2 k
 obtain ⟨ih0, ih1⟩ := filter_Pick.mono_l k
 unfold filter_Pick.f
 repeat' first
   | (with_reducible exact ih0 _ _ _ _ _ _)
   | (with_reducible exact ih1 _ _ _ _ _ _ _ _ _ _ _)
   | (with_reducible exact filter_Do.mono _ _ _ _ _)
   | (with_reducible exact LeO.refl _)
   | (with_reducible exact LeO.none _)
   | (with_reducible refine LeO.ite ?_ ?_)
   | (with_reducible refine LeO.bind ?_ (fun _ => ?_))
   | exact ih0 _ _ _ _ _ _
   | exact ih1 _ _ _ _ _ _ _ _ _ _ _
   | exact filter_Do.mono _ _ _ _ _
   | exact LeO.none _
   | refine LeO.ite ?_ ?_
   | refine LeO.bind ?_ (fun _ => ?_)
set_option maxHeartbeats 40000000 in
set_option maxRecDepth 100000 in
theorem filter_Pick.calls (k : Nat) (a0 : Int) (a1 : ByteArray) (a2 : ByteArray) (r1 : Int) (r2 : Int) (w : World) (h : filter_Pick.f k a0 a1 a2 = some (r1, r2)) :
  Calls Try.prog 31 #[.int .i64 a0, .string a1, .string a2] w fun e w' => e = .returned (.tuple #[.int .i64 r1, .int .i64 r2]) ∧ Below w.heap.size w w' := by
 have HB := Aside0.mk (Below.refl w.heap.size w)
 have H : (filter_Pick.l0 k a0 a1 a2 0 (-1) 0) = some (r1, r2) := h
 clear h
 have H' := Aside0.mk H
 clear H
 go_enter Try.func31, Try.ntmps31
 go_wp2
 repeat (go_quiet (fail); try go_wp2)
 go_loopg [8, 9, 15] k (fun kq v8 v9 v15 w' => ∃ (x8_1 : Int) (x9_1 : Int) (x15_1 : Int), v8 = .int .i64 x8_1 ∧ v9 = .int .i64 x9_1 ∧ v15 = .int .i64 x15_1 ∧ Aside0 (filter_Pick.l0 kq a0 a1 a2 x8_1 x9_1 x15_1 = some (r1, r2)) ∧ Aside0 (kq ≤ k) ∧ Aside0 (Below w.heap.size w w'))
 case atStart => exact ⟨(0), ((-1)), (0), (by first | rfl | (simp; done) | (simp [*]; done)), (by first | rfl | (simp; done) | (simp [*]; done)), (by first | rfl | (simp; done) | (simp [*]; done)), H', ⟨Nat.le_refl _⟩, ⟨hz HB⟩⟩
 case round =>
  clear H'
  obtain ⟨x8_1, x9_1, x15_1, rfl, rfl, rfl, HA, HK1, HB⟩ := hrel
  cases gk with
  | zero => exact absurd HA.out (by simp [filter_Pick.l0])
  | succ k1 =>
   have H := HA.out
   clear HA
   simp only [filter_Pick.l0] at H
   by_cases c4 : x15_1 < 5
   ·rw [if_pos c4] at H
    have c4b0 : decide (x15_1 < 5) = true := decide_eq_true c4
    clear c4
    replace H := Option.bind_eq_some_iff.mp H
    obtain ⟨⟨t246, t247⟩, A50, H⟩ := H
    replace H : (if t247 = 0 then (filter_Pick.l1 k1 a0 a1 a2 x8_1 x9_1 x15_1 t246 0 x15_1 (t246.size : Int) 0) else (some (0, t247))) = some (r1, r2) := H
    have A5 := Aside0.mk A50
    clear A50
    by_cases c6 : t247 = 0
    ·rw [if_pos c6] at H
     have c6b0 : (t247 == 0) = true := beq_iff_eq.mpr c6
     have c6b1 : (t247 != 0) = false := bne_eq_false_iff_eq.mpr c6
     clear c6
     have H' := Aside0.mk H
     clear H
     go_wp2_with (first | (go_at_call 32; (with_reducible refine (filter_Do.calls k1 a0 x15_1 a1 a2 t246 t247 _ A5.out).mono ?_); rintro e w7 ⟨rfl, hb⟩; have n0_ := Aside0.mk (below_step (hz HB) hb); clear HB; have HB := n0_; clear n0_; (try clear hb); (try clear hb2); (try clear hk); (try clear hi)))
     repeat (go_quiet (first | (go_at_call 32; (with_reducible refine (filter_Do.calls k1 a0 x15_1 a1 a2 t246 t247 _ A5.out).mono ?_); rintro e w7 ⟨rfl, hb⟩; have n0_ := Aside0.mk (below_step (hz HB) hb); clear HB; have HB := n0_; clear n0_; (try clear hb); (try clear hb2); (try clear hk); (try clear hi))); try go_wp2_with (first | (go_at_call 32; (with_reducible refine (filter_Do.calls k1 a0 x15_1 a1 a2 t246 t247 _ A5.out).mono ?_); rintro e w7 ⟨rfl, hb⟩; have n0_ := Aside0.mk (below_step (hz HB) hb); clear HB; have HB := n0_; clear n0_; (try clear hb); (try clear hb2); (try clear hk); (try clear hi))))
     go_loopg [13, 31] k1 (fun kq v13 v31 w' => ∃ (x13_2 : Int) (x31_2 : Int), v13 = .int .i64 x13_2 ∧ v31 = .int .i64 x31_2 ∧ Aside0 (filter_Pick.l1 kq a0 a1 a2 x8_1 x9_1 x15_1 t246 x13_2 x15_1 (t246.size : Int) x31_2 = some (r1, r2)) ∧ Aside0 (kq ≤ k1) ∧ Aside0 (Below w.heap.size w w'))
     case atStart => exact ⟨(0), (0), (by first | rfl | (simp; done) | (simp [*]; done)), (by first | rfl | (simp; done) | (simp [*]; done)), H', ⟨Nat.le_refl _⟩, ⟨hz HB⟩⟩
     case round =>
      clear H'
      try clear c4
      try clear c4b0
      try clear c6
      try clear c6b0
      try clear c6b1
      obtain ⟨x13_2, x31_2, rfl, rfl, HA, HK2, HB⟩ := hrel
      cases gk with
      | zero => exact absurd HA.out (by simp [filter_Pick.l1])
      | succ k2 =>
       have H := HA.out
       clear HA
       simp only [filter_Pick.l1] at H
       by_cases c8 : x31_2 < (t246.size : Int)
       ·rw [if_pos c8] at H
        have c8b0 : decide (x31_2 < (t246.size : Int)) = true := decide_eq_true c8
        clear c8
        by_cases c9 : 0 ≤ x31_2
        ·rw [if_pos c9] at H
         have c9b0 : decide (0 ≤ x31_2) = true := decide_eq_true c9
         clear c9
         by_cases c10 : x31_2 < (t246.size : Int)
         ·rw [if_pos c10] at H
          have c10b0 : decide (x31_2 < (t246.size : Int)) = true := decide_eq_true c10
          clear c10
          obtain ⟨ji13, hji13⟩ : ∃ j_ : Int, (mn (wrap64 (bt t246 x31_2)) (wrap64 (256 - (wrap64 (bt t246 x31_2))))) = j_ := ⟨_, rfl⟩
          replace H : (filter_Pick.l1 k2 a0 a1 a2 x8_1 x9_1 x15_1 t246 (wrap64 (x13_2 + (ji13))) x15_1 (t246.size : Int) (wrap64 (x31_2 + 1))) = some (r1, r2) := by first | (rw [hji13] at H; exact H) | (simp only [hji13] at H ⊢; exact H)
          have hji13_ : (if (wrap64 (256 - (wrap64 (bt t246 x31_2)))) < (wrap64 (bt t246 x31_2)) then (wrap64 (256 - (wrap64 (bt t246 x31_2)))) else (wrap64 (bt t246 x31_2))) = ji13 := hji13
          have H' := Aside0.mk H
          clear H
          have p11 : 0 ≤ (x31_2 : Int) := of_decide_eq_true (by first | (with_reducible assumption) | assumption)
          have q11 : x31_2 < (t246.size : Int) := of_decide_eq_true (by first | (with_reducible assumption) | assumption)
          have hx11 := bt_at t246 x31_2
          replace p11 := eq_true p11
          replace q11 := eq_true q11
          have p12 : 0 ≤ (x31_2 : Int) := of_decide_eq_true (by first | (with_reducible assumption) | assumption)
          have q12 : x31_2 < (t246.size : Int) := of_decide_eq_true (by first | (with_reducible assumption) | assumption)
          have hx12 := bt_at t246 x31_2
          replace p12 := eq_true p12
          replace q12 := eq_true q12
          go_wp2
          repeat (go_quiet (fail); try go_wp2)
          go_roundg k2
          case measure => have := HK1.out; have := HK2.out; omega
          case rel => exact ⟨(wrap64 (x13_2 + (ji13))), (wrap64 (x31_2 + 1)), (by first | rfl | (simp; done) | (simp only [← hji13] <;> (first | rfl | simp)) | (simp [*]; done)), (by first | rfl | (simp; done) | (simp [*]; done)), H', ⟨by have := HK1.out; have := HK2.out; omega⟩, ⟨hz HB⟩⟩
         ·rw [if_neg c10] at H
          exact absurd H (by simp)
        ·rw [if_neg c9] at H
         exact absurd H (by simp)
       ·rw [if_neg c8] at H
        have c8b0 : decide (x31_2 < (t246.size : Int)) = false := decide_eq_false c8
        clear c8
        by_cases c14 : x9_1 < 0
        ·rw [if_pos c14] at H
         have c14b0 : decide (x9_1 < 0) = true := decide_eq_true c14
         clear c14
         have H' := Aside0.mk H
         clear H
         go_wp2
         repeat (go_quiet (fail); try go_wp2)
         go_roundg k2
         case measure => have := HK1.out; have := HK2.out; omega
         case rel => exact ⟨(x15_1), (x13_2), (wrap64 (x15_1 + 1)), (by first | rfl | (simp; done) | (simp [*]; done)), (by first | rfl | (simp; done) | (simp [*]; done)), (by first | rfl | (simp; done) | (simp [*]; done)), H', ⟨by have := HK1.out; have := HK2.out; omega⟩, ⟨hz HB⟩⟩
        ·rw [if_neg c14] at H
         have c14b0 : decide (x9_1 < 0) = false := decide_eq_false c14
         clear c14
         by_cases c15 : x13_2 < x9_1
         ·rw [if_pos c15] at H
          have c15b0 : decide (x13_2 < x9_1) = true := decide_eq_true c15
          clear c15
          have H' := Aside0.mk H
          clear H
          go_wp2
          repeat (go_quiet (fail); try go_wp2)
          go_roundg k2
          case measure => have := HK1.out; have := HK2.out; omega
          case rel => exact ⟨(x15_1), (x13_2), (wrap64 (x15_1 + 1)), (by first | rfl | (simp; done) | (simp [*]; done)), (by first | rfl | (simp; done) | (simp [*]; done)), (by first | rfl | (simp; done) | (simp [*]; done)), H', ⟨by have := HK1.out; have := HK2.out; omega⟩, ⟨hz HB⟩⟩
         ·rw [if_neg c15] at H
          have c15b0 : decide (x13_2 < x9_1) = false := decide_eq_false c15
          clear c15
          have H' := Aside0.mk H
          clear H
          go_wp2
          repeat (go_quiet (fail); try go_wp2)
          go_roundg k2
          case measure => have := HK1.out; have := HK2.out; omega
          case rel => exact ⟨(x8_1), (x9_1), (wrap64 (x15_1 + 1)), (by first | rfl | (simp; done) | (simp [*]; done)), (by first | rfl | (simp; done) | (simp [*]; done)), (by first | rfl | (simp; done) | (simp [*]; done)), H', ⟨by have := HK1.out; have := HK2.out; omega⟩, ⟨hz HB⟩⟩
    ·rw [if_neg c6] at H
     have c6b0 : (t247 == 0) = false := beq_eq_false_iff_ne.mpr c6
     have c6b1 : (t247 != 0) = true := bne_iff_ne.mpr c6
     simp only [Option.some.injEq, Prod.mk.injEq] at H
     obtain ⟨rfl, rfl⟩ := H
     go_wp2_with (first | (go_at_call 32; (with_reducible refine (filter_Do.calls k1 a0 x15_1 a1 a2 t246 t247 _ A5.out).mono ?_); rintro e w16 ⟨rfl, hb⟩; have n0_ := Aside0.mk (below_step (hz HB) hb); clear HB; have HB := n0_; clear n0_; (try clear hb); (try clear hb2); (try clear hk); (try clear hi)))
     repeat (go_quiet (first | (go_at_call 32; (with_reducible refine (filter_Do.calls k1 a0 x15_1 a1 a2 t246 t247 _ A5.out).mono ?_); rintro e w16 ⟨rfl, hb⟩; have n0_ := Aside0.mk (below_step (hz HB) hb); clear HB; have HB := n0_; clear n0_; (try clear hb); (try clear hb2); (try clear hk); (try clear hi))); try go_wp2_with (first | (go_at_call 32; (with_reducible refine (filter_Do.calls k1 a0 x15_1 a1 a2 t246 t247 _ A5.out).mono ?_); rintro e w16 ⟨rfl, hb⟩; have n0_ := Aside0.mk (below_step (hz HB) hb); clear HB; have HB := n0_; clear n0_; (try clear hb); (try clear hb2); (try clear hk); (try clear hi))))
     go_ret2
     exact ⟨by first | rfl | (simp [errW_none, errW_some] <;> rfl) | (simp [*, errW_none, errW_some] <;> rfl), by repeat (first | (with_reducible first | exact HB.out | apply below_alloc | apply pw_below_drewN | apply below_drew1) | exact HB.out)⟩
   ·rw [if_neg c4] at H
    have c4b0 : decide (x15_1 < 5) = false := decide_eq_false c4
    clear c4
    simp only [Option.some.injEq, Prod.mk.injEq] at H
    obtain ⟨rfl, rfl⟩ := H
    go_wp2
    repeat (go_quiet (fail); try go_wp2)
    go_ret2
    exact ⟨by first | rfl | (simp [errW_none, errW_some] <;> rfl) | (simp [*, errW_none, errW_some] <;> rfl), by repeat (first | (with_reducible first | exact HB.out | apply below_alloc | apply pw_below_drewN | apply below_drew1) | exact HB.out)⟩

end Go.Proofs.Ytejljcglbkjgkaa.PL12

namespace Go.Proofs.Ytejljcglbkjgkaa.PL12
open Go.RowKit Go.Proofs.YtejljcglbkjgkaaW.PrintWords Go.Proofs.YtejljcglbkjgkaaW.PrintLast Go.Proofs.YtejljcglbkjgkaaW.PrintMore
attribute [local go_sem] max2_int min2_int max_two min_two max_three min_three max_four min_four   -- for this text's walks alone
set_option linter.unusedVariables false
set_option linter.unusedSimpArgs false

def pixel_Rows.l0 : Nat → List Int → ByteArray → Int → Int → Int → Int → ByteArray → Option (ByteArray × Int)
 | 0, _, _, _, _, _, _, _ => none
 | k + 1, x5, x6, x19, x20, x249000, x249001, x249002 => if x20 < x19 then (if 0 ≤ (wrap64 ((wrap64 (8 * x249000)) * x20)) then (if (wrap64 ((wrap64 (8 * x249000)) * x20)) ≤ (wrap64 ((wrap64 (8 * x249000)) * (wrap64 (x20 + 1)))) then (if (wrap64 ((wrap64 (8 * x249000)) * (wrap64 (x20 + 1)))) ≤ (x249002.size : Int) then ((filter_Pick.f k 8 (x249002.extract ((wrap64 ((wrap64 (8 * x249000)) * x20)) : Int).toNat ((wrap64 ((wrap64 (8 * x249000)) * (wrap64 (x20 + 1)))) : Int).toNat) x6).bind fun bt250 => ((filter_Do.f k 8 bt250.1 (x249002.extract ((wrap64 ((wrap64 (8 * x249000)) * x20)) : Int).toNat ((wrap64 ((wrap64 (8 * x249000)) * (wrap64 (x20 + 1)))) : Int).toNat) x6).bind fun bt252 => (if x5.length < 140737488355328 then ((some (x5 ++ [(bt250.1) % 256] : List Int)).bind fun y254 => (if y254.length + bt252.1.size < 140737488355328 then (pixel_Rows.l0 k (y254 ++ bytesOf bt252.1) (x249002.extract ((wrap64 ((wrap64 (8 * x249000)) * x20)) : Int).toNat ((wrap64 ((wrap64 (8 * x249000)) * (wrap64 (x20 + 1)))) : Int).toNat) x19 (wrap64 (x20 + 1)) x249000 x249001 x249002) else (none))) else (none)))) else (none)) else (none)) else (none)) else (some (strOfNums x5, 0))
def pixel_Rows.f (k : Nat) (a0_0 : Int) (a0_1 : Int) (a0_2 : ByteArray) : Option (ByteArray × Int) := (pixel_Check.f k a0_0 a0_1 a0_2).bind fun t249 => (if t249 = 0 then (pixel_Rows.l0 k ([] : List Int) (⟨#[]⟩ : ByteArray) a0_1 0 a0_0 a0_1 a0_2) else (some ((⟨#[]⟩ : ByteArray), t249)))
theorem pixel_Rows.mono_l : ∀ k, (∀ y0 y1 y2 y3 y4 y5 y6, LeO (pixel_Rows.l0 k y0 y1 y2 y3 y4 y5 y6) (pixel_Rows.l0 (k + 1) y0 y1 y2 y3 y4 y5 y6))
 | 0 => fun _ _ _ _ _ _ _ r h => by simp [pixel_Rows.l0] at h
 | k + 1 => by
  have ih0 := pixel_Rows.mono_l k
  ·intro y0 y1 y2 y3 y4 y5 y6
   unfold pixel_Rows.l0
   repeat' first
   | (with_reducible exact ih0 _ _ _ _ _ _ _)
   | (with_reducible exact filter_Do.mono _ _ _ _ _)
   | (with_reducible exact filter_Pick.mono _ _ _ _)
   | (with_reducible exact pixel_Check.mono _ _ _ _)
   | (with_reducible exact LeO.refl _)
   | (with_reducible exact LeO.none _)
   | (with_reducible refine LeO.ite ?_ ?_)
   | (with_reducible refine LeO.bind ?_ (fun _ => ?_))
   | exact ih0 _ _ _ _ _ _ _
   | exact filter_Do.mono _ _ _ _ _
   | exact filter_Pick.mono _ _ _ _
   | exact pixel_Check.mono _ _ _ _
   | exact LeO.none _
   | refine LeO.ite ?_ ?_
   | refine LeO.bind ?_ (fun _ => ?_)
theorem pixel_Rows.mono : ∀ a0 a1 a2 k, LeO (pixel_Rows.f k a0 a1 a2) (pixel_Rows.f (k + 1) a0 a1 a2) := by
 intro a0 a1 a2 k
 have ih0 := pixel_Rows.mono_l k
 unfold pixel_Rows.f
 repeat' first
   | (with_reducible exact ih0 _ _ _ _ _ _ _)
   | (with_reducible exact filter_Do.mono _ _ _ _ _)
   | (with_reducible exact filter_Pick.mono _ _ _ _)
   | (with_reducible exact pixel_Check.mono _ _ _ _)
   | (with_reducible exact LeO.refl _)
   | (with_reducible exact LeO.none _)
   | (with_reducible refine LeO.ite ?_ ?_)
   | (with_reducible refine LeO.bind ?_ (fun _ => ?_))
   | exact ih0 _ _ _ _ _ _ _
   | exact filter_Do.mono _ _ _ _ _
   | exact filter_Pick.mono _ _ _ _
   | exact pixel_Check.mono _ _ _ _
   | exact LeO.none _
   | refine LeO.ite ?_ ?_
   | refine LeO.bind ?_ (fun _ => ?_)
set_option maxHeartbeats 40000000 in
set_option maxRecDepth 100000 in
theorem pixel_Rows.calls (k : Nat) (a0_0 : Int) (a0_1 : Int) (a0_2 : ByteArray) (r1 : ByteArray) (r2 : Int) (w : World) (h : pixel_Rows.f k a0_0 a0_1 a0_2 = some (r1, r2)) :
  Calls Try.prog 13 #[.agg #[.int .i64 a0_0, .int .i64 a0_1, .string a0_2]] w fun e w' => e = .returned (.tuple #[.string r1, .int .i64 r2]) ∧ Below w.heap.size w w' := by
 have hu23 := Try.underlying23
 have HB := Aside0.mk (Below.refl w.heap.size w)
 have H : ((pixel_Check.f k a0_0 a0_1 a0_2).bind fun t249 => (if t249 = 0 then (pixel_Rows.l0 k ([] : List Int) (⟨#[]⟩ : ByteArray) a0_1 0 a0_0 a0_1 a0_2) else (some ((⟨#[]⟩ : ByteArray), t249)))) = some (r1, r2) := h
 clear h
 replace H := Option.bind_eq_some_iff.mp H
 obtain ⟨t249, A20, H⟩ := H
 replace H : (if t249 = 0 then (pixel_Rows.l0 k ([] : List Int) (⟨#[]⟩ : ByteArray) a0_1 0 a0_0 a0_1 a0_2) else (some ((⟨#[]⟩ : ByteArray), t249))) = some (r1, r2) := H
 have A2 := Aside0.mk A20
 clear A20
 by_cases c3 : t249 = 0
 ·rw [if_pos c3] at H
  have c3b0 : (t249 == 0) = true := beq_iff_eq.mpr c3
  have c3b1 : (t249 != 0) = false := bne_eq_false_iff_eq.mpr c3
  clear c3
  have H' := Aside0.mk H
  clear H
  go_enter Try.func13, Try.ntmps13
  go_wp2_with (first | ((with_reducible refine gate_dst (N := 1) rfl ?_); refine box_event ?hg (N := 1) ?hd (cs := #[.int .i64 a0_0, .int .i64 a0_1, .string a0_2]) (t := 23) ?hr ?_; (case hd => rfl); (case hg => rfl); (case hr => first | (go_simp; done) | (go_simp; rfl)); intro gb248 hg w4 hbox hb; have n0_ := Aside0.mk (below_step (hz HB) hb); have n1_ := Aside0.mk (hbox); have n2_ := Aside0.mk ((by rw [hg]; exact (below_size (hz HB)) : w.heap.size ≤ gb248)); have n3_ := Aside0.mk ((by rw [hg]; exact (below_size (hz HB)) : w.heap.size ≤ gb248)); clear HB; have HB := n0_; have BK248 := n1_; have GW248 := n2_; have GE248 := n3_; clear n0_ n1_ n2_ n3_; clear hb hbox hg; have hcz5_0 : w4.cell? ⟨gb248, 0, none⟩ = some (.int .i64 a0_0) := (blk_cell BK248.out 0).trans rfl; have hcz5_1 : w4.cell? ⟨gb248, 1, none⟩ = some (.int .i64 a0_1) := (blk_cell BK248.out 1).trans rfl; have hcz5_2 : w4.cell? ⟨gb248, 2, none⟩ = some (.string a0_2) := (blk_cell BK248.out 2).trans rfl; have hfz5_0 := blk_frozen BK248.out 0; have hfz5_1 := blk_frozen BK248.out 1; have hfz5_2 := blk_frozen BK248.out 2) | ((with_reducible refine gate_callee (f := 8) rfl ?_); refine gz 14 Try.func8 #[.agg #[.int .i64 a0_0, .int .i64 a0_1, .string a0_2]] ?_; (with_reducible refine (pixel_Check.calls k a0_0 a0_1 a0_2 t249 _ A2.out).mono ?_); rintro e w6 ⟨rfl, hb⟩; refine ⟨_, rfl, ?_⟩; have n0_ := Aside0.mk (blk_below (g := gb248) (o := .cells #[.int .i64 a0_0, .int .i64 a0_1, .string a0_2] 23 (0, 0)) (kz BK248) hb); have n1_ := Aside0.mk (below_step (hz HB) hb); clear BK248; clear HB; have BK248 := n0_; have HB := n1_; clear n0_ n1_; (try clear hb); (try clear hb2); (try clear hk); (try clear hi); have hcz7_0 : w6.cell? ⟨gb248, 0, none⟩ = some (.int .i64 a0_0) := (blk_cell BK248.out 0).trans rfl; have hcz7_1 : w6.cell? ⟨gb248, 1, none⟩ = some (.int .i64 a0_1) := (blk_cell BK248.out 1).trans rfl; have hcz7_2 : w6.cell? ⟨gb248, 2, none⟩ = some (.string a0_2) := (blk_cell BK248.out 2).trans rfl; have hfz7_0 := blk_frozen BK248.out 0; have hfz7_1 := blk_frozen BK248.out 1; have hfz7_2 := blk_frozen BK248.out 2))
  go_loopg [5, 6, 20] k (fun kq v5 v6 v20 w' => ∃ (x5_1 : List Int) (x6_1 : ByteArray) (x20_1 : Int), v6 = .string x6_1 ∧ v20 = .int .i64 x20_1 ∧ Aside0 (pixel_Rows.l0 kq x5_1 x6_1 a0_1 x20_1 a0_0 a0_1 a0_2 = some (r1, r2)) ∧ Aside0 (kq ≤ k) ∧ Aside0 (Kd.R (Kd.int .u8) 5 w' w.heap.size (fun _ => True) v5 x5_1) ∧ Aside0 (w'.heap[gb248]? = some (.cells #[.int .i64 a0_0, .int .i64 a0_1, .string a0_2] 23 (0, 0))) ∧ Aside0 (Below w.heap.size w w'))
  case atStart => exact ⟨(([] : List Int)), ((⟨#[]⟩ : ByteArray)), (0), (by first | rfl | (simp; done) | (simp [*]; done)), (by first | rfl | (simp; done) | (simp [*]; done)), H', ⟨Nat.le_refl _⟩, ⟨by first | exact Kd.R_nil _ _ _ _ _ | exact Kd.N_nil _ _ _ _ _ | exact Kd.V_nil _ _ _ _ _ | exact Kd.Q_nil _ _ _ _ _ | exact Kd.S_nil _ _ _ _ _⟩, ⟨kz BK248⟩, ⟨hz HB⟩⟩
  case round =>
   clear H'
   try clear c3
   try clear c3b0
   try clear c3b1
   try clear hcz5_0
   try clear hcz5_1
   try clear hcz5_2
   try clear hcz7_0
   try clear hcz7_1
   try clear hcz7_2
   try clear hfz5_0
   try clear hfz5_1
   try clear hfz5_2
   try clear hfz7_0
   try clear hfz7_1
   try clear hfz7_2
   obtain ⟨x5_1, x6_1, x20_1, rfl, rfl, HA, HK1, HO_5, BK248, HB⟩ := hrel
   cases gk with
   | zero => exact absurd HA.out (by simp [pixel_Rows.l0])
   | succ k1 =>
    have H := HA.out
    clear HA
    simp only [pixel_Rows.l0] at H
    by_cases c8 : x20_1 < a0_1
    ·rw [if_pos c8] at H
     have c8b0 : decide (x20_1 < a0_1) = true := decide_eq_true c8
     clear c8
     obtain ⟨ji9, hji9⟩ : ∃ j_ : Int, (wrap64 ((wrap64 (8 * a0_0)) * x20_1)) = j_ := ⟨_, rfl⟩
     replace H : (if 0 ≤ (ji9) then (if (ji9) ≤ (wrap64 ((wrap64 (8 * a0_0)) * (wrap64 (x20_1 + 1)))) then (if (wrap64 ((wrap64 (8 * a0_0)) * (wrap64 (x20_1 + 1)))) ≤ (a0_2.size : Int) then ((filter_Pick.f k1 8 (a0_2.extract ((ji9) : Int).toNat ((wrap64 ((wrap64 (8 * a0_0)) * (wrap64 (x20_1 + 1)))) : Int).toNat) x6_1).bind fun bt250 => ((filter_Do.f k1 8 bt250.1 (a0_2.extract ((ji9) : Int).toNat ((wrap64 ((wrap64 (8 * a0_0)) * (wrap64 (x20_1 + 1)))) : Int).toNat) x6_1).bind fun bt252 => (if x5_1.length < 140737488355328 then ((some (x5_1 ++ [(bt250.1) % 256] : List Int)).bind fun y254 => (if y254.length + bt252.1.size < 140737488355328 then (pixel_Rows.l0 k1 (y254 ++ bytesOf bt252.1) (a0_2.extract ((ji9) : Int).toNat ((wrap64 ((wrap64 (8 * a0_0)) * (wrap64 (x20_1 + 1)))) : Int).toNat) a0_1 (wrap64 (x20_1 + 1)) a0_0 a0_1 a0_2) else (none))) else (none)))) else (none)) else (none)) else (none)) = some (r1, r2) := by first | (rw [hji9] at H; exact H) | (simp only [hji9] at H ⊢; exact H)
     have hji9w : (IntKind.i64.wrap ((wrap64 (8 * a0_0)) * x20_1)) = ji9 := (i64_w _).trans hji9
     by_cases c10 : 0 ≤ (ji9)
     ·rw [if_pos c10] at H
      have c10b0 := eq_true c10
      have c10b1 : decide (0 ≤ (ji9)) = true := decide_eq_true c10
      clear c10
      by_cases c11 : (ji9) ≤ (wrap64 ((wrap64 (8 * a0_0)) * (wrap64 (x20_1 + 1))))
      ·rw [if_pos c11] at H
       have c11b0 := eq_true c11
       have c11b1 : decide ((ji9) ≤ (wrap64 ((wrap64 (8 * a0_0)) * (wrap64 (x20_1 + 1))))) = true := decide_eq_true c11
       by_cases c12 : (wrap64 ((wrap64 (8 * a0_0)) * (wrap64 (x20_1 + 1)))) ≤ (a0_2.size : Int)
       ·rw [if_pos c12] at H
        have c12b0 := eq_true c12
        have c12b1 : decide ((wrap64 ((wrap64 (8 * a0_0)) * (wrap64 (x20_1 + 1)))) ≤ (a0_2.size : Int)) = true := decide_eq_true c12
        replace H := Option.bind_eq_some_iff.mp H
        obtain ⟨⟨t250, t251⟩, A130, H⟩ := H
        replace H : ((filter_Do.f k1 8 t250 (a0_2.extract ((ji9) : Int).toNat ((wrap64 ((wrap64 (8 * a0_0)) * (wrap64 (x20_1 + 1)))) : Int).toNat) x6_1).bind fun bt252 => (if x5_1.length < 140737488355328 then ((some (x5_1 ++ [(t250) % 256] : List Int)).bind fun y254 => (if y254.length + bt252.1.size < 140737488355328 then (pixel_Rows.l0 k1 (y254 ++ bytesOf bt252.1) (a0_2.extract ((ji9) : Int).toNat ((wrap64 ((wrap64 (8 * a0_0)) * (wrap64 (x20_1 + 1)))) : Int).toNat) a0_1 (wrap64 (x20_1 + 1)) a0_0 a0_1 a0_2) else (none))) else (none))) = some (r1, r2) := H
        have A13 := Aside0.mk A130
        clear A130
        replace H := Option.bind_eq_some_iff.mp H
        obtain ⟨⟨t252, t253⟩, A140, H⟩ := H
        replace H : (if x5_1.length < 140737488355328 then ((some (x5_1 ++ [(t250) % 256] : List Int)).bind fun y254 => (if y254.length + t252.size < 140737488355328 then (pixel_Rows.l0 k1 (y254 ++ bytesOf t252) (a0_2.extract ((ji9) : Int).toNat ((wrap64 ((wrap64 (8 * a0_0)) * (wrap64 (x20_1 + 1)))) : Int).toNat) a0_1 (wrap64 (x20_1 + 1)) a0_0 a0_1 a0_2) else (none))) else (none)) = some (r1, r2) := H
        have A14 := Aside0.mk A140
        clear A140
        by_cases c15 : x5_1.length < 140737488355328
        ·rw [if_pos c15] at H
         have LMc15 := Aside0.mk c15
         clear c15
         obtain ⟨y254, hy254⟩ : ∃ y_ : List Int, y_ = (x5_1 ++ [(t250) % 256]) := ⟨_, rfl⟩
         replace H : (if y254.length + t252.size < 140737488355328 then (pixel_Rows.l0 k1 (y254 ++ bytesOf t252) (a0_2.extract ((ji9) : Int).toNat ((wrap64 ((wrap64 (8 * a0_0)) * (wrap64 (x20_1 + 1)))) : Int).toNat) a0_1 (wrap64 (x20_1 + 1)) a0_0 a0_1 a0_2) else (none)) = some (r1, r2) := by first | (rw [hy254]; with_reducible exact H) | (have H2_ := (Option.bind_some _ _).symm.trans H; rw [hy254]; with_reducible exact H2_) | (have H2_ := (Option.bind_some _ _).symm.trans H; with_reducible exact H2_) | with_reducible exact H | (rw [hy254]; exact H) | exact H
         have Ny254 := Aside0.mk hy254
         clear hy254
         by_cases c16 : y254.length + t252.size < 140737488355328
         ·rw [if_pos c16] at H
          have LMc16 := Aside0.mk c16
          clear c16
          obtain ⟨y257, hy257⟩ : ∃ y_ : List Int, y_ = (y254 ++ bytesOf t252) := ⟨_, rfl⟩
          replace H : (pixel_Rows.l0 k1 y257 (a0_2.extract ((ji9) : Int).toNat ((wrap64 ((wrap64 (8 * a0_0)) * (wrap64 (x20_1 + 1)))) : Int).toNat) a0_1 (wrap64 (x20_1 + 1)) a0_0 a0_1 a0_2) = some (r1, r2) := by first | (rw [hy257]; with_reducible exact H) | (have H2_ := (Option.bind_some _ _).symm.trans H; rw [hy257]; with_reducible exact H2_) | (have H2_ := (Option.bind_some _ _).symm.trans H; with_reducible exact H2_) | with_reducible exact H | (rw [hy257]; exact H) | exact H
          have Ny257 := Aside0.mk hy257
          clear hy257
          have H' := Aside0.mk H
          clear H
          have hcz17_0 : wr.cell? ⟨gb248, 0, none⟩ = some (.int .i64 a0_0) := (blk_cell BK248.out 0).trans rfl
          have hcz17_1 : wr.cell? ⟨gb248, 1, none⟩ = some (.int .i64 a0_1) := (blk_cell BK248.out 1).trans rfl
          have hcz17_2 : wr.cell? ⟨gb248, 2, none⟩ = some (.string a0_2) := (blk_cell BK248.out 2).trans rfl
          have hfz17_0 := blk_frozen BK248.out 0
          have hfz17_1 := blk_frozen BK248.out 1
          have hfz17_2 := blk_frozen BK248.out 2
          go_wp2_with (first | ((with_reducible refine gate_callee (f := 31) rfl ?_); refine goesL_ (some 40) rfl rfl Try.func31 (by kernel_rfl) rfl #[.int .i64 8, .string (a0_2.extract ((ji9) : Int).toNat ((wrap64 ((wrap64 (8 * a0_0)) * (wrap64 (x20_1 + 1)))) : Int).toNat), .string x6_1] rfl (by (try simp only [List.map_toArray, List.map_cons, List.map_nil]); first | done | (simp only [hji9]; rfl) | rfl | (simp only [List.length_drop, List.length_take]; rfl) | (simp only [ByteArray.size_extract, Nat.min_self]; done) | (simp only [ByteArray.size_extract, Nat.min_self]; rfl)) ?_; (with_reducible refine (filter_Pick.calls k1 8 (a0_2.extract ((ji9) : Int).toNat ((wrap64 ((wrap64 (8 * a0_0)) * (wrap64 (x20_1 + 1)))) : Int).toNat) x6_1 t250 t251 _ A13.out).mono ?_); rintro e w18 ⟨rfl, hb⟩; refine ⟨_, rfl, ?_⟩; have n0_ := Aside0.mk (Kd.R_below (oz HO_5) hb); have n1_ := Aside0.mk (blk_below (g := gb248) (o := .cells #[.int .i64 a0_0, .int .i64 a0_1, .string a0_2] 23 (0, 0)) (kz BK248) hb); have n2_ := Aside0.mk (below_step (hz HB) hb); clear HO_5; clear BK248; clear HB; have HO_5 := n0_; have BK248 := n1_; have HB := n2_; clear n0_ n1_ n2_; (try clear hb); (try clear hb2); (try clear hk); (try clear hi)) | ((with_reducible refine gate_callee (f := 32) rfl ?_); refine goesL_ (some 47) rfl rfl Try.func32 (by kernel_rfl) rfl #[.int .i64 8, .int .i64 t250, .string (a0_2.extract ((ji9) : Int).toNat ((wrap64 ((wrap64 (8 * a0_0)) * (wrap64 (x20_1 + 1)))) : Int).toNat), .string x6_1] rfl (by (try simp only [List.map_toArray, List.map_cons, List.map_nil]); first | done | (simp only [hji9]; rfl) | rfl | (simp only [List.length_drop, List.length_take]; rfl) | (simp only [ByteArray.size_extract, Nat.min_self]; done) | (simp only [ByteArray.size_extract, Nat.min_self]; rfl)) ?_; (with_reducible refine (filter_Do.calls k1 8 t250 (a0_2.extract ((ji9) : Int).toNat ((wrap64 ((wrap64 (8 * a0_0)) * (wrap64 (x20_1 + 1)))) : Int).toNat) x6_1 t252 t253 _ A14.out).mono ?_); rintro e w19 ⟨rfl, hb⟩; refine ⟨_, rfl, ?_⟩; have n0_ := Aside0.mk (Kd.R_below (oz HO_5) hb); have n1_ := Aside0.mk (blk_below (g := gb248) (o := .cells #[.int .i64 a0_0, .int .i64 a0_1, .string a0_2] 23 (0, 0)) (kz BK248) hb); have n2_ := Aside0.mk (below_step (hz HB) hb); clear HO_5; clear BK248; clear HB; have HO_5 := n0_; have BK248 := n1_; have HB := n2_; clear n0_ n1_ n2_; (try clear hb); (try clear hb2); (try clear hk); (try clear hi)) | ((with_reducible refine gate_builtin (b := .append) (xs := #[.tmp 50, .tmp 53]) rfl ?_); at_builtin; refine Kd.R_append (Kd.int .u8) (w0 := w) w.heap.size rfl (.tmp 50) (.tmp 53) 45 5 (.int .u8 0) 1 rfl Try.underlying45 info5 rfl (by decide) (by omega) u5 x5_1 ((t250) % 256) [.int .u8 ((t250) % 256)] (fun _ => True) (fun _ => False) rfl rfl ?aP (fun _ hk => hk.elim) ?aF ?aO ?aB ?aS ?aL ?_; (case aP => exact rfl); (case aB => exact (hz HB)); (case aF => exact (fun _ _ => trivial)); (case aO => exact (oz HO_5)); (case aS => exact (below_size (hz HB))); (case aL => have := LMc15.out; omega); intro v255 w20 ho hb hg hat; rw [← Ny254.out] at ho; have n0_ := Aside0.mk (blk_grown (g := gb248) (o := .cells #[.int .i64 a0_0, .int .i64 a0_1, .string a0_2] 23 (0, 0)) (kz BK248) hg (Kd.R_ne HO_5.out BK248.out (by decide))); have n1_ := Aside0.mk (hb); have n2_ := Aside0.mk (ho); clear BK248; clear HB; clear HO_5; have BK248 := n0_; have HB := n1_; have HO256 := n2_; clear n0_ n1_ n2_; clear ho hb hg hat) | (at_builtin; refine print_append_str (w0 := w) w.heap.size rfl (.tmp 55) _ 45 9 5 rfl Try.underlying45 Try.underlying9 info5 v255 y254 t252 rfl rfl ?aO ?aB ?aS ?aL ?_; (case aB => exact (hz HB)); (case aO => exact (Kd.own_of_R (oz HO256))); (case aS => exact (below_size (hz HB))); (case aL => have := LMc16.out; omega); intro v258 w21 ho0 hb hg; have ho := Kd.R_of_own (h1 := fun _ => rfl) (ok := fun _ => True) ho0 (fun _ _ => trivial); clear ho0; have hat := True.intro; rw [← Ny257.out] at ho; change Kd.R (Kd.int .u8) 5 w21 w.heap.size (fun _ => True) v258 y257 at ho; have n0_ := Aside0.mk (blk_grown (g := gb248) (o := .cells #[.int .i64 a0_0, .int .i64 a0_1, .string a0_2] 23 (0, 0)) (kz BK248) hg (Kd.R_ne HO256.out BK248.out (by decide))); have n1_ := Aside0.mk (hb); have n2_ := Aside0.mk (ho); clear BK248; clear HB; clear HO256; have BK248 := n0_; have HB := n1_; have HO259 := n2_; clear n0_ n1_ n2_; clear ho hb hg hat))
          go_roundg k1
          case measure => have := HK1.out; omega
          case rel => exact ⟨(y257), (a0_2.extract ((ji9) : Int).toNat ((wrap64 ((wrap64 (8 * a0_0)) * (wrap64 (x20_1 + 1)))) : Int).toNat), (wrap64 (x20_1 + 1)), (by first | rfl | (simp; done) | (simp only [← hji9] <;> (first | rfl | simp)) | (simp [*]; done)), (by first | rfl | (simp; done) | (simp [*]; done)), H', ⟨by have := HK1.out; omega⟩, ⟨oz HO259⟩, ⟨kz BK248⟩, ⟨hz HB⟩⟩
         ·rw [if_neg c16] at H
          exact absurd H (by simp)
        ·rw [if_neg c15] at H
         exact absurd H (by simp)
       ·rw [if_neg c12] at H
        exact absurd H (by simp)
      ·rw [if_neg c11] at H
       exact absurd H (by simp)
     ·rw [if_neg c10] at H
      exact absurd H (by simp)
    ·rw [if_neg c8] at H
     have c8b0 : decide (x20_1 < a0_1) = false := decide_eq_false c8
     clear c8
     simp only [Option.some.injEq, Prod.mk.injEq] at H
     obtain ⟨rfl, rfl⟩ := H
     have hcv22 := own_string (P := Try.prog) Try.underlying45 Try.underlying5 Try.underlying9 (Kd.own_of_R HO_5.out)
     go_wp2
     go_ret2
     exact ⟨by first | rfl | (simp [errW_none, errW_some] <;> rfl) | (simp [*, errW_none, errW_some] <;> rfl), by repeat (first | (with_reducible first | exact HB.out | apply below_alloc | apply pw_below_drewN | apply below_drew1 | refine below_set ?_ GE248.out) | exact HB.out)⟩
 ·rw [if_neg c3] at H
  have c3b0 : (t249 == 0) = false := beq_eq_false_iff_ne.mpr c3
  have c3b1 : (t249 != 0) = true := bne_iff_ne.mpr c3
  simp only [Option.some.injEq, Prod.mk.injEq] at H
  obtain ⟨rfl, rfl⟩ := H
  go_enter Try.func13, Try.ntmps13
  go_wp2_with (first | ((with_reducible refine gate_dst (N := 1) rfl ?_); refine box_event ?hg (N := 1) ?hd (cs := #[.int .i64 a0_0, .int .i64 a0_1, .string a0_2]) (t := 23) ?hr ?_; (case hd => rfl); (case hg => rfl); (case hr => first | (go_simp; done) | (go_simp; rfl)); intro gb248 hg w23 hbox hb; have n0_ := Aside0.mk (below_step (hz HB) hb); have n1_ := Aside0.mk (hbox); have n2_ := Aside0.mk ((by rw [hg]; exact (below_size (hz HB)) : w.heap.size ≤ gb248)); have n3_ := Aside0.mk ((by rw [hg]; exact (below_size (hz HB)) : w.heap.size ≤ gb248)); clear HB; have HB := n0_; have BK248 := n1_; have GW248 := n2_; have GE248 := n3_; clear n0_ n1_ n2_ n3_; clear hb hbox hg; have hcz24_0 : w23.cell? ⟨gb248, 0, none⟩ = some (.int .i64 a0_0) := (blk_cell BK248.out 0).trans rfl; have hcz24_1 : w23.cell? ⟨gb248, 1, none⟩ = some (.int .i64 a0_1) := (blk_cell BK248.out 1).trans rfl; have hcz24_2 : w23.cell? ⟨gb248, 2, none⟩ = some (.string a0_2) := (blk_cell BK248.out 2).trans rfl; have hfz24_0 := blk_frozen BK248.out 0; have hfz24_1 := blk_frozen BK248.out 1; have hfz24_2 := blk_frozen BK248.out 2) | ((with_reducible refine gate_callee (f := 8) rfl ?_); refine gz 14 Try.func8 #[.agg #[.int .i64 a0_0, .int .i64 a0_1, .string a0_2]] ?_; (with_reducible refine (pixel_Check.calls k a0_0 a0_1 a0_2 t249 _ A2.out).mono ?_); rintro e w25 ⟨rfl, hb⟩; refine ⟨_, rfl, ?_⟩; have n0_ := Aside0.mk (blk_below (g := gb248) (o := .cells #[.int .i64 a0_0, .int .i64 a0_1, .string a0_2] 23 (0, 0)) (kz BK248) hb); have n1_ := Aside0.mk (below_step (hz HB) hb); clear BK248; clear HB; have BK248 := n0_; have HB := n1_; clear n0_ n1_; (try clear hb); (try clear hb2); (try clear hk); (try clear hi)))
  go_ret2
  exact ⟨by first | rfl | (simp [errW_none, errW_some] <;> rfl) | (simp [*, errW_none, errW_some] <;> rfl), by repeat (first | (with_reducible first | exact HB.out | apply below_alloc | apply pw_below_drewN | apply below_drew1 | refine below_set ?_ GE248.out) | exact HB.out)⟩

end Go.Proofs.Ytejljcglbkjgkaa.PL12
