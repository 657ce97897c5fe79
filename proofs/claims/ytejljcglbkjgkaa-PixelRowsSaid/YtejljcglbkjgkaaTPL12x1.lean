/- Printed for this claim by a program of this session over the kit's print program: the Go functions as Lean functions, and proofs that the calls come to these answers. No conditions. -/
import Derived.Test.YtejljcglbkjgkaaTH
import Derived.Test.YtejljcglbkjgkaaTPL12x3
import Derived.Test.YtejljcglbkjgkaaTPL12x8
import Derived.Test.YtejljcglbkjgkaaTPL12x20
namespace Go.Proofs.Ytejljcglbkjgkaa.PL12
open Go.RowKit Go.Proofs.YtejljcglbkjgkaaW.PrintWords Go.Proofs.YtejljcglbkjgkaaW.PrintLast Go.Proofs.YtejljcglbkjgkaaW.PrintMore
attribute [local go_sem] max2_int min2_int max_two min_two max_three min_three max_four min_four   -- for this text's walks alone
set_option linter.unusedVariables false
set_option linter.unusedSimpArgs false

def pixel_Rows.l0 : Nat → List Int → ByteArray → Int → Int → Int → Int → ByteArray → Option (ByteArray × Int)
 | 0, _, _, _, _, _, _, _ => none
 | k + 1, x5, x6, x19, x20, x249000, x249001, x249002 => if x20 < x19 then (if 0 ≤ (wrap64 ((wrap64 (8 * x249000)) * x20)) then (if (wrap64 ((wrap64 (8 * x249000)) * x20)) ≤ (wrap64 ((wrap64 (8 * x249000)) * (wrap64 (x20 + 1)))) then (if (wrap64 ((wrap64 (8 * x249000)) * (wrap64 (x20 + 1)))) ≤ (x249002.size : Int) then ((filter_Pick.f k 8 (x249002.extract ((wrap64 ((wrap64 (8 * x249000)) * x20)) : Int).toNat ((wrap64 ((wrap64 (8 * x249000)) * (wrap64 (x20 + 1)))) : Int).toNat) x6).bind fun bt250 => ((filter_Do.f k 8 bt250.1 (x249002.extract ((wrap64 ((wrap64 (8 * x249000)) * x20)) : Int).toNat ((wrap64 ((wrap64 (8 * x249000)) * (wrap64 (x20 + 1)))) : Int).toNat) x6).bind fun bt252 => (if x5.length < 140737488355328 then ((some (x5 ++ [(bt250.1) % 256] : List Int)).bind fun y254 => (if y254.length + bt252.1.size < 140737488355328 then (pixel_Rows.l0 k (y254 ++ bytesOf bt252.1) (x249002.extract ((wrap64 ((wrap64 (8 * x249000)) * x20)) : Int).toNat ((wrap64 ((wrap64 (8 * x249000)) * (wrap64 (x20 + 1)))) : Int).toNat) x19 (wrap64 (x20 + 1)) x249000 x249001 x249002) else (none))) else (none)))) else (none)) else (none)) else (none)) else (some (strOfNums x5, 0))
def pixel_Rows.f (k : Nat) (a0_0 : Int) (a0_1 : Int) (a0_2 : ByteArray) : Option (ByteArray × Int) := (pixel_Check.f k a0_0 a0_1 a0_2).bind fun t249 => (if t249 = 0 then (pixel_Rows.l0 k ([] : List Int) (⟨#[]⟩ : ByteArray) a0_1 0 a0_0 a0_1 a0_2) else (some ((⟨#[]⟩ : ByteArray), t249)))
theorem pixel_Rows.mono_l : ∀ k, (∀ y0 y1 y2 y3 y4 y5 y6, LeO (pixel_Rows.l0 k y0 y1 y2 y3 y4 y5 y6) (pixel_Rows.l0 (k + 1) y0 y1 y2 y3 y4 y5 y6))
 | 0 => fun _ _ _ _ _ _ _ r h => by simp [pixel_Rows.l0] at h
 | k + 1 => by
  have ih0 := pixel_Rows.mono_l k
  ·intro y0 y1 y2 y3 y4 y5 y6
   unfold pixel_Rows.l0
   repeat' first
   | (with_reducible exact ih0 _ _ _ _ _ _ _)
   | (with_reducible exact filter_Do.mono _ _ _ _ _)
   | (with_reducible exact filter_Pick.mono _ _ _ _)
   | (with_reducible exact pixel_Check.mono _ _ _ _)
   | (with_reducible exact LeO.refl _)
   | (with_reducible exact LeO.none _)
   | (with_reducible refine LeO.ite ?_ ?_)
   | (with_reducible refine LeO.bind ?_ (fun _ => ?_))
   | exact ih0 _ _ _ _ _ _ _
   | exact filter_Do.mono _ _ _ _ _
   | exact filter_Pick.mono _ _ _ _
   | exact pixel_Check.mono _ _ _ _
   | exact LeO.none _
   | refine LeO.ite ?_ ?_
   | refine LeO.bind ?_ (fun _ => ?_)
theorem pixel_Rows.mono : ∀ a0 a1 a2 k, LeO (pixel_Rows.f k a0 a1 a2) (pixel_Rows.f (k + 1) a0 a1 a2) := by
 intro a0 a1 a2 k
 have ih0 := pixel_Rows.mono_l k
 unfold pixel_Rows.f
 repeat' first
   | (with_reducible exact ih0 _ _ _ _ _ _ _)
   | (with_reducible exact filter_Do.mono _ _ _ _ _)
   | (with_reducible exact filter_Pick.mono _ _ _ _)
   | (with_reducible exact pixel_Check.mono _ _ _ _)
   | (with_reducible exact LeO.refl _)
   | (with_reducible exact LeO.none _)
   | (with_reducible refine LeO.ite ?_ ?_)
   | (with_reducible refine LeO.bind ?_ (fun _ => ?_))
   | exact ih0 _ _ _ _ _ _ _
   | exact filter_Do.mono _ _ _ _ _
   | exact filter_Pick.mono _ _ _ _
   | exact pixel_Check.mono _ _ _ _
   | exact LeO.none _
   | refine LeO.ite ?_ ?_
   | refine LeO.bind ?_ (fun _ => ?_)
set_option maxHeartbeats 40000000 in
set_option maxRecDepth 100000 in
theorem pixel_Rows.calls (k : Nat) (a0_0 : Int) (a0_1 : Int) (a0_2 : ByteArray) (r1 : ByteArray) (r2 : Int) (w : World) (h : pixel_Rows.f k a0_0 a0_1 a0_2 = some (r1, r2)) :
  Calls Try.prog 13 #[.agg #[.int .i64 a0_0, .int .i64 a0_1, .string a0_2]] w fun e w' => e = .returned (.tuple #[.string r1, .int .i64 r2]) ∧ Below w.heap.size w w' := by
 have hu23 := Try.underlying23
 have HB := Aside0.mk (Below.refl w.heap.size w)
 have H : ((pixel_Check.f k a0_0 a0_1 a0_2).bind fun t249 => (if t249 = 0 then (pixel_Rows.l0 k ([] : List Int) (⟨#[]⟩ : ByteArray) a0_1 0 a0_0 a0_1 a0_2) else (some ((⟨#[]⟩ : ByteArray), t249)))) = some (r1, r2) := h
 clear h
 replace H := Option.bind_eq_some_iff.mp H
 obtain ⟨t249, A20, H⟩ := H
 replace H : (if t249 = 0 then (pixel_Rows.l0 k ([] : List Int) (⟨#[]⟩ : ByteArray) a0_1 0 a0_0 a0_1 a0_2) else (some ((⟨#[]⟩ : ByteArray), t249))) = some (r1, r2) := H
 have A2 := Aside0.mk A20
 clear A20
 by_cases c3 : t249 = 0
 ·rw [if_pos c3] at H
  have c3b0 : (t249 == 0) = true := beq_iff_eq.mpr c3
  have c3b1 : (t249 != 0) = false := bne_eq_false_iff_eq.mpr c3
  clear c3
  have H' := Aside0.mk H
  clear H
  go_enter Try.func13, Try.ntmps13
  go_wp2_with (first | ((with_reducible refine gate_dst (N := 1) rfl ?_); refine box_event ?hg (N := 1) ?hd (cs := #[.int .i64 a0_0, .int .i64 a0_1, .string a0_2]) (t := 23) ?hr ?_; (case hd => rfl); (case hg => rfl); (case hr => first | (go_simp; done) | (go_simp; rfl)); intro gb248 hg w4 hbox hb; have n0_ := Aside0.mk (below_step (by repeat (first | (with_reducible first | exact HB.out | apply below_alloc | apply pw_below_drewN | apply below_drew1) | exact HB.out)) hb); have n1_ := Aside0.mk (hbox); have n2_ := Aside0.mk ((by rw [hg]; exact (below_size (by repeat (first | (with_reducible first | exact HB.out | apply below_alloc | apply pw_below_drewN | apply below_drew1) | exact HB.out))) : w.heap.size ≤ gb248)); have n3_ := Aside0.mk ((by rw [hg]; exact (below_size (by repeat (first | (with_reducible first | exact HB.out | apply below_alloc | apply pw_below_drewN | apply below_drew1) | exact HB.out))) : w.heap.size ≤ gb248)); clear HB; have HB := n0_; have BK248 := n1_; have GW248 := n2_; have GE248 := n3_; clear n0_ n1_ n2_ n3_; clear hb hbox hg; have hcz5_0 : w4.cell? ⟨gb248, 0, none⟩ = some (.int .i64 a0_0) := (blk_cell BK248.out 0).trans rfl; have hcz5_1 : w4.cell? ⟨gb248, 1, none⟩ = some (.int .i64 a0_1) := (blk_cell BK248.out 1).trans rfl; have hcz5_2 : w4.cell? ⟨gb248, 2, none⟩ = some (.string a0_2) := (blk_cell BK248.out 2).trans rfl; have hfz5_0 := blk_frozen BK248.out 0; have hfz5_1 := blk_frozen BK248.out 1; have hfz5_2 := blk_frozen BK248.out 2) | ((with_reducible refine gate_callee (f := 8) rfl ?_); refine goesL_ (some 14) rfl rfl Try.func8 (by kernel_rfl) rfl #[.agg #[.int .i64 a0_0, .int .i64 a0_1, .string a0_2]] rfl (by (try simp only [List.map_toArray, List.map_cons, List.map_nil]); first | done | rfl | (simp only [List.length_drop, List.length_take]; rfl) | (simp only [ByteArray.size_extract, Nat.min_self]; done) | (simp only [ByteArray.size_extract, Nat.min_self]; rfl)) ?_; (with_reducible refine (pixel_Check.calls k a0_0 a0_1 a0_2 t249 _ A2.out).mono ?_); rintro e w6 ⟨rfl, hb⟩; refine ⟨_, rfl, ?_⟩; have n0_ := Aside0.mk (blk_below (g := gb248) (o := .cells #[.int .i64 a0_0, .int .i64 a0_1, .string a0_2] 23 (0, 0)) (by (with_reducible repeat (first | refine blk_drewN ?_ _ | refine blk_drew ?_ | refine blk_alloc ?_ _)); exact BK248.out) hb); have n1_ := Aside0.mk (below_step (by repeat (first | (with_reducible first | exact HB.out | apply below_alloc | apply pw_below_drewN | apply below_drew1 | refine below_set ?_ GE248.out) | exact HB.out)) hb); clear BK248; clear HB; have BK248 := n0_; have HB := n1_; clear n0_ n1_; (try clear hb); (try clear hb2); (try clear hk); (try clear hi); have hcz7_0 : w6.cell? ⟨gb248, 0, none⟩ = some (.int .i64 a0_0) := (blk_cell BK248.out 0).trans rfl; have hcz7_1 : w6.cell? ⟨gb248, 1, none⟩ = some (.int .i64 a0_1) := (blk_cell BK248.out 1).trans rfl; have hcz7_2 : w6.cell? ⟨gb248, 2, none⟩ = some (.string a0_2) := (blk_cell BK248.out 2).trans rfl; have hfz7_0 := blk_frozen BK248.out 0; have hfz7_1 := blk_frozen BK248.out 1; have hfz7_2 := blk_frozen BK248.out 2))
  go_loopg [5, 6, 20] k (fun kq v5 v6 v20 w' => ∃ (x5_1 : List Int) (x6_1 : ByteArray) (x20_1 : Int), v6 = .string x6_1 ∧ v20 = .int .i64 x20_1 ∧ Aside0 (pixel_Rows.l0 kq x5_1 x6_1 a0_1 x20_1 a0_0 a0_1 a0_2 = some (r1, r2)) ∧ Aside0 (kq ≤ k) ∧ Aside0 (Kd.R (Kd.int .u8) 5 w' w.heap.size (fun _ => True) v5 x5_1) ∧ Aside0 (w'.heap[gb248]? = some (.cells #[.int .i64 a0_0, .int .i64 a0_1, .string a0_2] 23 (0, 0))) ∧ Aside0 (Below w.heap.size w w'))
  case atStart => exact ⟨(([] : List Int)), ((⟨#[]⟩ : ByteArray)), (0), (by first | rfl | (simp; done) | (simp [*]; done)), (by first | rfl | (simp; done) | (simp [*]; done)), H', ⟨Nat.le_refl _⟩, ⟨by first | exact Kd.R_nil _ _ _ _ _ | exact Kd.N_nil _ _ _ _ _ | exact Kd.V_nil _ _ _ _ _ | exact Kd.Q_nil _ _ _ _ _ | exact Kd.S_nil _ _ _ _ _⟩, ⟨by (with_reducible repeat (first | refine blk_drewN ?_ _ | refine blk_drew ?_ | refine blk_alloc ?_ _)); exact BK248.out⟩, ⟨by repeat (first | (with_reducible first | exact HB.out | apply below_alloc | apply pw_below_drewN | apply below_drew1 | refine below_set ?_ GE248.out) | exact HB.out)⟩⟩
  case round =>
   clear H'
   try clear c1
   try clear p2
   try clear c3
   try clear c3b0
   try clear c3b1
   try clear hcz5_0
   try clear hcz5_1
   try clear hcz5_2
   try clear hcz7_0
   try clear hcz7_1
   try clear hcz7_2
   try clear hfz5_0
   try clear hfz5_1
   try clear hfz5_2
   try clear hfz7_0
   try clear hfz7_1
   try clear hfz7_2
   obtain ⟨x5_1, x6_1, x20_1, rfl, rfl, HA, HK1, HO_5, BK248, HB⟩ := hrel
   cases gk with
   | zero => exact absurd HA.out (by simp [pixel_Rows.l0])
   | succ k1 =>
    have H := HA.out
    clear HA
    simp only [pixel_Rows.l0] at H
    by_cases c8 : x20_1 < a0_1
    ·rw [if_pos c8] at H
     have c8b0 : decide (x20_1 < a0_1) = true := decide_eq_true c8
     clear c8
     obtain ⟨ji9, hji9⟩ : ∃ j_ : Int, (wrap64 ((wrap64 (8 * a0_0)) * x20_1)) = j_ := ⟨_, rfl⟩
     replace H : (if 0 ≤ (ji9) then (if (ji9) ≤ (wrap64 ((wrap64 (8 * a0_0)) * (wrap64 (x20_1 + 1)))) then (if (wrap64 ((wrap64 (8 * a0_0)) * (wrap64 (x20_1 + 1)))) ≤ (a0_2.size : Int) then ((filter_Pick.f k1 8 (a0_2.extract ((ji9) : Int).toNat ((wrap64 ((wrap64 (8 * a0_0)) * (wrap64 (x20_1 + 1)))) : Int).toNat) x6_1).bind fun bt250 => ((filter_Do.f k1 8 bt250.1 (a0_2.extract ((ji9) : Int).toNat ((wrap64 ((wrap64 (8 * a0_0)) * (wrap64 (x20_1 + 1)))) : Int).toNat) x6_1).bind fun bt252 => (if x5_1.length < 140737488355328 then ((some (x5_1 ++ [(bt250.1) % 256] : List Int)).bind fun y254 => (if y254.length + bt252.1.size < 140737488355328 then (pixel_Rows.l0 k1 (y254 ++ bytesOf bt252.1) (a0_2.extract ((ji9) : Int).toNat ((wrap64 ((wrap64 (8 * a0_0)) * (wrap64 (x20_1 + 1)))) : Int).toNat) a0_1 (wrap64 (x20_1 + 1)) a0_0 a0_1 a0_2) else (none))) else (none)))) else (none)) else (none)) else (none)) = some (r1, r2) := by first | (rw [hji9] at H; exact H) | (simp only [hji9] at H ⊢; exact H)
     have hji9w : (IntKind.i64.wrap ((wrap64 (8 * a0_0)) * x20_1)) = ji9 := (i64_w _).trans hji9
     by_cases c10 : 0 ≤ (ji9)
     ·rw [if_pos c10] at H
      have c10b0 := eq_true c10
      have c10b1 : decide (0 ≤ (ji9)) = true := decide_eq_true c10
      clear c10
      by_cases c11 : (ji9) ≤ (wrap64 ((wrap64 (8 * a0_0)) * (wrap64 (x20_1 + 1))))
      ·rw [if_pos c11] at H
       have c11b0 := eq_true c11
       have c11b1 : decide ((ji9) ≤ (wrap64 ((wrap64 (8 * a0_0)) * (wrap64 (x20_1 + 1))))) = true := decide_eq_true c11
       by_cases c12 : (wrap64 ((wrap64 (8 * a0_0)) * (wrap64 (x20_1 + 1)))) ≤ (a0_2.size : Int)
       ·rw [if_pos c12] at H
        have c12b0 := eq_true c12
        have c12b1 : decide ((wrap64 ((wrap64 (8 * a0_0)) * (wrap64 (x20_1 + 1)))) ≤ (a0_2.size : Int)) = true := decide_eq_true c12
        replace H := Option.bind_eq_some_iff.mp H
        obtain ⟨⟨t250, t251⟩, A130, H⟩ := H
        replace H : ((filter_Do.f k1 8 t250 (a0_2.extract ((ji9) : Int).toNat ((wrap64 ((wrap64 (8 * a0_0)) * (wrap64 (x20_1 + 1)))) : Int).toNat) x6_1).bind fun bt252 => (if x5_1.length < 140737488355328 then ((some (x5_1 ++ [(t250) % 256] : List Int)).bind fun y254 => (if y254.length + bt252.1.size < 140737488355328 then (pixel_Rows.l0 k1 (y254 ++ bytesOf bt252.1) (a0_2.extract ((ji9) : Int).toNat ((wrap64 ((wrap64 (8 * a0_0)) * (wrap64 (x20_1 + 1)))) : Int).toNat) a0_1 (wrap64 (x20_1 + 1)) a0_0 a0_1 a0_2) else (none))) else (none))) = some (r1, r2) := H
        have A13 := Aside0.mk A130
        clear A130
        replace H := Option.bind_eq_some_iff.mp H
        obtain ⟨⟨t252, t253⟩, A140, H⟩ := H
        replace H : (if x5_1.length < 140737488355328 then ((some (x5_1 ++ [(t250) % 256] : List Int)).bind fun y254 => (if y254.length + t252.size < 140737488355328 then (pixel_Rows.l0 k1 (y254 ++ bytesOf t252) (a0_2.extract ((ji9) : Int).toNat ((wrap64 ((wrap64 (8 * a0_0)) * (wrap64 (x20_1 + 1)))) : Int).toNat) a0_1 (wrap64 (x20_1 + 1)) a0_0 a0_1 a0_2) else (none))) else (none)) = some (r1, r2) := H
        have A14 := Aside0.mk A140
        clear A140
        by_cases c15 : x5_1.length < 140737488355328
        ·rw [if_pos c15] at H
         have LMc15 := Aside0.mk c15
         clear c15
         obtain ⟨y254, hy254⟩ : ∃ y_ : List Int, y_ = (x5_1 ++ [(t250) % 256]) := ⟨_, rfl⟩
         replace H : (if y254.length + t252.size < 140737488355328 then (pixel_Rows.l0 k1 (y254 ++ bytesOf t252) (a0_2.extract ((ji9) : Int).toNat ((wrap64 ((wrap64 (8 * a0_0)) * (wrap64 (x20_1 + 1)))) : Int).toNat) a0_1 (wrap64 (x20_1 + 1)) a0_0 a0_1 a0_2) else (none)) = some (r1, r2) := by first | (rw [hy254]; with_reducible exact H) | (have H2_ := (Option.bind_some _ _).symm.trans H; rw [hy254]; with_reducible exact H2_) | (have H2_ := (Option.bind_some _ _).symm.trans H; with_reducible exact H2_) | with_reducible exact H | (rw [hy254]; exact H) | exact H
         have Ny254 := Aside0.mk hy254
         clear hy254
         by_cases c16 : y254.length + t252.size < 140737488355328
         ·rw [if_pos c16] at H
          have LMc16 := Aside0.mk c16
          clear c16
          obtain ⟨y257, hy257⟩ : ∃ y_ : List Int, y_ = (y254 ++ bytesOf t252) := ⟨_, rfl⟩
          replace H : (pixel_Rows.l0 k1 y257 (a0_2.extract ((ji9) : Int).toNat ((wrap64 ((wrap64 (8 * a0_0)) * (wrap64 (x20_1 + 1)))) : Int).toNat) a0_1 (wrap64 (x20_1 + 1)) a0_0 a0_1 a0_2) = some (r1, r2) := by first | (rw [hy257]; with_reducible exact H) | (have H2_ := (Option.bind_some _ _).symm.trans H; rw [hy257]; with_reducible exact H2_) | (have H2_ := (Option.bind_some _ _).symm.trans H; with_reducible exact H2_) | with_reducible exact H | (rw [hy257]; exact H) | exact H
          have Ny257 := Aside0.mk hy257
          clear hy257
          have H' := Aside0.mk H
          clear H
          have hcz17_0 : wr.cell? ⟨gb248, 0, none⟩ = some (.int .i64 a0_0) := (blk_cell BK248.out 0).trans rfl
          have hcz17_1 : wr.cell? ⟨gb248, 1, none⟩ = some (.int .i64 a0_1) := (blk_cell BK248.out 1).trans rfl
          have hcz17_2 : wr.cell? ⟨gb248, 2, none⟩ = some (.string a0_2) := (blk_cell BK248.out 2).trans rfl
          have hfz17_0 := blk_frozen BK248.out 0
          have hfz17_1 := blk_frozen BK248.out 1
          have hfz17_2 := blk_frozen BK248.out 2
          go_wp2_with (first | ((with_reducible refine gate_callee (f := 31) rfl ?_); refine goesL_ (some 40) rfl rfl Try.func31 (by kernel_rfl) rfl #[.int .i64 8, .string (a0_2.extract ((ji9) : Int).toNat ((wrap64 ((wrap64 (8 * a0_0)) * (wrap64 (x20_1 + 1)))) : Int).toNat), .string x6_1] rfl (by (try simp only [List.map_toArray, List.map_cons, List.map_nil]); first | done | (simp only [hji9]; rfl) | rfl | (simp only [List.length_drop, List.length_take]; rfl) | (simp only [ByteArray.size_extract, Nat.min_self]; done) | (simp only [ByteArray.size_extract, Nat.min_self]; rfl)) ?_; (with_reducible refine (filter_Pick.calls k1 8 (a0_2.extract ((ji9) : Int).toNat ((wrap64 ((wrap64 (8 * a0_0)) * (wrap64 (x20_1 + 1)))) : Int).toNat) x6_1 t250 t251 _ A13.out).mono ?_); rintro e w18 ⟨rfl, hb⟩; refine ⟨_, rfl, ?_⟩; have n0_ := Aside0.mk (Kd.R_below (by (with_reducible repeat (first | apply Kd.R_alloc | apply Kd.R_drewN | apply Kd.R_drew)); exact HO_5.out) hb); have n1_ := Aside0.mk (blk_below (g := gb248) (o := .cells #[.int .i64 a0_0, .int .i64 a0_1, .string a0_2] 23 (0, 0)) (by (with_reducible repeat (first | refine blk_drewN ?_ _ | refine blk_drew ?_ | refine blk_alloc ?_ _)); exact BK248.out) hb); have n2_ := Aside0.mk (below_step (by repeat (first | (with_reducible first | exact HB.out | apply below_alloc | apply pw_below_drewN | apply below_drew1 | refine below_set ?_ GE248.out) | exact HB.out)) hb); clear HO_5; clear BK248; clear HB; have HO_5 := n0_; have BK248 := n1_; have HB := n2_; clear n0_ n1_ n2_; (try clear hb); (try clear hb2); (try clear hk); (try clear hi)) | ((with_reducible refine gate_callee (f := 32) rfl ?_); refine goesL_ (some 47) rfl rfl Try.func32 (by kernel_rfl) rfl #[.int .i64 8, .int .i64 t250, .string (a0_2.extract ((ji9) : Int).toNat ((wrap64 ((wrap64 (8 * a0_0)) * (wrap64 (x20_1 + 1)))) : Int).toNat), .string x6_1] rfl (by (try simp only [List.map_toArray, List.map_cons, List.map_nil]); first | done | (simp only [hji9]; rfl) | rfl | (simp only [List.length_drop, List.length_take]; rfl) | (simp only [ByteArray.size_extract, Nat.min_self]; done) | (simp only [ByteArray.size_extract, Nat.min_self]; rfl)) ?_; (with_reducible refine (filter_Do.calls k1 8 t250 (a0_2.extract ((ji9) : Int).toNat ((wrap64 ((wrap64 (8 * a0_0)) * (wrap64 (x20_1 + 1)))) : Int).toNat) x6_1 t252 t253 _ A14.out).mono ?_); rintro e w19 ⟨rfl, hb⟩; refine ⟨_, rfl, ?_⟩; have n0_ := Aside0.mk (Kd.R_below (by (with_reducible repeat (first | apply Kd.R_alloc | apply Kd.R_drewN | apply Kd.R_drew)); exact HO_5.out) hb); have n1_ := Aside0.mk (blk_below (g := gb248) (o := .cells #[.int .i64 a0_0, .int .i64 a0_1, .string a0_2] 23 (0, 0)) (by (with_reducible repeat (first | refine blk_drewN ?_ _ | refine blk_drew ?_ | refine blk_alloc ?_ _)); exact BK248.out) hb); have n2_ := Aside0.mk (below_step (by repeat (first | (with_reducible first | exact HB.out | apply below_alloc | apply pw_below_drewN | apply below_drew1 | refine below_set ?_ GE248.out) | exact HB.out)) hb); clear HO_5; clear BK248; clear HB; have HO_5 := n0_; have BK248 := n1_; have HB := n2_; clear n0_ n1_ n2_; (try clear hb); (try clear hb2); (try clear hk); (try clear hi)) | ((with_reducible refine gate_builtin (b := .append) (xs := #[.tmp 50, .tmp 53]) rfl ?_); at_builtin; refine Kd.R_append (Kd.int .u8) (w0 := w) w.heap.size rfl (.tmp 50) (.tmp 53) 45 5 (.int .u8 0) 1 rfl Try.underlying45 info5 rfl (by decide) (by omega) u5 x5_1 ((t250) % 256) [.int .u8 ((t250) % 256)] (fun _ => True) (fun _ => False) rfl rfl ?aP (fun _ hk => hk.elim) ?aF ?aO ?aB ?aS ?aL ?_; (case aP => exact rfl); (case aB => exact (by repeat (first | (with_reducible first | exact HB.out | apply below_alloc | apply pw_below_drewN | apply below_drew1 | refine below_set ?_ GE248.out) | exact HB.out))); (case aF => exact (fun _ _ => trivial)); (case aO => exact (by (with_reducible repeat (first | apply Kd.R_alloc | apply Kd.R_drewN | apply Kd.R_drew)); exact HO_5.out)); (case aS => exact (below_size (by repeat (first | (with_reducible first | exact HB.out | apply below_alloc | apply pw_below_drewN | apply below_drew1 | refine below_set ?_ GE248.out) | exact HB.out)))); (case aL => have := LMc15.out; omega); intro v255 w20 ho hb hg hat; rw [← Ny254.out] at ho; have n0_ := Aside0.mk (blk_grown (g := gb248) (o := .cells #[.int .i64 a0_0, .int .i64 a0_1, .string a0_2] 23 (0, 0)) (by (with_reducible repeat (first | refine blk_drewN ?_ _ | refine blk_drew ?_ | refine blk_alloc ?_ _)); exact BK248.out) hg (Kd.R_ne HO_5.out BK248.out (by decide))); have n1_ := Aside0.mk (hb); have n2_ := Aside0.mk (ho); clear BK248; clear HB; clear HO_5; have BK248 := n0_; have HB := n1_; have HO256 := n2_; clear n0_ n1_ n2_; clear ho hb hg hat) | (at_builtin; refine print_append_str (w0 := w) w.heap.size rfl (.tmp 55) _ 45 9 5 rfl Try.underlying45 Try.underlying9 info5 v255 y254 t252 rfl rfl ?aO ?aB ?aS ?aL ?_; (case aB => exact (by repeat (first | (with_reducible first | exact HB.out | apply below_alloc | apply pw_below_drewN | apply below_drew1 | refine below_set ?_ GE248.out) | exact HB.out))); (case aO => exact (Kd.own_of_R (by (with_reducible repeat (first | apply Kd.R_alloc | apply Kd.R_drewN | apply Kd.R_drew)); exact HO256.out))); (case aS => exact (below_size (by repeat (first | (with_reducible first | exact HB.out | apply below_alloc | apply pw_below_drewN | apply below_drew1 | refine below_set ?_ GE248.out) | exact HB.out)))); (case aL => have := LMc16.out; omega); intro v258 w21 ho0 hb hg; have ho := Kd.R_of_own (h1 := fun _ => rfl) (ok := fun _ => True) ho0 (fun _ _ => trivial); clear ho0; have hat := True.intro; rw [← Ny257.out] at ho; change Kd.R (Kd.int .u8) 5 w21 w.heap.size (fun _ => True) v258 y257 at ho; have n0_ := Aside0.mk (blk_grown (g := gb248) (o := .cells #[.int .i64 a0_0, .int .i64 a0_1, .string a0_2] 23 (0, 0)) (by (with_reducible repeat (first | refine blk_drewN ?_ _ | refine blk_drew ?_ | refine blk_alloc ?_ _)); exact BK248.out) hg (Kd.R_ne HO256.out BK248.out (by decide))); have n1_ := Aside0.mk (hb); have n2_ := Aside0.mk (ho); clear BK248; clear HB; clear HO256; have BK248 := n0_; have HB := n1_; have HO259 := n2_; clear n0_ n1_ n2_; clear ho hb hg hat))
          go_roundg k1
          case measure => have := HK1.out; omega
          case rel => exact ⟨(y257), (a0_2.extract ((ji9) : Int).toNat ((wrap64 ((wrap64 (8 * a0_0)) * (wrap64 (x20_1 + 1)))) : Int).toNat), (wrap64 (x20_1 + 1)), (by first | rfl | (simp; done) | (simp only [← hji9] <;> (first | rfl | simp)) | (simp [*]; done)), (by first | rfl | (simp; done) | (simp [*]; done)), H', ⟨by have := HK1.out; omega⟩, ⟨by (with_reducible repeat (first | apply Kd.R_alloc | apply Kd.R_drewN | apply Kd.R_drew)); exact HO259.out⟩, ⟨by (with_reducible repeat (first | refine blk_drewN ?_ _ | refine blk_drew ?_ | refine blk_alloc ?_ _)); exact BK248.out⟩, ⟨by repeat (first | (with_reducible first | exact HB.out | apply below_alloc | apply pw_below_drewN | apply below_drew1 | refine below_set ?_ GE248.out) | exact HB.out)⟩⟩
         ·rw [if_neg c16] at H
          exact absurd H (by simp)
        ·rw [if_neg c15] at H
         exact absurd H (by simp)
       ·rw [if_neg c12] at H
        exact absurd H (by simp)
      ·rw [if_neg c11] at H
       exact absurd H (by simp)
     ·rw [if_neg c10] at H
      exact absurd H (by simp)
    ·rw [if_neg c8] at H
     have c8b0 : decide (x20_1 < a0_1) = false := decide_eq_false c8
     clear c8
     simp only [Option.some.injEq, Prod.mk.injEq] at H
     obtain ⟨rfl, rfl⟩ := H
     have hcv22 := own_string (P := Try.prog) Try.underlying45 Try.underlying5 Try.underlying9 (Kd.own_of_R HO_5.out)
     go_wp2
     go_ret2
     exact ⟨by first | rfl | (simp [errW_none, errW_some] <;> rfl) | (simp [*, errW_none, errW_some] <;> rfl), by repeat (first | (with_reducible first | exact HB.out | apply below_alloc | apply pw_below_drewN | apply below_drew1 | refine below_set ?_ GE248.out) | exact HB.out)⟩
 ·rw [if_neg c3] at H
  have c3b0 : (t249 == 0) = false := beq_eq_false_iff_ne.mpr c3
  have c3b1 : (t249 != 0) = true := bne_iff_ne.mpr c3
  simp only [Option.some.injEq, Prod.mk.injEq] at H
  obtain ⟨rfl, rfl⟩ := H
  go_enter Try.func13, Try.ntmps13
  go_wp2_with (first | ((with_reducible refine gate_dst (N := 1) rfl ?_); refine box_event ?hg (N := 1) ?hd (cs := #[.int .i64 a0_0, .int .i64 a0_1, .string a0_2]) (t := 23) ?hr ?_; (case hd => rfl); (case hg => rfl); (case hr => first | (go_simp; done) | (go_simp; rfl)); intro gb248 hg w23 hbox hb; have n0_ := Aside0.mk (below_step (by repeat (first | (with_reducible first | exact HB.out | apply below_alloc | apply pw_below_drewN | apply below_drew1) | exact HB.out)) hb); have n1_ := Aside0.mk (hbox); have n2_ := Aside0.mk ((by rw [hg]; exact (below_size (by repeat (first | (with_reducible first | exact HB.out | apply below_alloc | apply pw_below_drewN | apply below_drew1) | exact HB.out))) : w.heap.size ≤ gb248)); have n3_ := Aside0.mk ((by rw [hg]; exact (below_size (by repeat (first | (with_reducible first | exact HB.out | apply below_alloc | apply pw_below_drewN | apply below_drew1) | exact HB.out))) : w.heap.size ≤ gb248)); clear HB; have HB := n0_; have BK248 := n1_; have GW248 := n2_; have GE248 := n3_; clear n0_ n1_ n2_ n3_; clear hb hbox hg; have hcz24_0 : w23.cell? ⟨gb248, 0, none⟩ = some (.int .i64 a0_0) := (blk_cell BK248.out 0).trans rfl; have hcz24_1 : w23.cell? ⟨gb248, 1, none⟩ = some (.int .i64 a0_1) := (blk_cell BK248.out 1).trans rfl; have hcz24_2 : w23.cell? ⟨gb248, 2, none⟩ = some (.string a0_2) := (blk_cell BK248.out 2).trans rfl; have hfz24_0 := blk_frozen BK248.out 0; have hfz24_1 := blk_frozen BK248.out 1; have hfz24_2 := blk_frozen BK248.out 2) | ((with_reducible refine gate_callee (f := 8) rfl ?_); refine goesL_ (some 14) rfl rfl Try.func8 (by kernel_rfl) rfl #[.agg #[.int .i64 a0_0, .int .i64 a0_1, .string a0_2]] rfl (by (try simp only [List.map_toArray, List.map_cons, List.map_nil]); first | done | rfl | (simp only [List.length_drop, List.length_take]; rfl) | (simp only [ByteArray.size_extract, Nat.min_self]; done) | (simp only [ByteArray.size_extract, Nat.min_self]; rfl)) ?_; (with_reducible refine (pixel_Check.calls k a0_0 a0_1 a0_2 t249 _ A2.out).mono ?_); rintro e w25 ⟨rfl, hb⟩; refine ⟨_, rfl, ?_⟩; have n0_ := Aside0.mk (blk_below (g := gb248) (o := .cells #[.int .i64 a0_0, .int .i64 a0_1, .string a0_2] 23 (0, 0)) (by (with_reducible repeat (first | refine blk_drewN ?_ _ | refine blk_drew ?_ | refine blk_alloc ?_ _)); exact BK248.out) hb); have n1_ := Aside0.mk (below_step (by repeat (first | (with_reducible first | exact HB.out | apply below_alloc | apply pw_below_drewN | apply below_drew1 | refine below_set ?_ GE248.out) | exact HB.out)) hb); clear BK248; clear HB; have BK248 := n0_; have HB := n1_; clear n0_ n1_; (try clear hb); (try clear hb2); (try clear hk); (try clear hi)))
  go_ret2
  exact ⟨by first | rfl | (simp [errW_none, errW_some] <;> rfl) | (simp [*, errW_none, errW_some] <;> rfl), by repeat (first | (with_reducible first | exact HB.out | apply below_alloc | apply pw_below_drewN | apply below_drew1 | refine below_set ?_ GE248.out) | exact HB.out)⟩

end Go.Proofs.Ytejljcglbkjgkaa.PL12

namespace Go.Proofs.Ytejljcglbkjgkaa.PL12
open Go.RowKit Go.Proofs.YtejljcglbkjgkaaW.PrintWords Go.Proofs.YtejljcglbkjgkaaW.PrintLast Go.Proofs.YtejljcglbkjgkaaW.PrintMore
attribute [local go_sem] max2_int min2_int max_two min_two max_three min_three max_four min_four   -- for this text's walks alone
set_option linter.unusedVariables false
set_option linter.unusedSimpArgs false

theorem eqA23 (d : Nat) (w : World) (x0 y0 : Int) (x1 y1 : Int) (x2 y2 : ByteArray) :
  (Op.equalIn (d + 2) 23 (.agg #[.int .i64 x0, .int .i64 x1, .string x2]) (.agg #[.int .i64 y0, .int .i64 y1, .string y2])).run Try.prog w = .ok (x0 == y0 && (x1 == y1 && (x2.toList == y2.toList))) w := by
 refine eqA_of Try.underlying23 (by kernel_rfl) ?_
 refine eqf_cons (by rfl) (by go_simp; rfl) (by go_simp; rfl) (by go_simp) ?_
 refine eqf_cons (by rfl) (by go_simp; rfl) (by go_simp; rfl) (by go_simp) ?_
 exact eqf_last (by rfl) (by go_simp; rfl) (by go_simp; rfl) (by go_simp)
end Go.Proofs.Ytejljcglbkjgkaa.PL12
