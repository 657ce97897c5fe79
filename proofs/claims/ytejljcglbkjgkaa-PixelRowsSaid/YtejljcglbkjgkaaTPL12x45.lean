/- Printed for this claim by a program of this session over the kit's print program: the Go functions as Lean functions, and proofs that the calls come to these answers. No conditions. -/
import Derived.Test.YtejljcglbkjgkaaTH
import Derived.Test.YtejljcglbkjgkaaTPL12x3
import Derived.Test.YtejljcglbkjgkaaTPL12x20
import Derived.Test.YtejljcglbkjgkaaTPL12x43
import Derived.Test.YtejljcglbkjgkaaTPL12x1
import Derived.Test.YtejljcglbkjgkaaTPL12x25
namespace Go.Proofs.Ytejljcglbkjgkaa.PL12
open Go.RowKit Go.Proofs.YtejljcglbkjgkaaW.PrintWords Go.Proofs.YtejljcglbkjgkaaW.PrintLast Go.Proofs.YtejljcglbkjgkaaW.PrintMore
attribute [local go_sem] max2_int min2_int max_two min_two max_three min_three max_four min_four   -- for this text's walks alone
set_option linter.unusedVariables false
set_option linter.unusedSimpArgs false

def vitrineref12_Rows.l0 : Nat → List Int → Int → Int → Int → ByteArray → Option (ByteArray × Int)
 | 0, _, _, _, _, _ => none
 | k + 1, x5, x6, x465000, x465001, x465002 => if x6 < (x465002.size : Int) then (if 0 ≤ x6 then (if 0 ≤ (wrap64 (x6 + 1)) then (if (wrap64 (x6 + 1)) < (x465002.size : Int) then (if x5.length < 17592186044416 then (vitrineref12_Rows.l0 k (x5 ++ [wrap64 ((wrap64 (256 * (wrap64 (bt x465002 x6)))) + (wrap64 (bt x465002 (wrap64 (x6 + 1)))))]) (wrap64 (x6 + 2)) x465000 x465001 x465002) else (none)) else (none)) else (none)) else (none)) else ((vitrineref12_Pack.f k x465000 x465001 16 6 0 x5 (([(-1)] : List Int))).bind fun t472 => (some (t472, 0)))
def vitrineref12_Rows.f (k : Nat) (a0_0 : Int) (a0_1 : Int) (a0_2 : ByteArray) : Option (ByteArray × Int) := (vitrineref12_Check.f k a0_0 a0_1 a0_2).bind fun t465 => (if t465 = 0 then (vitrineref12_Rows.l0 k ([] : List Int) 0 a0_0 a0_1 a0_2) else (some ((⟨#[]⟩ : ByteArray), t465)))
def vitrineref12_Rows.T8 : Bool × List (List Nat × List Nat) := (true, [([], []), ([], []), ([1], [1]), ([], []), ([2, 3], [2, 3]), ([4], [4]), ([5], [5]), ([], []), ([7], [7]), ([], []), ([9], [9]), ([8, 10], [8, 10]), ([11], [11]), ([6, 12], [6, 12]), ([13], [13]), ([0, 14], [0, 14]), ([15, 15, 0, 1, 2, 3, 4, 5, 6, 7, 8, 9, 10, 11, 12, 13, 14, 15], [0, 15])])
def vitrineref12_Rows.B8 : List Nat := [0, 0, 2, 0, 14, 30, 62, 0, 128, 0, 512, 1920, 3968, 8190, 16382, 32767, 65535]
theorem vitrineref12_Rows.tab8 : rtab .any (opsOf Try.f14 8) = vitrineref12_Rows.T8 := by kernel_rfl
theorem vitrineref12_Rows.bits8 : waitsOk vitrineref12_Rows.T8.2 vitrineref12_Rows.B8 = true := by kernel_rfl
set_option maxHeartbeats 40000000 in
set_option maxRecDepth 100000 in
theorem vitrineref12_Rows.calls (k : Nat) (a0_0 : Int) (a0_1 : Int) (a0_2 : ByteArray) (r1 : ByteArray) (r2 : Int) (w : World) (h : vitrineref12_Rows.f k a0_0 a0_1 a0_2 = some (r1, r2)) :
  Calls Try.prog 14 #[.agg #[.int .i64 a0_0, .int .i64 a0_1, .string a0_2]] w fun e w' => e = .returned (.tuple #[.string r1, .int .i64 r2]) ∧ Below w.heap.size w w' := by
 have hu23 := Try.underlying23
 have hu29 := Try.underlying29
 have HB := Aside0.mk (Below.refl w.heap.size w)
 have H : ((vitrineref12_Check.f k a0_0 a0_1 a0_2).bind fun t465 => (if t465 = 0 then (vitrineref12_Rows.l0 k ([] : List Int) 0 a0_0 a0_1 a0_2) else (some ((⟨#[]⟩ : ByteArray), t465)))) = some (r1, r2) := h
 clear h
 replace H := Option.bind_eq_some_iff.mp H
 obtain ⟨t465, A20, H⟩ := H
 replace H : (if t465 = 0 then (vitrineref12_Rows.l0 k ([] : List Int) 0 a0_0 a0_1 a0_2) else (some ((⟨#[]⟩ : ByteArray), t465))) = some (r1, r2) := H
 have A2 := Aside0.mk A20
 clear A20
 by_cases c3 : t465 = 0
 ·rw [if_pos c3] at H
  have c3b0 : (t465 == 0) = true := beq_iff_eq.mpr c3
  have c3b1 : (t465 != 0) = false := bne_eq_false_iff_eq.mpr c3
  clear c3
  have H' := Aside0.mk H
  clear H
  go_enter Try.func14, Try.ntmps14
  go_wp2_with (first | ((with_reducible refine gate_dst (N := 1) rfl ?_); refine box_event ?hg (N := 1) ?hd (cs := #[.int .i64 a0_0, .int .i64 a0_1, .string a0_2]) (t := 23) ?hr ?_; (case hd => rfl); (case hg => rfl); (case hr => first | (go_simp; done) | (go_simp; rfl)); intro gb464 hg w4 hbox hb; have n0_ := Aside0.mk (below_step (by repeat (first | (with_reducible first | exact HB.out | apply below_alloc | apply pw_below_drewN | apply below_drew1) | exact HB.out)) hb); have n1_ := Aside0.mk (hbox); have n2_ := Aside0.mk ((by rw [hg]; exact (below_size (by repeat (first | (with_reducible first | exact HB.out | apply below_alloc | apply pw_below_drewN | apply below_drew1) | exact HB.out))) : w.heap.size ≤ gb464)); have n3_ := Aside0.mk ((by rw [hg]; exact (below_size (by repeat (first | (with_reducible first | exact HB.out | apply below_alloc | apply pw_below_drewN | apply below_drew1) | exact HB.out))) : w.heap.size ≤ gb464)); clear HB; have HB := n0_; have BK464 := n1_; have GW464 := n2_; have GE464 := n3_; clear n0_ n1_ n2_ n3_; clear hb hbox hg; have hcz5_0 : w4.cell? ⟨gb464, 0, none⟩ = some (.int .i64 a0_0) := (blk_cell BK464.out 0).trans rfl; have hcz5_1 : w4.cell? ⟨gb464, 1, none⟩ = some (.int .i64 a0_1) := (blk_cell BK464.out 1).trans rfl; have hcz5_2 : w4.cell? ⟨gb464, 2, none⟩ = some (.string a0_2) := (blk_cell BK464.out 2).trans rfl; have hfz5_0 := blk_frozen BK464.out 0; have hfz5_1 := blk_frozen BK464.out 1; have hfz5_2 := blk_frozen BK464.out 2) | ((with_reducible refine gate_callee (f := 9) rfl ?_); refine goesL_ (some 8) rfl rfl Try.func9 (by kernel_rfl) rfl #[.agg #[.int .i64 a0_0, .int .i64 a0_1, .string a0_2]] rfl (by (try simp only [List.map_toArray, List.map_cons, List.map_nil]); first | done | rfl | (simp only [List.length_drop, List.length_take]; rfl) | (simp only [ByteArray.size_extract, Nat.min_self]; done) | (simp only [ByteArray.size_extract, Nat.min_self]; rfl)) ?_; (with_reducible refine (vitrineref12_Check.calls k a0_0 a0_1 a0_2 t465 _ A2.out).mono ?_); rintro e w6 ⟨rfl, hb⟩; refine ⟨_, rfl, ?_⟩; have n0_ := Aside0.mk (blk_below (g := gb464) (o := .cells #[.int .i64 a0_0, .int .i64 a0_1, .string a0_2] 23 (0, 0)) (by (with_reducible repeat (first | refine blk_drewN ?_ _ | refine blk_drew ?_ | refine blk_alloc ?_ _)); exact BK464.out) hb); have n1_ := Aside0.mk (below_step (by repeat (first | (with_reducible first | exact HB.out | apply below_alloc | apply pw_below_drewN | apply below_drew1 | refine below_set ?_ GE464.out) | exact HB.out)) hb); clear BK464; clear HB; have BK464 := n0_; have HB := n1_; clear n0_ n1_; (try clear hb); (try clear hb2); (try clear hk); (try clear hi)))
  go_loopg [5, 6] k (fun kq v5 v6 w' => ∃ (x5_1 : List Int) (x6_1 : Int), v6 = .int .i64 x6_1 ∧ Aside0 (vitrineref12_Rows.l0 kq x5_1 x6_1 a0_0 a0_1 a0_2 = some (r1, r2)) ∧ Aside0 (kq ≤ k) ∧ Aside0 (Kd.R (Kd.int .i64) 3 w' w.heap.size (fun _ => True) v5 x5_1) ∧ Aside0 (w'.heap[gb464]? = some (.cells #[.int .i64 a0_0, .int .i64 a0_1, .string a0_2] 23 (0, 0))) ∧ Aside0 (Below w.heap.size w w'))
  case atStart => exact ⟨(([] : List Int)), (0), (by first | rfl | (simp; done) | (simp [*]; done)), H', ⟨Nat.le_refl _⟩, ⟨by first | exact Kd.R_nil _ _ _ _ _ | exact Kd.N_nil _ _ _ _ _ | exact Kd.V_nil _ _ _ _ _ | exact Kd.Q_nil _ _ _ _ _ | exact Kd.S_nil _ _ _ _ _⟩, ⟨by (with_reducible repeat (first | refine blk_drewN ?_ _ | refine blk_drew ?_ | refine blk_alloc ?_ _)); exact BK464.out⟩, ⟨by repeat (first | (with_reducible first | exact HB.out | apply below_alloc | apply pw_below_drewN | apply below_drew1 | refine below_set ?_ GE464.out) | exact HB.out)⟩⟩
  case round =>
   clear H'
   try clear c1
   try clear p2
   try clear c3
   try clear c3b0
   try clear c3b1
   try clear hcz5_0
   try clear hcz5_1
   try clear hcz5_2
   try clear hfz5_0
   try clear hfz5_1
   try clear hfz5_2
   obtain ⟨x5_1, x6_1, rfl, HA, HK1, HO_5, BK464, HB⟩ := hrel
   cases gk with
   | zero => exact absurd HA.out (by simp [vitrineref12_Rows.l0])
   | succ k1 =>
    have H := HA.out
    clear HA
    simp only [vitrineref12_Rows.l0] at H
    by_cases c7 : x6_1 < (a0_2.size : Int)
    ·rw [if_pos c7] at H
     have c7b0 : decide (x6_1 < (a0_2.size : Int)) = true := decide_eq_true c7
     clear c7
     by_cases c8 : 0 ≤ x6_1
     ·rw [if_pos c8] at H
      have c8b0 : decide (0 ≤ x6_1) = true := decide_eq_true c8
      clear c8
      obtain ⟨ji10, hji10⟩ : ∃ j_ : Int, (wrap64 (x6_1 + 1)) = j_ := ⟨_, rfl⟩
      replace H : (if 0 ≤ (ji10) then (if (ji10) < (a0_2.size : Int) then (if x5_1.length < 17592186044416 then (vitrineref12_Rows.l0 k1 (x5_1 ++ [wrap64 ((wrap64 (256 * (wrap64 (bt a0_2 x6_1)))) + (wrap64 (bt a0_2 (ji10))))]) (wrap64 (x6_1 + 2)) a0_0 a0_1 a0_2) else (none)) else (none)) else (none)) = some (r1, r2) := by first | (rw [hji10] at H; exact H) | (simp only [hji10] at H ⊢; exact H)
      have hji10w : (IntKind.i64.wrap (x6_1 + 1)) = ji10 := (i64_w _).trans hji10
      by_cases c11 : 0 ≤ (ji10)
      ·rw [if_pos c11] at H
       have c11b0 : decide (0 ≤ (ji10)) = true := decide_eq_true c11
       clear c11
       by_cases c12 : (ji10) < (a0_2.size : Int)
       ·rw [if_pos c12] at H
        have c12b0 : decide ((ji10) < (a0_2.size : Int)) = true := decide_eq_true c12
        clear c12
        by_cases c14 : x5_1.length < 17592186044416
        ·rw [if_pos c14] at H
         have LMc14 := Aside0.mk c14
         clear c14
         obtain ⟨y466, hy466⟩ : ∃ y_ : List Int, y_ = (x5_1 ++ [wrap64 ((wrap64 (256 * (wrap64 (bt a0_2 x6_1)))) + (wrap64 (bt a0_2 (ji10))))]) := ⟨_, rfl⟩
         replace H : (vitrineref12_Rows.l0 k1 y466 (wrap64 (x6_1 + 2)) a0_0 a0_1 a0_2) = some (r1, r2) := by first | (rw [hy466]; with_reducible exact H) | (have H2_ := (Option.bind_some _ _).symm.trans H; rw [hy466]; with_reducible exact H2_) | (have H2_ := (Option.bind_some _ _).symm.trans H; with_reducible exact H2_) | with_reducible exact H | (rw [hy466]; exact H) | exact H
         have Ny466 := Aside0.mk hy466
         clear hy466
         have H' := Aside0.mk H
         clear H
         have hcz15_0 : wr.cell? ⟨gb464, 0, none⟩ = some (.int .i64 a0_0) := (blk_cell BK464.out 0).trans rfl
         have hcz15_1 : wr.cell? ⟨gb464, 1, none⟩ = some (.int .i64 a0_1) := (blk_cell BK464.out 1).trans rfl
         have hcz15_2 : wr.cell? ⟨gb464, 2, none⟩ = some (.string a0_2) := (blk_cell BK464.out 2).trans rfl
         have hfz15_0 := blk_frozen BK464.out 0
         have hfz15_1 := blk_frozen BK464.out 1
         have hfz15_2 := blk_frozen BK464.out 2
         try go_wp2
         have n0_ := Aside0.mk (Kd.R_drew HO_5.out)
         have n1_ := Aside0.mk (blk_drew BK464.out)
         have n2_ := Aside0.mk (below_drew1 HB.out)
         clear HO_5
         clear BK464
         clear HB
         have HO_5 := n0_
         have BK464 := n1_
         have HB := n2_
         clear n0_ n1_ n2_
         have p9 : 0 ≤ (x6_1 : Int) := of_decide_eq_true (by first | (with_reducible assumption) | assumption)
         have q9 : x6_1 < (a0_2.size : Int) := of_decide_eq_true (by first | (with_reducible assumption) | assumption)
         have hx9 := bt_at a0_2 x6_1
         replace p9 := eq_true p9
         replace q9 := eq_true q9
         have p13 : 0 ≤ ((ji10) : Int) := of_decide_eq_true (by first | (with_reducible assumption) | assumption)
         have q13 : (ji10) < (a0_2.size : Int) := of_decide_eq_true (by first | (with_reducible assumption) | assumption)
         have hx13 := bt_at a0_2 (ji10)
         replace p13 := eq_true p13
         replace q13 := eq_true q13
         refine start_ (n := 17) (S := fun w' => w'.cell? ⟨gb464, 0, none⟩ = some (.int .i64 a0_0) ∧ w'.cell? ⟨gb464, 1, none⟩ = some (.int .i64 a0_1) ∧ w'.cell? ⟨gb464, 2, none⟩ = some (.string a0_2)) (ds := []) (bm 17 0) (by kernel_rfl) rfl rfl ⟨(blk_cell BK464.out 0).trans rfl, (blk_cell BK464.out 1).trans rfl, (blk_cell BK464.out 2).trans rfl⟩ (fun hHeld => ?_); refine with_tabW vitrineref12_Rows.tab8 vitrineref12_Rows.bits8 (fun HT_ HW_ => ?_)
         generalize wr.drew = w16 at HO_5 BK464 HB hHeld ⊢
         refine zp 0 19 (bm 17 1) HT_ (by kernel_rfl) rfl rfl (fun _ _ _ h => h) (by rfl) (by intro w'; go_simp; with_reducible rfl) (by simp only [Act.put, zq1, zq2, zq3, i64_w, i32_w]; rfl) ?_
         refine zp 1 20 (bm 17 3) HT_ (by kernel_rfl) rfl rfl (fun _ _ _ h => h) (by rfl) (by intro w'; go_simp; with_reducible rfl) (by simp only [Act.put, zq1, zq2, zq3, i64_w, i32_w]; rfl) ?_
         refine zp 3 22 (bm 17 11) HT_ (by kernel_rfl) rfl rfl (fun _ _ _ h => h) (by rfl) (by intro w'; go_simp; with_reducible rfl) (by simp only [Act.put, zq1, zq2, zq3, i64_w, i32_w]; rfl) ?_
         refine zp 7 26 (bm 17 139) HT_ (by kernel_rfl) rfl rfl (fun _ _ _ h => h) (by rfl) (by intro w'; go_simp; with_reducible rfl) (by simp only [Act.put, zq1, zq2, zq3, i64_w, i32_w]; rfl) ?_
         refine zp 9 28 (bm 17 651) HT_ (by kernel_rfl) rfl rfl (fun _ _ _ h => h) (by rfl) (by intro w'; go_simp; with_reducible rfl) (by simp only [Act.put, zq1, zq2, zq3, i64_w, i32_w]; rfl) ?_
         refine zp 10 29 (bm 17 1675) HT_ (by kernel_rfl) rfl rfl (fun _ _ _ h => h) (by rfl) (by intro w'; go_simp; with_reducible rfl) (by simp only [Act.put, zq1, zq2, zq3, i64_w, i32_w]; rfl) ?_
         refine zt 2 21 (bm 17 1679) HT_ HW_ (by kernel_rfl) rfl rfl (fun _ _ _ h => h) (by rfl) hHeld (by rintro w' ⟨s0, s1, s2⟩; go_simp; with_reducible rfl) (by simp only [Act.put, zq1, zq2, zq3, i64_w, i32_w]; rfl) ?_
         refine zt 4 23 (bm 17 1695) HT_ HW_ (by kernel_rfl) rfl rfl (fun _ _ _ h => h) (by rfl) hHeld (by rintro w' ⟨s0, s1, s2⟩; go_simp; with_reducible rfl) (by simp only [Act.put, zq1, zq2, zq3, i64_w, i32_w]; rfl) ?_
         refine zp 5 24 (bm 17 1727) HT_ (by kernel_rfl) rfl rfl (fun _ _ _ h => h) (by rfl) (by intro w'; go_simp; with_reducible rfl) (by simp only [Act.put, zq1, zq2, zq3, i64_w, i32_w]; rfl) ?_
         refine zp 6 25 (bm 17 1791) HT_ (by kernel_rfl) rfl rfl (fun _ _ _ h => h) (by rfl) (by intro w'; go_simp; with_reducible rfl) (by simp only [Act.put, zq1, zq2, zq3, i64_w, i32_w]; rfl) ?_
         refine zt 8 27 (bm 17 2047) HT_ HW_ (by kernel_rfl) rfl rfl (fun _ _ _ h => h) (by rfl) hHeld (by rintro w' ⟨s0, s1, s2⟩; go_simp; with_reducible rfl) (by simp only [Act.put, zq1, zq2, zq3, i64_w, i32_w]; rfl) ?_
         refine zt 11 30 (bm 17 4095) HT_ HW_ (by kernel_rfl) rfl rfl (fun _ _ _ h => h) (by rfl) hHeld (by rintro w' ⟨s0, s1, s2⟩; go_simp; with_reducible rfl) (by simp only [Act.put, zq1, zq2, zq3, i64_w, i32_w]; rfl) ?_
         refine zp 12 31 (bm 17 8191) HT_ (by kernel_rfl) rfl rfl (fun _ _ _ h => h) (by rfl) (by intro w'; go_simp; with_reducible rfl) (by simp only [Act.put, zq1, zq2, zq3, i64_w, i32_w]; rfl) ?_
         refine zp 13 32 (bm 17 16383) HT_ (by kernel_rfl) rfl rfl (fun _ _ _ h => h) (by rfl) (by intro w'; go_simp; with_reducible rfl) (by simp only [Act.put, zq1, zq2, zq3, i64_w, i32_w]; rfl) ?_
         refine one_ (i := 14) (N := some 33) (bm 17 32767) rfl rfl (one_of HT_.out (by kernel_rfl)) (by decide) (fun K hK => ?_)
         refine value_ (w1 := ?_) (v := ?_) (by rfl) rfl ?_ ?_
         rotate_left 2
         ·go_simp
          constructor
          ·rfl
          ·rfl
         refine hK.out _ _ ⟨(blk_cell (blk_alloc BK464.out _) 0).trans rfl, (blk_cell (blk_alloc BK464.out _) 1).trans rfl, (blk_cell (blk_alloc BK464.out _) 2).trans rfl⟩ (fun hHeld => ?_)
         clear hK K
         refine norm_ (a' := ?_) ?_ ?_
         rotate_left
         ·show Act.put _ (some 33) _ = _
          simp only [Act.put, zq1, zq2, zq3, i64_w, i32_w]
          rfl
         refine one_ (i := 15) (N := some 34) (bm 17 65535) rfl rfl (one_of HT_.out (by kernel_rfl)) (by decide) (fun K hK => ?_)
         refine Kd.R_append_step (Kd.int .i64) (w0 := w) w.heap.size (by rfl) (.tmp 19) (.tmp 33) 37 3 (.int .i64 0) 8 rfl Try.underlying37 info3 rfl (by decide) (by omega) u5 x5_1 (wrap64 ((wrap64 (256 * (wrap64 (bt a0_2 x6_1)))) + (wrap64 (bt a0_2 (ji10))))) [.int .i64 (wrap64 ((wrap64 (256 * (wrap64 (bt a0_2 x6_1)))) + (wrap64 (bt a0_2 (ji10)))))] (fun _ => True) (fun _ => False) rfl rfl ?aP (fun _ hk => hk.elim) ?aF ?aO ?aB ?aS ?aL ?_
         (case aP => exact rfl)
         (case aB => exact (by repeat (first | (with_reducible first | exact HB.out | apply below_alloc | apply pw_below_drewN | apply below_drew1 | refine below_set ?_ GE464.out) | exact HB.out)))
         (case aF => exact (fun _ _ => trivial))
         (case aO => exact (by (with_reducible repeat (first | apply Kd.R_alloc | apply Kd.R_drewN | apply Kd.R_drew)); exact HO_5.out))
         (case aS => exact (below_size (by repeat (first | (with_reducible first | exact HB.out | apply below_alloc | apply pw_below_drewN | apply below_drew1 | refine below_set ?_ GE464.out) | exact HB.out))))
         (case aL => have := LMc14.out; omega)
         intro v467 w17 ho hb hg hat
         rw [← Ny466.out] at ho
         have n0_ := Aside0.mk (blk_grown (g := gb464) (o := .cells #[.int .i64 a0_0, .int .i64 a0_1, .string a0_2] 23 (0, 0)) (by (with_reducible repeat (first | refine blk_drewN ?_ _ | refine blk_drew ?_ | refine blk_alloc ?_ _)); exact BK464.out) hg (Kd.R_ne HO_5.out BK464.out (by decide)))
         have n1_ := Aside0.mk (hb)
         have n2_ := Aside0.mk (ho)
         clear BK464
         clear HB
         clear HO_5
         have BK464 := n0_
         have HB := n1_
         have HO468 := n2_
         clear n0_ n1_ n2_
         clear ho hb hg hat
         refine hK.out _ _ ⟨(blk_cell BK464.out 0).trans rfl, (blk_cell BK464.out 1).trans rfl, (blk_cell BK464.out 2).trans rfl⟩ (fun hHeld => ?_)
         clear hK K
         refine norm_ (a' := ?_) ?_ ?_
         rotate_left
         ·show Act.put _ (some 34) _ = _
          simp only [Act.put, zq1, zq2, zq3, i64_w, i32_w]
          rfl
         refine zp 16 5 (bm 17 131071) HT_ (by kernel_rfl) rfl rfl (fun _ _ _ h => h) (by rfl) (by intro w'; go_simp; with_reducible rfl) (by simp only [Act.put, zq1, zq2, zq3, i64_w, i32_w]; rfl) ?_
         refine done_ (done_of HT_.out (by kernel_rfl)) ?_
         try go_wp2
         go_roundg k1
         case measure => have := HK1.out; omega
         case rel => exact ⟨(y466), (wrap64 (x6_1 + 2)), (by first | rfl | (simp; done) | (simp [*]; done)), H', ⟨by have := HK1.out; omega⟩, ⟨by (with_reducible repeat (first | apply Kd.R_alloc | apply Kd.R_drewN | apply Kd.R_drew)); exact HO468.out⟩, ⟨by (with_reducible repeat (first | refine blk_drewN ?_ _ | refine blk_drew ?_ | refine blk_alloc ?_ _)); exact BK464.out⟩, ⟨by repeat (first | (with_reducible first | exact HB.out | apply below_alloc | apply pw_below_drewN | apply below_drew1 | refine below_set ?_ GE464.out) | exact HB.out)⟩⟩
        ·rw [if_neg c14] at H
         exact absurd H (by simp)
       ·rw [if_neg c12] at H
        exact absurd H (by simp)
      ·rw [if_neg c11] at H
       exact absurd H (by simp)
     ·rw [if_neg c8] at H
      exact absurd H (by simp)
    ·rw [if_neg c7] at H
     have c7b0 : decide (x6_1 < (a0_2.size : Int)) = false := decide_eq_false c7
     clear c7
     obtain ⟨y469, hy469⟩ : ∃ y_ : List Int, y_ = (([(-1)] : List Int)) := ⟨_, rfl⟩
     replace H : ((vitrineref12_Pack.f k1 a0_0 a0_1 16 6 0 x5_1 y469).bind fun t472 => (some (t472, 0))) = some (r1, r2) := by first | (rw [hy469]; with_reducible exact H) | (have H2_ := (Option.bind_some _ _).symm.trans H; rw [hy469]; with_reducible exact H2_) | (have H2_ := (Option.bind_some _ _).symm.trans H; with_reducible exact H2_) | with_reducible exact H | (rw [hy469]; exact H) | exact H
     have Ny469 := Aside0.mk hy469
     clear hy469
     replace H := Option.bind_eq_some_iff.mp H
     obtain ⟨t472, A180, H⟩ := H
     replace H : (some (t472, 0)) = some (r1, r2) := H
     have A18 := Aside0.mk A180
     clear A180
     simp only [Option.some.injEq, Prod.mk.injEq] at H
     obtain ⟨rfl, rfl⟩ := H
     have hcz19_0 : wr.cell? ⟨gb464, 0, none⟩ = some (.int .i64 a0_0) := (blk_cell BK464.out 0).trans rfl
     have hcz19_1 : wr.cell? ⟨gb464, 1, none⟩ = some (.int .i64 a0_1) := (blk_cell BK464.out 1).trans rfl
     have hcz19_2 : wr.cell? ⟨gb464, 2, none⟩ = some (.string a0_2) := (blk_cell BK464.out 2).trans rfl
     have hfz19_0 := blk_frozen BK464.out 0
     have hfz19_1 := blk_frozen BK464.out 1
     have hfz19_2 := blk_frozen BK464.out 2
     go_wp2_with (first | ((with_reducible refine gate_dst (N := 41) rfl ?_); refine Kd.R_lit (Kd.int .i64) _ 3 ?hg (N := 41) ?hd (xs := ([(-1)] : List Int)) (inner := [.int .i64 (-1)]) (ok := fun _ => True) (okp := fun _ => True) ?hr ?hp (fun _ hk => hk) trivial (Below.refl _ _) (Nat.le_refl _) (by simp) ?_; (case hd => rfl); (case hg => rfl); (case hr => first | (go_simp; done) | (go_simp; rfl)); (case hp => exact (Reps.one (show Kd.M (Kd.int .i64) _ _ _ (-1) [.int .i64 (-1)] from rfl) (Reps.none _ _))); intro v470 w20 ho21 hb hg_ hnew_; clear hg_ hnew_; (first | rw [← Ny469.out] at ho21 | (simp only [Int.reduceToNat] at ho21; rw [← Ny469.out] at ho21)); have n0_ := Aside0.mk (Kd.R_elder' (by (with_reducible repeat (first | apply Kd.R_alloc | apply Kd.R_drewN | apply Kd.R_drew)); exact HO_5.out) (Kd.R_base ho21) hb); have n1_ := Aside0.mk (Kd.R_lower (Kd.R_new' ho21 (Kd.R_lt (by (with_reducible repeat (first | apply Kd.R_alloc | apply Kd.R_drewN | apply Kd.R_drew)); exact HO_5.out))) (below_size (by repeat (first | (with_reducible first | exact HB.out | apply below_alloc | apply pw_below_drewN | apply below_drew1 | refine below_set ?_ GE464.out) | exact HB.out)))); have n2_ := Aside0.mk (blk_below (g := gb464) (o := .cells #[.int .i64 a0_0, .int .i64 a0_1, .string a0_2] 23 (0, 0)) (by (with_reducible repeat (first | refine blk_drewN ?_ _ | refine blk_drew ?_ | refine blk_alloc ?_ _)); exact BK464.out) hb); have n3_ := Aside0.mk (below_step (by repeat (first | (with_reducible first | exact HB.out | apply below_alloc | apply pw_below_drewN | apply below_drew1 | refine below_set ?_ GE464.out) | exact HB.out)) hb); clear HO_5; clear BK464; clear HB; have HO_5 := n0_; have HO471 := n1_; have BK464 := n2_; have HB := n3_; clear n0_ n1_ n2_ n3_; clear hb ho21; obtain ⟨Ao22, co22, eo22⟩ := Kd.R_slice HO_5.out; subst eo22; obtain ⟨Ao23, co23, eo23⟩ := Kd.R_slice HO471.out; subst eo23) | ((with_reducible refine gate_callee (f := 17) rfl ?_); refine goesL_ (some 42) rfl rfl Try.func17 (by kernel_rfl) rfl #[.agg #[.int .i64 a0_0, .int .i64 a0_1, .int .i64 16, .int .i64 6, .int .i64 0], .slice Ao22 x5_1.length co22, .slice Ao23 y469.length co23] rfl (by (try simp only [List.map_toArray, List.map_cons, List.map_nil]); first | done | rfl | (simp only [List.length_drop, List.length_take]; rfl) | (simp only [ByteArray.size_extract, Nat.min_self]; done) | (simp only [ByteArray.size_extract, Nat.min_self]; rfl)) ?_; (with_reducible refine (vitrineref12_Pack.calls k1 a0_0 a0_1 16 6 0 _ _ x5_1 _ _ y469 t472 _ ?side1 ?side2 ?side3 ?side4 A18.out).mono ?_); (case side1 => repeat (first | exact (Kd.R_reads' HO_5.out).2.2 | (with_reducible refine Kd.C_alloc ?_ _) | (with_reducible refine Kd.C_drewN ?_ _) | (with_reducible refine Kd.C_drew ?_))); (case side2 => exact (Kd.R_reads' HO_5.out).2.1); (case side3 => repeat (first | exact (Kd.R_reads' HO471.out).2.2 | (with_reducible refine Kd.C_alloc ?_ _) | (with_reducible refine Kd.C_drewN ?_ _) | (with_reducible refine Kd.C_drew ?_))); (case side4 => exact (Kd.R_reads' HO471.out).2.1); rintro e w24 ⟨rfl, hb⟩; refine ⟨_, rfl, ?_⟩; have n0_ := Aside0.mk (Kd.R_below (by (with_reducible repeat (first | apply Kd.R_alloc | apply Kd.R_drewN | apply Kd.R_drew)); exact HO_5.out) hb); have n1_ := Aside0.mk (Kd.R_below (by (with_reducible repeat (first | apply Kd.R_alloc | apply Kd.R_drewN | apply Kd.R_drew)); exact HO471.out) hb); have n2_ := Aside0.mk (blk_below (g := gb464) (o := .cells #[.int .i64 a0_0, .int .i64 a0_1, .string a0_2] 23 (0, 0)) (by (with_reducible repeat (first | refine blk_drewN ?_ _ | refine blk_drew ?_ | refine blk_alloc ?_ _)); exact BK464.out) hb); have n3_ := Aside0.mk (below_step (by repeat (first | (with_reducible first | exact HB.out | apply below_alloc | apply pw_below_drewN | apply below_drew1 | refine below_set ?_ GE464.out) | exact HB.out)) hb); clear HO_5; clear HO471; clear BK464; clear HB; have HO_5 := n0_; have HO471 := n1_; have BK464 := n2_; have HB := n3_; clear n0_ n1_ n2_ n3_; (try clear hb); (try clear hb2); (try clear hk); (try clear hi)))
     go_ret2
     exact ⟨by first | rfl | (simp [errW_none, errW_some] <;> rfl) | (simp [*, errW_none, errW_some] <;> rfl), by repeat (first | (with_reducible first | exact HB.out | apply below_alloc | apply pw_below_drewN | apply below_drew1 | refine below_set ?_ GE464.out) | exact HB.out)⟩
 ·rw [if_neg c3] at H
  have c3b0 : (t465 == 0) = false := beq_eq_false_iff_ne.mpr c3
  have c3b1 : (t465 != 0) = true := bne_iff_ne.mpr c3
  simp only [Option.some.injEq, Prod.mk.injEq] at H
  obtain ⟨rfl, rfl⟩ := H
  go_enter Try.func14, Try.ntmps14
  go_wp2_with (first | ((with_reducible refine gate_dst (N := 1) rfl ?_); refine box_event ?hg (N := 1) ?hd (cs := #[.int .i64 a0_0, .int .i64 a0_1, .string a0_2]) (t := 23) ?hr ?_; (case hd => rfl); (case hg => rfl); (case hr => first | (go_simp; done) | (go_simp; rfl)); intro gb464 hg w25 hbox hb; have n0_ := Aside0.mk (below_step (by repeat (first | (with_reducible first | exact HB.out | apply below_alloc | apply pw_below_drewN | apply below_drew1) | exact HB.out)) hb); have n1_ := Aside0.mk (hbox); have n2_ := Aside0.mk ((by rw [hg]; exact (below_size (by repeat (first | (with_reducible first | exact HB.out | apply below_alloc | apply pw_below_drewN | apply below_drew1) | exact HB.out))) : w.heap.size ≤ gb464)); have n3_ := Aside0.mk ((by rw [hg]; exact (below_size (by repeat (first | (with_reducible first | exact HB.out | apply below_alloc | apply pw_below_drewN | apply below_drew1) | exact HB.out))) : w.heap.size ≤ gb464)); clear HB; have HB := n0_; have BK464 := n1_; have GW464 := n2_; have GE464 := n3_; clear n0_ n1_ n2_ n3_; clear hb hbox hg; have hcz26_0 : w25.cell? ⟨gb464, 0, none⟩ = some (.int .i64 a0_0) := (blk_cell BK464.out 0).trans rfl; have hcz26_1 : w25.cell? ⟨gb464, 1, none⟩ = some (.int .i64 a0_1) := (blk_cell BK464.out 1).trans rfl; have hcz26_2 : w25.cell? ⟨gb464, 2, none⟩ = some (.string a0_2) := (blk_cell BK464.out 2).trans rfl; have hfz26_0 := blk_frozen BK464.out 0; have hfz26_1 := blk_frozen BK464.out 1; have hfz26_2 := blk_frozen BK464.out 2) | ((with_reducible refine gate_callee (f := 9) rfl ?_); refine goesL_ (some 8) rfl rfl Try.func9 (by kernel_rfl) rfl #[.agg #[.int .i64 a0_0, .int .i64 a0_1, .string a0_2]] rfl (by (try simp only [List.map_toArray, List.map_cons, List.map_nil]); first | done | rfl | (simp only [List.length_drop, List.length_take]; rfl) | (simp only [ByteArray.size_extract, Nat.min_self]; done) | (simp only [ByteArray.size_extract, Nat.min_self]; rfl)) ?_; (with_reducible refine (vitrineref12_Check.calls k a0_0 a0_1 a0_2 t465 _ A2.out).mono ?_); rintro e w27 ⟨rfl, hb⟩; refine ⟨_, rfl, ?_⟩; have n0_ := Aside0.mk (blk_below (g := gb464) (o := .cells #[.int .i64 a0_0, .int .i64 a0_1, .string a0_2] 23 (0, 0)) (by (with_reducible repeat (first | refine blk_drewN ?_ _ | refine blk_drew ?_ | refine blk_alloc ?_ _)); exact BK464.out) hb); have n1_ := Aside0.mk (below_step (by repeat (first | (with_reducible first | exact HB.out | apply below_alloc | apply pw_below_drewN | apply below_drew1 | refine below_set ?_ GE464.out) | exact HB.out)) hb); clear BK464; clear HB; have BK464 := n0_; have HB := n1_; clear n0_ n1_; (try clear hb); (try clear hb2); (try clear hk); (try clear hi)))
  go_ret2
  exact ⟨by first | rfl | (simp [errW_none, errW_some] <;> rfl) | (simp [*, errW_none, errW_some] <;> rfl), by repeat (first | (with_reducible first | exact HB.out | apply below_alloc | apply pw_below_drewN | apply below_drew1 | refine below_set ?_ GE464.out) | exact HB.out)⟩

end Go.Proofs.Ytejljcglbkjgkaa.PL12

namespace Go.Proofs.Ytejljcglbkjgkaa.PL12
open Go.RowKit Go.Proofs.YtejljcglbkjgkaaW.PrintWords Go.Proofs.YtejljcglbkjgkaaW.PrintLast Go.Proofs.YtejljcglbkjgkaaW.PrintMore
attribute [local go_sem] max2_int min2_int max_two min_two max_three min_three max_four min_four   -- for this text's walks alone
set_option linter.unusedVariables false
set_option linter.unusedSimpArgs false

def vitrinelaw12_PixelRows.f (k : Nat) (a0_0 : Int) (a0_1 : Int) (a0_2 : ByteArray) : Option (Bool) := (pixel_Rows.f k a0_0 a0_1 a0_2).bind fun bt474 => ((vitrineref12_Rows.f k a0_0 a0_1 a0_2).bind fun bt476 => (if bt474.1.toList = bt476.1.toList then (if bt474.2 = bt476.2 then ((vitrinelaw12_awake.f k).bind fun t478 => (some t478)) else (none)) else (none)))
set_option maxHeartbeats 40000000 in
set_option maxRecDepth 100000 in
theorem vitrinelaw12_PixelRows.calls (k : Nat) (a0_0 : Int) (a0_1 : Int) (a0_2 : ByteArray) (r : Bool) (w : World) (h : vitrinelaw12_PixelRows.f k a0_0 a0_1 a0_2 = some r) :
  Calls Try.prog 5 #[.agg #[.int .i64 a0_0, .int .i64 a0_1, .string a0_2]] w fun e w' => e = .returned (.bool r) ∧ Below w.heap.size w w' := by
 have hu23 := Try.underlying23
 have HB := Aside0.mk (Below.refl w.heap.size w)
 have H : ((pixel_Rows.f k a0_0 a0_1 a0_2).bind fun bt474 => ((vitrineref12_Rows.f k a0_0 a0_1 a0_2).bind fun bt476 => (if bt474.1.toList = bt476.1.toList then (if bt474.2 = bt476.2 then ((vitrinelaw12_awake.f k).bind fun t478 => (some t478)) else (none)) else (none)))) = some r := h
 clear h
 replace H := Option.bind_eq_some_iff.mp H
 obtain ⟨⟨t474, t475⟩, A20, H⟩ := H
 replace H : ((vitrineref12_Rows.f k a0_0 a0_1 a0_2).bind fun bt476 => (if t474.toList = bt476.1.toList then (if t475 = bt476.2 then ((vitrinelaw12_awake.f k).bind fun t478 => (some t478)) else (none)) else (none))) = some r := H
 have A2 := Aside0.mk A20
 clear A20
 replace H := Option.bind_eq_some_iff.mp H
 obtain ⟨⟨t476, t477⟩, A30, H⟩ := H
 replace H : (if t474.toList = t476.toList then (if t475 = t477 then ((vitrinelaw12_awake.f k).bind fun t478 => (some t478)) else (none)) else (none)) = some r := H
 have A3 := Aside0.mk A30
 clear A30
 by_cases c4 : t474.toList = t476.toList
 ·rw [if_pos c4] at H
  have c4b0 : (t474.toList == t476.toList) = true := beq_iff_eq.mpr c4
  have c4b1 : (t474.toList != t476.toList) = false := bne_eq_false_iff_eq.mpr c4
  clear c4
  by_cases c5 : t475 = t477
  ·rw [if_pos c5] at H
   have c5b0 : (t475 == t477) = true := beq_iff_eq.mpr c5
   have c5b1 : (t475 != t477) = false := bne_eq_false_iff_eq.mpr c5
   clear c5
   replace H := Option.bind_eq_some_iff.mp H
   obtain ⟨t478, A60, H⟩ := H
   replace H : (some t478) = some r := H
   have A6 := Aside0.mk A60
   clear A60
   obtain rfl := Option.some.inj H
   go_enter Try.func5, Try.ntmps5
   go_wp2_with (first | ((with_reducible refine gate_dst (N := 1) rfl ?_); refine box_event ?hg (N := 1) ?hd (cs := #[.int .i64 a0_0, .int .i64 a0_1, .string a0_2]) (t := 23) ?hr ?_; (case hd => rfl); (case hg => rfl); (case hr => first | (go_simp; done) | (go_simp; rfl)); intro gb473 hg w7 hbox hb; have n0_ := Aside0.mk (below_step (by repeat (first | (with_reducible first | exact HB.out | apply below_alloc | apply pw_below_drewN | apply below_drew1) | exact HB.out)) hb); have n1_ := Aside0.mk (hbox); have n2_ := Aside0.mk ((by rw [hg]; exact (below_size (by repeat (first | (with_reducible first | exact HB.out | apply below_alloc | apply pw_below_drewN | apply below_drew1) | exact HB.out))) : w.heap.size ≤ gb473)); have n3_ := Aside0.mk ((by rw [hg]; exact (below_size (by repeat (first | (with_reducible first | exact HB.out | apply below_alloc | apply pw_below_drewN | apply below_drew1) | exact HB.out))) : w.heap.size ≤ gb473)); clear HB; have HB := n0_; have BK473 := n1_; have GW473 := n2_; have GE473 := n3_; clear n0_ n1_ n2_ n3_; clear hb hbox hg; have hcz8_0 : w7.cell? ⟨gb473, 0, none⟩ = some (.int .i64 a0_0) := (blk_cell BK473.out 0).trans rfl; have hcz8_1 : w7.cell? ⟨gb473, 1, none⟩ = some (.int .i64 a0_1) := (blk_cell BK473.out 1).trans rfl; have hcz8_2 : w7.cell? ⟨gb473, 2, none⟩ = some (.string a0_2) := (blk_cell BK473.out 2).trans rfl; have hfz8_0 := blk_frozen BK473.out 0; have hfz8_1 := blk_frozen BK473.out 1; have hfz8_2 := blk_frozen BK473.out 2) | ((with_reducible refine gate_callee (f := 13) rfl ?_); refine goesL_ (some 9) rfl rfl Try.func13 (by kernel_rfl) rfl #[.agg #[.int .i64 a0_0, .int .i64 a0_1, .string a0_2]] rfl (by (try simp only [List.map_toArray, List.map_cons, List.map_nil]); first | done | rfl | (simp only [List.length_drop, List.length_take]; rfl) | (simp only [ByteArray.size_extract, Nat.min_self]; done) | (simp only [ByteArray.size_extract, Nat.min_self]; rfl)) ?_; (with_reducible refine (pixel_Rows.calls k a0_0 a0_1 a0_2 t474 t475 _ A2.out).mono ?_); rintro e w9 ⟨rfl, hb⟩; refine ⟨_, rfl, ?_⟩; have n0_ := Aside0.mk (blk_below (g := gb473) (o := .cells #[.int .i64 a0_0, .int .i64 a0_1, .string a0_2] 23 (0, 0)) (by (with_reducible repeat (first | refine blk_drewN ?_ _ | refine blk_drew ?_ | refine blk_alloc ?_ _)); exact BK473.out) hb); have n1_ := Aside0.mk (below_step (by repeat (first | (with_reducible first | exact HB.out | apply below_alloc | apply pw_below_drewN | apply below_drew1 | refine below_set ?_ GE473.out) | exact HB.out)) hb); clear BK473; clear HB; have BK473 := n0_; have HB := n1_; clear n0_ n1_; (try clear hb); (try clear hb2); (try clear hk); (try clear hi); have hcz10_0 : w9.cell? ⟨gb473, 0, none⟩ = some (.int .i64 a0_0) := (blk_cell BK473.out 0).trans rfl; have hcz10_1 : w9.cell? ⟨gb473, 1, none⟩ = some (.int .i64 a0_1) := (blk_cell BK473.out 1).trans rfl; have hcz10_2 : w9.cell? ⟨gb473, 2, none⟩ = some (.string a0_2) := (blk_cell BK473.out 2).trans rfl; have hfz10_0 := blk_frozen BK473.out 0; have hfz10_1 := blk_frozen BK473.out 1; have hfz10_2 := blk_frozen BK473.out 2) | ((with_reducible refine gate_callee (f := 14) rfl ?_); refine goesL_ (some 14) rfl rfl Try.func14 (by kernel_rfl) rfl #[.agg #[.int .i64 a0_0, .int .i64 a0_1, .string a0_2]] rfl (by (try simp only [List.map_toArray, List.map_cons, List.map_nil]); first | done | rfl | (simp only [List.length_drop, List.length_take]; rfl) | (simp only [ByteArray.size_extract, Nat.min_self]; done) | (simp only [ByteArray.size_extract, Nat.min_self]; rfl)) ?_; (with_reducible refine (vitrineref12_Rows.calls k a0_0 a0_1 a0_2 t476 t477 _ A3.out).mono ?_); rintro e w11 ⟨rfl, hb⟩; refine ⟨_, rfl, ?_⟩; have n0_ := Aside0.mk (blk_below (g := gb473) (o := .cells #[.int .i64 a0_0, .int .i64 a0_1, .string a0_2] 23 (0, 0)) (by (with_reducible repeat (first | refine blk_drewN ?_ _ | refine blk_drew ?_ | refine blk_alloc ?_ _)); exact BK473.out) hb); have n1_ := Aside0.mk (below_step (by repeat (first | (with_reducible first | exact HB.out | apply below_alloc | apply pw_below_drewN | apply below_drew1 | refine below_set ?_ GE473.out) | exact HB.out)) hb); clear BK473; clear HB; have BK473 := n0_; have HB := n1_; clear n0_ n1_; (try clear hb); (try clear hb2); (try clear hk); (try clear hi)) | (go_at_call 10; (with_reducible refine (vitrinelaw12_awake.calls k  t478 _ A6.out).mono ?_); rintro e w12 ⟨rfl, hb⟩; have n0_ := Aside0.mk (blk_below (g := gb473) (o := .cells #[.int .i64 a0_0, .int .i64 a0_1, .string a0_2] 23 (0, 0)) (by (with_reducible repeat (first | refine blk_drewN ?_ _ | refine blk_drew ?_ | refine blk_alloc ?_ _)); exact BK473.out) hb); have n1_ := Aside0.mk (below_step (by repeat (first | (with_reducible first | exact HB.out | apply below_alloc | apply pw_below_drewN | apply below_drew1 | refine below_set ?_ GE473.out) | exact HB.out)) hb); clear BK473; clear HB; have BK473 := n0_; have HB := n1_; clear n0_ n1_; (try clear hb); (try clear hb2); (try clear hk); (try clear hi)))
   go_ret
   exact ⟨by first | rfl | (simp [errW_none, errW_some] <;> rfl) | (simp [*, errW_none, errW_some] <;> rfl), by repeat (first | (with_reducible first | exact HB.out | apply below_alloc | apply pw_below_drewN | apply below_drew1 | refine below_set ?_ GE473.out) | exact HB.out)⟩
  ·rw [if_neg c5] at H
   exact absurd H (by simp)
 ·rw [if_neg c4] at H
  exact absurd H (by simp)

end Go.Proofs.Ytejljcglbkjgkaa.PL12
