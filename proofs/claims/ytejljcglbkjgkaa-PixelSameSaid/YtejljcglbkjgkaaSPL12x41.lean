/- Printed for this claim by a program of this session over the kit's print program: the Go functions as Lean functions, and proofs that the calls come to these answers. No conditions. -/
import Derived.Test.YtejljcglbkjgkaaSH
import Derived.Test.YtejljcglbkjgkaaSPL12x3
import Derived.Test.YtejljcglbkjgkaaSPL12x26
namespace Go.Proofs.Ytejljcglbkjgkaa.PL12
open Go.RowKit Go.Proofs.YtejljcglbkjgkaaW.PrintWords Go.Proofs.YtejljcglbkjgkaaW.PrintLast Go.Proofs.YtejljcglbkjgkaaW.PrintMore
attribute [local go_sem] max2_int min2_int max_two min_two max_three min_three max_four min_four   -- for this text's walks alone
set_option linter.unusedVariables false
set_option linter.unusedSimpArgs false

def vitrineref12_Bytes.f (k : Nat) (a0_0 : Int) (a0_1 : Int) (a0_2 : Int) (a0_3 : Int) (a0_4 : Int) : Option (Int) := (vitrineref08_Samples.f k a0_3).bind fun t358 => (some (mx 1 (wrap64 (Int.tdiv (wrap64 (a0_2 * t358)) 8))))
set_option maxHeartbeats 40000000 in
set_option maxRecDepth 100000 in
theorem vitrineref12_Bytes.calls (k : Nat) (a0_0 : Int) (a0_1 : Int) (a0_2 : Int) (a0_3 : Int) (a0_4 : Int) (r : Int) (w : World) (h : vitrineref12_Bytes.f k a0_0 a0_1 a0_2 a0_3 a0_4 = some r) :
  Calls Try.prog 28 #[.agg #[.int .i64 a0_0, .int .i64 a0_1, .int .i64 a0_2, .int .i64 a0_3, .int .i64 a0_4]] w fun e w' => e = .returned (.int .i64 r) ∧ Below w.heap.size w w' := by
 have hu29 := Try.underlying29
 have HB := Aside0.mk (Below.refl w.heap.size w)
 have H : ((vitrineref08_Samples.f k a0_3).bind fun t358 => (some (mx 1 (wrap64 (Int.tdiv (wrap64 (a0_2 * t358)) 8))))) = some r := h
 clear h
 replace H := Option.bind_eq_some_iff.mp H
 obtain ⟨t358, A20, H⟩ := H
 replace H : (some (mx 1 (wrap64 (Int.tdiv (wrap64 (a0_2 * t358)) 8)))) = some r := H
 have A2 := Aside0.mk A20
 clear A20
 obtain ⟨ji3, hji3⟩ : ∃ j_ : Int, (mx 1 (wrap64 (Int.tdiv (wrap64 (a0_2 * t358)) 8))) = j_ := ⟨_, rfl⟩
 replace H : (some ji3) = some r := by first | (rw [hji3] at H; exact H) | (simp only [hji3] at H ⊢; exact H)
 (try rw [hji3] at A2)
 (try (have hji3l : 1 ≤ ji3 := by (rw [← hji3]; unfold mx; (repeat' split) <;> omega)))
 (try (have hji3m : 0 ≤ ji3 := by omega))
 have hji3_ : (if 1 < (wrap64 (Int.tdiv (wrap64 (a0_2 * t358)) 8)) then (wrap64 (Int.tdiv (wrap64 (a0_2 * t358)) 8)) else 1) = ji3 := hji3
 obtain rfl := Option.some.inj H
 go_enter Try.func28, Try.ntmps28
 go_wp2_with (first | ((with_reducible refine gate_dst (N := 1) rfl ?_); refine box_event ?hg (N := 1) ?hd (cs := #[.int .i64 a0_0, .int .i64 a0_1, .int .i64 a0_2, .int .i64 a0_3, .int .i64 a0_4]) (t := 29) ?hr ?_; (case hd => rfl); (case hg => rfl); (case hr => first | (go_simp; done) | (go_simp; rfl)); intro gb357 hg w4 hbox hb; have n0_ := Aside0.mk (below_step (hz HB) hb); have n1_ := Aside0.mk (hbox); have n2_ := Aside0.mk ((by rw [hg]; exact (below_size (hz HB)) : w.heap.size ≤ gb357)); have n3_ := Aside0.mk ((by rw [hg]; exact (below_size (hz HB)) : w.heap.size ≤ gb357)); clear HB; have HB := n0_; have BK357 := n1_; have GW357 := n2_; have GE357 := n3_; clear n0_ n1_ n2_ n3_; clear hb hbox hg; have hcz5_0 : w4.cell? ⟨gb357, 0, none⟩ = some (.int .i64 a0_0) := (blk_cell BK357.out 0).trans rfl; have hcz5_1 : w4.cell? ⟨gb357, 1, none⟩ = some (.int .i64 a0_1) := (blk_cell BK357.out 1).trans rfl; have hcz5_2 : w4.cell? ⟨gb357, 2, none⟩ = some (.int .i64 a0_2) := (blk_cell BK357.out 2).trans rfl; have hcz5_3 : w4.cell? ⟨gb357, 3, none⟩ = some (.int .i64 a0_3) := (blk_cell BK357.out 3).trans rfl; have hcz5_4 : w4.cell? ⟨gb357, 4, none⟩ = some (.int .i64 a0_4) := (blk_cell BK357.out 4).trans rfl; have hfz5_0 := blk_frozen BK357.out 0; have hfz5_1 := blk_frozen BK357.out 1; have hfz5_2 := blk_frozen BK357.out 2; have hfz5_3 := blk_frozen BK357.out 3; have hfz5_4 := blk_frozen BK357.out 4) | (go_at_call 16; (with_reducible refine (vitrineref08_Samples.calls k a0_3 t358 _ A2.out).mono ?_); rintro e w' ⟨rfl, ⟨nd, rfl⟩⟩; (try first | exact ⟨rfl, _, World.drewN_drewN _ _ _⟩ | exact ⟨rfl, _, Eq.trans (World.drewN_drewN _ _ _) (congrArg (World.drewN _) (Nat.add_assoc _ _ _))⟩)))
 repeat (go_quiet (first | ((with_reducible refine gate_dst (N := 1) rfl ?_); refine box_event ?hg (N := 1) ?hd (cs := #[.int .i64 a0_0, .int .i64 a0_1, .int .i64 a0_2, .int .i64 a0_3, .int .i64 a0_4]) (t := 29) ?hr ?_; (case hd => rfl); (case hg => rfl); (case hr => first | (go_simp; done) | (go_simp; rfl)); intro gb357 hg w4 hbox hb; have n0_ := Aside0.mk (below_step (hz HB) hb); have n1_ := Aside0.mk (hbox); have n2_ := Aside0.mk ((by rw [hg]; exact (below_size (hz HB)) : w.heap.size ≤ gb357)); have n3_ := Aside0.mk ((by rw [hg]; exact (below_size (hz HB)) : w.heap.size ≤ gb357)); clear HB; have HB := n0_; have BK357 := n1_; have GW357 := n2_; have GE357 := n3_; clear n0_ n1_ n2_ n3_; clear hb hbox hg; have hcz5_0 : w4.cell? ⟨gb357, 0, none⟩ = some (.int .i64 a0_0) := (blk_cell BK357.out 0).trans rfl; have hcz5_1 : w4.cell? ⟨gb357, 1, none⟩ = some (.int .i64 a0_1) := (blk_cell BK357.out 1).trans rfl; have hcz5_2 : w4.cell? ⟨gb357, 2, none⟩ = some (.int .i64 a0_2) := (blk_cell BK357.out 2).trans rfl; have hcz5_3 : w4.cell? ⟨gb357, 3, none⟩ = some (.int .i64 a0_3) := (blk_cell BK357.out 3).trans rfl; have hcz5_4 : w4.cell? ⟨gb357, 4, none⟩ = some (.int .i64 a0_4) := (blk_cell BK357.out 4).trans rfl; have hfz5_0 := blk_frozen BK357.out 0; have hfz5_1 := blk_frozen BK357.out 1; have hfz5_2 := blk_frozen BK357.out 2; have hfz5_3 := blk_frozen BK357.out 3; have hfz5_4 := blk_frozen BK357.out 4) | (go_at_call 16; (with_reducible refine (vitrineref08_Samples.calls k a0_3 t358 _ A2.out).mono ?_); rintro e w' ⟨rfl, ⟨nd, rfl⟩⟩; (try first | exact ⟨rfl, _, World.drewN_drewN _ _ _⟩ | exact ⟨rfl, _, Eq.trans (World.drewN_drewN _ _ _) (congrArg (World.drewN _) (Nat.add_assoc _ _ _))⟩))); try go_wp2_with (first | ((with_reducible refine gate_dst (N := 1) rfl ?_); refine box_event ?hg (N := 1) ?hd (cs := #[.int .i64 a0_0, .int .i64 a0_1, .int .i64 a0_2, .int .i64 a0_3, .int .i64 a0_4]) (t := 29) ?hr ?_; (case hd => rfl); (case hg => rfl); (case hr => first | (go_simp; done) | (go_simp; rfl)); intro gb357 hg w4 hbox hb; have n0_ := Aside0.mk (below_step (hz HB) hb); have n1_ := Aside0.mk (hbox); have n2_ := Aside0.mk ((by rw [hg]; exact (below_size (hz HB)) : w.heap.size ≤ gb357)); have n3_ := Aside0.mk ((by rw [hg]; exact (below_size (hz HB)) : w.heap.size ≤ gb357)); clear HB; have HB := n0_; have BK357 := n1_; have GW357 := n2_; have GE357 := n3_; clear n0_ n1_ n2_ n3_; clear hb hbox hg; have hcz5_0 : w4.cell? ⟨gb357, 0, none⟩ = some (.int .i64 a0_0) := (blk_cell BK357.out 0).trans rfl; have hcz5_1 : w4.cell? ⟨gb357, 1, none⟩ = some (.int .i64 a0_1) := (blk_cell BK357.out 1).trans rfl; have hcz5_2 : w4.cell? ⟨gb357, 2, none⟩ = some (.int .i64 a0_2) := (blk_cell BK357.out 2).trans rfl; have hcz5_3 : w4.cell? ⟨gb357, 3, none⟩ = some (.int .i64 a0_3) := (blk_cell BK357.out 3).trans rfl; have hcz5_4 : w4.cell? ⟨gb357, 4, none⟩ = some (.int .i64 a0_4) := (blk_cell BK357.out 4).trans rfl; have hfz5_0 := blk_frozen BK357.out 0; have hfz5_1 := blk_frozen BK357.out 1; have hfz5_2 := blk_frozen BK357.out 2; have hfz5_3 := blk_frozen BK357.out 3; have hfz5_4 := blk_frozen BK357.out 4) | (go_at_call 16; (with_reducible refine (vitrineref08_Samples.calls k a0_3 t358 _ A2.out).mono ?_); rintro e w' ⟨rfl, ⟨nd, rfl⟩⟩; (try first | exact ⟨rfl, _, World.drewN_drewN _ _ _⟩ | exact ⟨rfl, _, Eq.trans (World.drewN_drewN _ _ _) (congrArg (World.drewN _) (Nat.add_assoc _ _ _))⟩))))
 go_ret
 exact ⟨by first | rfl | (simp [errW_none, errW_some] <;> rfl) | (simp only [← hji3]; first | rfl | (simp [errW_none, errW_some] <;> rfl)) | (simp [*, errW_none, errW_some] <;> rfl), by repeat (first | (with_reducible first | exact HB.out | apply below_alloc | apply pw_below_drewN | apply below_drew1 | refine below_set ?_ GE357.out) | exact HB.out)⟩

def vitrineref11_Depth.f (a0 : Int) : Option (Bool) := if a0 = 1 then (some true) else (if a0 = 2 then (some true) else (if a0 = 4 then (some true) else (if a0 = 8 then (some true) else (some (a0 == 16)))))
set_option maxHeartbeats 40000000 in
set_option maxRecDepth 100000 in
theorem vitrineref11_Depth.calls (a0 : Int) (r : Bool) (w : World) (h : vitrineref11_Depth.f a0 = some r) :
  Calls Try.prog 48 #[.int .i64 a0] w fun e w' => e = .returned (.bool r) ∧ Drawn0 w w' := by
 have H : (if a0 = 1 then (some true) else (if a0 = 2 then (some true) else (if a0 = 4 then (some true) else (if a0 = 8 then (some true) else (some (a0 == 16)))))) = some r := h
 clear h
 by_cases c2 : a0 = 1
 ·rw [if_pos c2] at H
  have c2b0 : (a0 == 1) = true := beq_iff_eq.mpr c2
  have c2b1 : (a0 != 1) = false := bne_eq_false_iff_eq.mpr c2
  clear c2
  obtain rfl := Option.some.inj H
  go_enter Try.func48, Try.ntmps48
  go_wp2
  go_ret
  exact ⟨by first | rfl | (simp; done) | (simp [*]; done), by repeat (first | exact Drawn0.refl _ | apply Drawn0.step)⟩
 ·rw [if_neg c2] at H
  have c2b0 : (a0 == 1) = false := beq_eq_false_iff_ne.mpr c2
  have c2b1 : (a0 != 1) = true := bne_iff_ne.mpr c2
  by_cases c3 : a0 = 2
  ·rw [if_pos c3] at H
   have c3b0 : (a0 == 2) = true := beq_iff_eq.mpr c3
   have c3b1 : (a0 != 2) = false := bne_eq_false_iff_eq.mpr c3
   clear c3
   obtain rfl := Option.some.inj H
   go_enter Try.func48, Try.ntmps48
   go_wp2
   go_ret
   exact ⟨by first | rfl | (simp; done) | (simp [*]; done), by repeat (first | exact Drawn0.refl _ | apply Drawn0.step)⟩
  ·rw [if_neg c3] at H
   have c3b0 : (a0 == 2) = false := beq_eq_false_iff_ne.mpr c3
   have c3b1 : (a0 != 2) = true := bne_iff_ne.mpr c3
   by_cases c4 : a0 = 4
   ·rw [if_pos c4] at H
    have c4b0 : (a0 == 4) = true := beq_iff_eq.mpr c4
    have c4b1 : (a0 != 4) = false := bne_eq_false_iff_eq.mpr c4
    clear c4
    obtain rfl := Option.some.inj H
    go_enter Try.func48, Try.ntmps48
    go_wp2
    go_ret
    exact ⟨by first | rfl | (simp; done) | (simp [*]; done), by repeat (first | exact Drawn0.refl _ | apply Drawn0.step)⟩
   ·rw [if_neg c4] at H
    have c4b0 : (a0 == 4) = false := beq_eq_false_iff_ne.mpr c4
    have c4b1 : (a0 != 4) = true := bne_iff_ne.mpr c4
    by_cases c5 : a0 = 8
    ·rw [if_pos c5] at H
     have c5b0 : (a0 == 8) = true := beq_iff_eq.mpr c5
     have c5b1 : (a0 != 8) = false := bne_eq_false_iff_eq.mpr c5
     clear c5
     obtain rfl := Option.some.inj H
     go_enter Try.func48, Try.ntmps48
     go_wp2
     go_ret
     exact ⟨by first | rfl | (simp; done) | (simp [*]; done), by repeat (first | exact Drawn0.refl _ | apply Drawn0.step)⟩
    ·rw [if_neg c5] at H
     have c5b0 : (a0 == 8) = false := beq_eq_false_iff_ne.mpr c5
     have c5b1 : (a0 != 8) = true := bne_iff_ne.mpr c5
     obtain rfl := Option.some.inj H
     go_enter Try.func48, Try.ntmps48
     go_wp2
     go_ret
     exact ⟨by first | rfl | (simp; done) | (simp [*]; done), by repeat (first | exact Drawn0.refl _ | apply Drawn0.step)⟩

end Go.Proofs.Ytejljcglbkjgkaa.PL12

namespace Go.Proofs.Ytejljcglbkjgkaa.PL12
open Go.RowKit Go.Proofs.YtejljcglbkjgkaaW.PrintWords Go.Proofs.YtejljcglbkjgkaaW.PrintLast Go.Proofs.YtejljcglbkjgkaaW.PrintMore
attribute [local go_sem] max2_int min2_int max_two min_two max_three min_three max_four min_four   -- for this text's walks alone
set_option linter.unusedVariables false
set_option linter.unusedSimpArgs false

mutual
def vitrineref11_Pack.l0 : Nat → Int → List Int → List Int → Int → Option (ByteArray × Int)
 | 0, _, _, _, _ => none
 | k + 1, x0, x1, x6, x7 => if x7 < (x1.length : Int) then (vitrineref11_Pack.l1 k x0 x1 x6 x7 0) else (some (strOfNums x6, 0))
def vitrineref11_Pack.l1 : Nat → Int → List Int → List Int → Int → Int → Option (ByteArray × Int)
 | 0, _, _, _, _, _ => none
 | k + 1, x0, x1, x6, x7, x8 => if x8 < x0 then (if 0 ≤ (wrap64 (Int.tdiv (wrap64 ((wrap64 (x7 * x0)) + x8)) 8)) then (if (wrap64 (Int.tdiv (wrap64 ((wrap64 (x7 * x0)) + x8)) 8)) < (x6.length : Int) then (if 0 ≤ x7 then (if x7 < (x1.length : Int) then (if 0 ≤ (wrap64 ((wrap64 (x0 - 1)) - x8)) then (if 0 ≤ (wrap64 (7 - (Int.tmod (wrap64 ((wrap64 (x7 * x0)) + x8)) 8))) then (vitrineref11_Pack.l1 k x0 x1 (x6.set ((wrap64 (Int.tdiv (wrap64 ((wrap64 (x7 * x0)) + x8)) 8)) : Int).toNat (Go.bits .or .u8 (rd x6 (wrap64 (Int.tdiv (wrap64 ((wrap64 (x7 * x0)) + x8)) 8))) (shl .u8 ((Go.bits .and .i64 (shr .i64 (rd x1 x7) (wrap64 ((wrap64 (x0 - 1)) - x8))) 1) % 256) (wrap64 (7 - (Int.tmod (wrap64 ((wrap64 (x7 * x0)) + x8)) 8)))))) x7 (wrap64 (x8 + 1))) else (none)) else (none)) else (none)) else (none)) else (none)) else (none)) else (vitrineref11_Pack.l0 k x0 x1 x6 (wrap64 (x7 + 1)))
end
def vitrineref11_Pack.f (k : Nat) (a0 : Int) (l1 : List Int) : Option (ByteArray × Int) := (vitrineref11_Depth.f a0).bind fun t415 => (if t415 = true then (if 0 ≤ (wrap64 (Int.tdiv (wrap64 ((wrap64 ((l1.length : Int) * a0)) + 7)) 8)) then (if (wrap64 (Int.tdiv (wrap64 ((wrap64 ((l1.length : Int) * a0)) + 7)) 8) : Int).toNat ≤ 281474976710656 then (vitrineref11_Pack.l0 k a0 l1 (List.replicate (wrap64 (Int.tdiv (wrap64 ((wrap64 ((l1.length : Int) * a0)) + 7)) 8) : Int).toNat 0) 0) else (none)) else (none)) else (some ((⟨#[]⟩ : ByteArray), 1)))
def vitrineref11_Pack.T11 : Bool × List (List Nat × List Nat) := (true, [([], []), ([], []), ([1], [1]), ([], []), ([], []), ([4], [4]), ([3, 5], [3, 5]), ([6], [6]), ([], []), ([], []), ([8, 9], [8, 9]), ([10], [10]), ([], []), ([12], [12]), ([], []), ([13, 14], [13, 14]), ([11, 15], [11, 15]), ([16], [16]), ([17], [17]), ([], []), ([19], [19]), ([20], [20]), ([18, 21], [18, 21]), ([7, 22], [7, 22]), ([0, 2, 0, 1, 2, 3, 4, 5, 6, 7, 8, 9, 10, 11, 12, 13, 14, 15, 16, 17, 18, 19, 20, 21, 22, 23], [0, 2]), ([24, 23, 0, 1, 2, 3, 4, 5, 6, 7, 8, 9, 10, 11, 12, 13, 14, 15, 16, 17, 18, 19, 20, 21, 22, 23], [23, 24])])
def vitrineref11_Pack.B11 : List Nat := [0, 0, 2, 0, 0, 16, 56, 120, 0, 0, 768, 1792, 0, 4096, 0, 28672, 65280, 130816, 261888, 0, 524288, 1572864, 4194048, 8388600, 16777215, 33554431]
theorem vitrineref11_Pack.tab11 : rtab .any (opsOf Try.f33 11) = vitrineref11_Pack.T11 := by kernel_rfl
theorem vitrineref11_Pack.bits11 : waitsOk vitrineref11_Pack.T11.2 vitrineref11_Pack.B11 = true := by kernel_rfl
set_option maxHeartbeats 40000000 in
set_option maxRecDepth 100000 in
theorem vitrineref11_Pack.calls (k : Nat) (a0 : Int) (A1 : Option Addr) (c1 : Nat) (l1 : List Int) (r1 : ByteArray) (r2 : Int) (w : World) (hr1 : Kd.C (Kd.int .i64) w A1 l1.length l1) (hc1 : l1.length ≤ c1) (h : vitrineref11_Pack.f k a0 l1 = some (r1, r2)) :
  Calls Try.prog 33 #[.int .i64 a0, .slice A1 l1.length c1] w fun e w' => e = .returned (.tuple #[.string r1, .int .i64 r2]) ∧ Below w.heap.size w w' := by
 have HR1 := Aside0.mk hr1
 have HC1 := Aside0.mk hc1
 clear hr1 hc1
 have HB := Aside0.mk (Below.refl w.heap.size w)
 have H : ((vitrineref11_Depth.f a0).bind fun t415 => (if t415 = true then (if 0 ≤ (wrap64 (Int.tdiv (wrap64 ((wrap64 ((l1.length : Int) * a0)) + 7)) 8)) then (if (wrap64 (Int.tdiv (wrap64 ((wrap64 ((l1.length : Int) * a0)) + 7)) 8) : Int).toNat ≤ 281474976710656 then (vitrineref11_Pack.l0 k a0 l1 (List.replicate (wrap64 (Int.tdiv (wrap64 ((wrap64 ((l1.length : Int) * a0)) + 7)) 8) : Int).toNat 0) 0) else (none)) else (none)) else (some ((⟨#[]⟩ : ByteArray), 1)))) = some (r1, r2) := h
 clear h
 replace H := Option.bind_eq_some_iff.mp H
 obtain ⟨t415, A30, H⟩ := H
 replace H : (if t415 = true then (if 0 ≤ (wrap64 (Int.tdiv (wrap64 ((wrap64 ((l1.length : Int) * a0)) + 7)) 8)) then (if (wrap64 (Int.tdiv (wrap64 ((wrap64 ((l1.length : Int) * a0)) + 7)) 8) : Int).toNat ≤ 281474976710656 then (vitrineref11_Pack.l0 k a0 l1 (List.replicate (wrap64 (Int.tdiv (wrap64 ((wrap64 ((l1.length : Int) * a0)) + 7)) 8) : Int).toNat 0) 0) else (none)) else (none)) else (some ((⟨#[]⟩ : ByteArray), 1))) = some (r1, r2) := H
 have A3 := Aside0.mk A30
 clear A30
 by_cases c4 : t415 = true
 ·subst c4
  have H1 : (if 0 ≤ (wrap64 (Int.tdiv (wrap64 ((wrap64 ((l1.length : Int) * a0)) + 7)) 8)) then (if (wrap64 (Int.tdiv (wrap64 ((wrap64 ((l1.length : Int) * a0)) + 7)) 8) : Int).toNat ≤ 281474976710656 then (vitrineref11_Pack.l0 k a0 l1 (List.replicate (wrap64 (Int.tdiv (wrap64 ((wrap64 ((l1.length : Int) * a0)) + 7)) 8) : Int).toNat 0) 0) else (none)) else (none)) = some (r1, r2) := by rw [if_pos rfl] at H; exact H
  clear H
  have H := H1
  clear H1
  obtain ⟨ji5, hji5⟩ : ∃ j_ : Int, (wrap64 (Int.tdiv (wrap64 ((wrap64 ((l1.length : Int) * a0)) + 7)) 8)) = j_ := ⟨_, rfl⟩
  replace H : (if 0 ≤ (ji5) then (if (ji5 : Int).toNat ≤ 281474976710656 then (vitrineref11_Pack.l0 k a0 l1 (List.replicate (ji5 : Int).toNat 0) 0) else (none)) else (none)) = some (r1, r2) := by first | (rw [hji5] at H; exact H) | (simp only [hji5] at H ⊢; exact H)
  (try rw [hji5] at A3)
  have hji5w : (IntKind.i64.wrap (Int.tdiv (wrap64 ((wrap64 ((l1.length : Int) * a0)) + 7)) 8)) = ji5 := (i64_w _).trans hji5
  by_cases c6 : 0 ≤ (ji5)
  ·rw [if_pos c6] at H
   have c6b0 := eq_true c6
   have c6b1 : decide (0 ≤ (ji5)) = true := decide_eq_true c6
   clear c6
   by_cases c7 : (ji5 : Int).toNat ≤ 281474976710656
   ·rw [if_pos c7] at H
    have c7b0 := eq_true c7
    have c7b1 : decide ((ji5 : Int).toNat ≤ 281474976710656) = true := decide_eq_true c7
    clear c7
    obtain ⟨y416, hy416⟩ : ∃ y_ : List Int, y_ = (List.replicate (ji5 : Int).toNat 0) := ⟨_, rfl⟩
    replace H : (vitrineref11_Pack.l0 k a0 l1 y416 0) = some (r1, r2) := by first | (rw [hy416]; with_reducible exact H) | (have H2_ := (Option.bind_some _ _).symm.trans H; rw [hy416]; with_reducible exact H2_) | (have H2_ := (Option.bind_some _ _).symm.trans H; with_reducible exact H2_) | with_reducible exact H | (rw [hy416]; exact H) | exact H
    have Ny416 := Aside0.mk hy416
    clear hy416
    have H' := Aside0.mk H
    clear H
    go_enter Try.func33, Try.ntmps33
    go_wp2_with (first | ((with_reducible refine gate_callee (f := 48) rfl ?_); refine gz 11 Try.func48 #[.int .i64 a0] ?_; (with_reducible refine (vitrineref11_Depth.calls a0 true _ A3.out).mono ?_); rintro e w' ⟨rfl, ⟨nd, rfl⟩⟩; refine ⟨_, rfl, ?_⟩) | ((with_reducible refine gate_dst (N := 19) rfl ?_); refine Kd.R_make (Kd.int .u8) _ 5 rfl (N := 19) rfl 45 _ _ rfl ji5 rfl rfl Try.underlying45 (.int .u8 0) 1 info5 rfl (by decide) (by omega) 0 (ok := fun _ => True) (okp := fun _ => True) rfl (fun _ hk => hk) trivial (of_decide_eq_true (by first | (with_reducible assumption) | assumption)) (Nat.le_trans (Nat.mul_le_mul_right _ (of_decide_eq_true (by first | (with_reducible assumption) | assumption) : ji5.toNat ≤ 281474976710656)) (by omega)) (Below.refl _ _) (Nat.le_refl _) ?_; intro v417 w8 ho9 hb hg_ hnew_; clear hg_ hnew_; (first | rw [← Ny416.out] at ho9 | (simp only [Int.reduceToNat] at ho9; rw [← Ny416.out] at ho9)); have n0_ := Aside0.mk (Kd.R_lower ho9 (below_size (hz HB))); have n1_ := Aside0.mk (below_step (hz HB) hb); clear HB; have HO418 := n0_; have HB := n1_; clear n0_ n1_; clear hb ho9))
    go_loopg [7] k (fun kq v7 w' => ∃ (x6_1 : List Int) (x7_1 : Int), v7 = .int .i64 x7_1 ∧ Aside0 (vitrineref11_Pack.l0 kq a0 l1 x6_1 x7_1 = some (r1, r2)) ∧ Aside0 (kq ≤ k) ∧ Aside0 (Kd.R (Kd.int .u8) 5 w' w.heap.size (fun _ => True) v417 x6_1) ∧ Aside0 (Below w.heap.size w w'))
    case atStart => exact ⟨(y416), (0), (by first | rfl | (simp; done) | (simp [*]; done)), H', ⟨Nat.le_refl _⟩, ⟨oz HO418⟩, ⟨hz HB⟩⟩
    case round =>
     clear H'
     try clear c4
     try clear c6
     try clear c6b0
     try clear c6b1
     try clear c7
     try clear c7b0
     try clear c7b1
     obtain ⟨x6_1, x7_1, rfl, HA, HK1, HO_6, HB⟩ := hrel
     cases gk with
     | zero => exact absurd HA.out (by simp [vitrineref11_Pack.l0])
     | succ k1 =>
      have H := HA.out
      clear HA
      simp only [vitrineref11_Pack.l0] at H
      by_cases c10 : x7_1 < (l1.length : Int)
      ·rw [if_pos c10] at H
       have c10b0 : decide (x7_1 < (l1.length : Int)) = true := decide_eq_true c10
       clear c10
       have H' := Aside0.mk H
       clear H
       go_wp2
       go_loopg [8] k1 (fun kq v8 w' => ∃ (x6_2 : List Int) (x8_2 : Int), v8 = .int .i64 x8_2 ∧ Aside0 (vitrineref11_Pack.l1 kq a0 l1 x6_2 x7_1 x8_2 = some (r1, r2)) ∧ Aside0 (kq ≤ k1) ∧ Aside0 (Kd.R (Kd.int .u8) 5 w' w.heap.size (fun _ => True) v417 x6_2) ∧ Aside0 (Below w.heap.size w w'))
       case atStart => exact ⟨(x6_1), (0), (by first | rfl | (simp; done) | (simp [*]; done)), H', ⟨Nat.le_refl _⟩, ⟨oz HO_6⟩, ⟨hz HB⟩⟩
       case round =>
        clear H'
        try clear c4
        try clear c6
        try clear c6b0
        try clear c6b1
        try clear c7
        try clear c7b0
        try clear c7b1
        try clear c10
        try clear c10b0
        obtain ⟨x6_2, x8_2, rfl, HA, HK2, HO_6, HB⟩ := hrel
        cases gk with
        | zero => exact absurd HA.out (by simp [vitrineref11_Pack.l1])
        | succ k2 =>
         have H := HA.out
         clear HA
         simp only [vitrineref11_Pack.l1] at H
         by_cases c11 : x8_2 < a0
         ·rw [if_pos c11] at H
          have c11b0 : decide (x8_2 < a0) = true := decide_eq_true c11
          clear c11
          obtain ⟨ji12, hji12⟩ : ∃ j_ : Int, (wrap64 (Int.tdiv (wrap64 ((wrap64 (x7_1 * a0)) + x8_2)) 8)) = j_ := ⟨_, rfl⟩
          replace H : (if 0 ≤ (ji12) then (if (ji12) < (x6_2.length : Int) then (if 0 ≤ x7_1 then (if x7_1 < (l1.length : Int) then (if 0 ≤ (wrap64 ((wrap64 (a0 - 1)) - x8_2)) then (if 0 ≤ (wrap64 (7 - (Int.tmod (wrap64 ((wrap64 (x7_1 * a0)) + x8_2)) 8))) then (vitrineref11_Pack.l1 k2 a0 l1 (x6_2.set ((ji12) : Int).toNat (Go.bits .or .u8 (rd x6_2 (ji12)) (shl .u8 ((Go.bits .and .i64 (shr .i64 (rd l1 x7_1) (wrap64 ((wrap64 (a0 - 1)) - x8_2))) 1) % 256) (wrap64 (7 - (Int.tmod (wrap64 ((wrap64 (x7_1 * a0)) + x8_2)) 8)))))) x7_1 (wrap64 (x8_2 + 1))) else (none)) else (none)) else (none)) else (none)) else (none)) else (none)) = some (r1, r2) := by first | (rw [hji12] at H; exact H) | (simp only [hji12] at H ⊢; exact H)
          have hji12w : (IntKind.i64.wrap (Int.tdiv (wrap64 ((wrap64 (x7_1 * a0)) + x8_2)) 8)) = ji12 := (i64_w _).trans hji12
          by_cases c13 : 0 ≤ (ji12)
          ·rw [if_pos c13] at H
           have c13b0 : decide (0 ≤ (ji12)) = true := decide_eq_true c13
           clear c13
           by_cases c14 : (ji12) < (x6_2.length : Int)
           ·rw [if_pos c14] at H
            have c14b0 : decide ((ji12) < (x6_2.length : Int)) = true := decide_eq_true c14
            clear c14
            by_cases c15 : 0 ≤ x7_1
            ·rw [if_pos c15] at H
             have c15b0 : decide (0 ≤ x7_1) = true := decide_eq_true c15
             clear c15
             by_cases c16 : x7_1 < (l1.length : Int)
             ·rw [if_pos c16] at H
              have c16b0 : decide (x7_1 < (l1.length : Int)) = true := decide_eq_true c16
              clear c16
              obtain ⟨ji17, hji17⟩ : ∃ j_ : Int, (wrap64 ((wrap64 (a0 - 1)) - x8_2)) = j_ := ⟨_, rfl⟩
              replace H : (if 0 ≤ (ji17) then (if 0 ≤ (wrap64 (7 - (Int.tmod (wrap64 ((wrap64 (x7_1 * a0)) + x8_2)) 8))) then (vitrineref11_Pack.l1 k2 a0 l1 (x6_2.set ((ji12) : Int).toNat (Go.bits .or .u8 (rd x6_2 (ji12)) (shl .u8 ((Go.bits .and .i64 (shr .i64 (rd l1 x7_1) (ji17)) 1) % 256) (wrap64 (7 - (Int.tmod (wrap64 ((wrap64 (x7_1 * a0)) + x8_2)) 8)))))) x7_1 (wrap64 (x8_2 + 1))) else (none)) else (none)) = some (r1, r2) := by first | (rw [hji17] at H; exact H) | (simp only [hji17] at H ⊢; exact H)
              have hji17w : (IntKind.i64.wrap ((wrap64 (a0 - 1)) - x8_2)) = ji17 := (i64_w _).trans hji17
              by_cases c18 : 0 ≤ (ji17)
              ·rw [if_pos c18] at H
               have c18b0 := eq_true c18
               have c18b1 : decide (0 ≤ (ji17)) = true := decide_eq_true c18
               clear c18
               obtain ⟨ji19, hji19⟩ : ∃ j_ : Int, (shr .i64 (rd l1 x7_1) (ji17)) = j_ := ⟨_, rfl⟩
               replace H : (if 0 ≤ (wrap64 (7 - (Int.tmod (wrap64 ((wrap64 (x7_1 * a0)) + x8_2)) 8))) then (vitrineref11_Pack.l1 k2 a0 l1 (x6_2.set ((ji12) : Int).toNat (Go.bits .or .u8 (rd x6_2 (ji12)) (shl .u8 ((Go.bits .and .i64 (ji19) 1) % 256) (wrap64 (7 - (Int.tmod (wrap64 ((wrap64 (x7_1 * a0)) + x8_2)) 8)))))) x7_1 (wrap64 (x8_2 + 1))) else (none)) = some (r1, r2) := by first | (rw [hji19] at H; exact H) | (simp only [hji19] at H ⊢; exact H)
               have hji19_ : ((rd l1 x7_1) / 2 ^ min (ji17).toNat 64) = ji19 := hji19
               have hji19z : (ji17) ≤ 64 → ((rd l1 x7_1) / 2 ^ (ji17).toNat) = ji19 := shr_small hji19
               obtain ⟨ji20, hji20⟩ : ∃ j_ : Int, (wrap64 (7 - (Int.tmod (wrap64 ((wrap64 (x7_1 * a0)) + x8_2)) 8))) = j_ := ⟨_, rfl⟩
               replace H : (if 0 ≤ (ji20) then (vitrineref11_Pack.l1 k2 a0 l1 (x6_2.set ((ji12) : Int).toNat (Go.bits .or .u8 (rd x6_2 (ji12)) (shl .u8 ((Go.bits .and .i64 (ji19) 1) % 256) (ji20)))) x7_1 (wrap64 (x8_2 + 1))) else (none)) = some (r1, r2) := by first | (rw [hji20] at H; exact H) | (simp only [hji20] at H ⊢; exact H)
               have hji20w : (IntKind.i64.wrap (7 - (Int.tmod (wrap64 ((wrap64 (x7_1 * a0)) + x8_2)) 8))) = ji20 := (i64_w _).trans hji20
               by_cases c21 : 0 ≤ (ji20)
               ·rw [if_pos c21] at H
                have c21b0 := eq_true c21
                have c21b1 : decide (0 ≤ (ji20)) = true := decide_eq_true c21
                clear c21
                obtain ⟨ji22, hji22⟩ : ∃ j_ : Int, (shl .u8 ((Go.bits .and .i64 (ji19) 1) % 256) (ji20)) = j_ := ⟨_, rfl⟩
                replace H : (vitrineref11_Pack.l1 k2 a0 l1 (x6_2.set ((ji12) : Int).toNat (Go.bits .or .u8 (rd x6_2 (ji12)) (ji22))) x7_1 (wrap64 (x8_2 + 1))) = some (r1, r2) := by first | (rw [hji22] at H; exact H) | (simp only [hji22] at H ⊢; exact H)
                have hji22_ : (IntKind.u8.wrap (((Go.bits .and .i64 (ji19) 1) % 256) * 2 ^ min (ji20).toNat 8)) = ji22 := hji22
                have hji22z : (ji20) ≤ 8 → (IntKind.u8.wrap (((Go.bits .and .i64 (ji19) 1) % 256) * 2 ^ (ji20).toNat)) = ji22 := shl_small hji22
                have hji22y : (((Go.bits .and .i64 (ji19) 1) % 256) * 2 ^ min (ji20).toNat 8) % 256 = ji22 := by have h_ := hji22_; rw [Go.IntKind.wrap_u8] at h_; exact h_
                have hji22x : (ji20) ≤ 8 → (((Go.bits .and .i64 (ji19) 1) % 256) * 2 ^ (ji20).toNat) % 256 = ji22 := fun hle_ => by have h_ := hji22z hle_; rw [Go.IntKind.wrap_u8] at h_; exact h_
                obtain ⟨y421, hy421⟩ : ∃ y_ : List Int, y_ = (x6_2.set ((ji12) : Int).toNat (Go.bits .or .u8 (rd x6_2 (ji12)) (ji22))) := ⟨_, rfl⟩
                replace H : (vitrineref11_Pack.l1 k2 a0 l1 y421 x7_1 (wrap64 (x8_2 + 1))) = some (r1, r2) := by first | (rw [hy421]; with_reducible exact H) | (have H2_ := (Option.bind_some _ _).symm.trans H; rw [hy421]; with_reducible exact H2_) | (have H2_ := (Option.bind_some _ _).symm.trans H; with_reducible exact H2_) | with_reducible exact H | (rw [hy421]; exact H) | exact H
                have Ny421 := Aside0.mk hy421
                clear hy421
                have H' := Aside0.mk H
                clear H
                try go_wp2
                have n0_ := Aside0.mk (Kd.R_drew HO_6.out)
                have n1_ := Aside0.mk (below_drew1 HB.out)
                clear HO_6
                clear HB
                have HO_6 := n0_
                have HB := n1_
                clear n0_ n1_
                obtain ⟨Ao25, co25, eo25⟩ := Kd.R_slice HO_6.out
                (first | subst eo25 | (injection eo25 with f1_ f2_ f3_; have f4_ := f1_.symm; have f5_ := f3_.symm; clear f1_ f2_ f3_; subst f4_; subst f5_))
                have p419 : 0 ≤ ((ji12) : Int) := of_decide_eq_true (by first | (with_reducible assumption) | assumption)
                have q419 : (ji12) < (x6_2.length : Int) := of_decide_eq_true (by first | (with_reducible assumption) | assumption)
                obtain ⟨ad419, e419, hx419_0⟩ := Kd.at_int (Kd.R_reads' HO_6.out).2.2 (ji12) p419 q419
                cases e419
                replace p419 := eq_true p419
                replace q419 := eq_true q419
                have p420 : 0 ≤ (x7_1 : Int) := of_decide_eq_true (by first | (with_reducible assumption) | assumption)
                have q420 : x7_1 < (l1.length : Int) := of_decide_eq_true (by first | (with_reducible assumption) | assumption)
                obtain ⟨ad420, e420, hx420_0⟩ := Kd.at_int HR1.out x7_1 p420 q420
                have hw420_0 := hx420_0
                cases e420
                replace hx420_0 := (HB.out.cell (World.block_lt_of_cell? w _ hx420_0)).trans hx420_0
                replace p420 := eq_true p420
                replace q420 := eq_true q420
                have p23 : 0 ≤ ((ji12) : Int) := of_decide_eq_true (by first | (with_reducible assumption) | assumption)
                have q23 : ((ji12) : Int) < ((x6_2.length : Int) : Int) := of_decide_eq_true (by first | (with_reducible assumption) | assumption)
                obtain ⟨go23, co23, eo23, gb23, gl23, cl23, HG23⟩ := Kd.R_form HO_6.out (by omega)
                (first | cases eo23 | (injection eo23 with ea_ en_ ec_; (first | subst ea_ | (injection ea_ with ea_; subst ea_)); subst ec_; clear en_))
                have GB23 := Aside0.mk gb23
                have GG23 := Aside0.mk HG23
                clear gb23 gl23 HG23
                (first | simp only [add_plain] at hx419_0 | skip)
                obtain ⟨hx23_0, hf23_0⟩ := Kd.R_celln 0 HO_6.out ((ji12) : Int) p23 q23
                replace p23 := eq_true p23
                replace q23 := eq_true q23
                have HP26 := Kd.R_putn HO_6.out ((ji12) : Int) (Go.bits .or .u8 (rd x6_2 (ji12)) (ji22))
                rw [← Ny421.out] at HP26
                have HQ26 := Aside0.mk HP26
                clear HP26
                refine start_ (n := 26) (S := fun w' => w'.cell? ⟨go23, ((ji12)).toNat, none⟩ = some (.int .u8 (rd x6_2 (ji12))) ∧ w'.cell? (ad420.add (x7_1).toNat) = some (.int .i64 (rd l1 x7_1))) (ds := [25]) (bm 26 0) (by kernel_rfl) rfl rfl ⟨hx419_0, ((HB.out.cell (World.block_lt_of_cell? w _ hw420_0)).trans hw420_0)⟩ (fun hHeld => ?_); refine with_tabW vitrineref11_Pack.tab11 vitrineref11_Pack.bits11 (fun HT_ HW_ => ?_)
                generalize wr.drew = w24 at HO_6 HB GG23 HQ26 hf23_0 hx23_0 hx419_0 hx420_0 hHeld ⊢
                refine zp 0 36 (bm 26 1) ?_
                refine zp 1 37 (bm 26 3) ?_
                refine zp 2 38 (bm 26 7) ?_
                refine zp 3 39 (bm 26 15) ?_
                refine zp 4 40 (bm 26 31) ?_
                refine zp 5 41 (bm 26 63) ?_
                refine zp 6 42 (bm 26 127) ?_
                refine zp 8 44 (bm 26 383) ?_
                refine zp 9 45 (bm 26 895) ?_
                refine zp 10 46 (bm 26 1919) ?_
                refine zp 12 48 (bm 26 6015) ?_
                refine zp 13 49 (bm 26 14207) ?_
                refine zp 14 50 (bm 26 30591) ?_
                refine zp 15 51 (bm 26 63359) ?_
                refine zp 19 55 (bm 26 587647) ?_
                refine zp 20 56 (bm 26 1636223) ?_
                refine zp 21 57 (bm 26 3733375) ?_
                refine zt 7 43 (bm 26 3733503) rfl (by rintro w' ⟨s0, s1⟩; go_simp; with_reducible rfl) ?_
                refine zt 11 47 (bm 26 3735551) rfl (by rintro w' ⟨s0, s1⟩; go_simp; with_reducible rfl) ?_
                refine zp 16 52 (bm 26 3801087) ?_
                refine zp 17 53 (bm 26 3932159) ?_
                refine zp 18 54 (bm 26 4194303) ?_
                refine zp 22 58 (bm 26 8388607) ?_
                refine zp 23 59 (bm 26 16777215) ?_
                refine zp 24 60 (bm 26 33554431) ?_
                refine last_ (i := 25) (N := none) (bm 26 67108863) rfl rfl (one_of HT_.out (by kernel_rfl)) (by decide) (fun K hK => ?_)
                refine skip_ (w1 := ?_) (by rfl) rfl ?_ ?_
                rotate_left
                ·go_simp
                 rfl
                refine hK.out _ _ ?_
                clear hK K
                refine done_ (done_of HT_.out (by kernel_rfl)) ?_
                try go_wp2
                (try simp only [hji22y])
                go_roundg k2
                case measure => have := HK1.out; have := HK2.out; omega
                case rel => exact ⟨(y421), (wrap64 (x8_2 + 1)), (by first | rfl | (simp; done) | (simp [*]; done)), H', ⟨by have := HK1.out; have := HK2.out; omega⟩, ⟨oz HQ26⟩, ⟨by repeat (first | (with_reducible first | exact HB.out | apply below_alloc | apply pw_below_drewN | apply below_drew1 | refine below_set ?_ GB23.out) | exact HB.out)⟩⟩
               ·rw [if_neg c21] at H
                exact absurd H (by simp)
              ·rw [if_neg c18] at H
               exact absurd H (by simp)
             ·rw [if_neg c16] at H
              exact absurd H (by simp)
            ·rw [if_neg c15] at H
             exact absurd H (by simp)
           ·rw [if_neg c14] at H
            exact absurd H (by simp)
          ·rw [if_neg c13] at H
           exact absurd H (by simp)
         ·rw [if_neg c11] at H
          have c11b0 : decide (x8_2 < a0) = false := decide_eq_false c11
          clear c11
          have H' := Aside0.mk H
          clear H
          go_wp2
          go_roundg k2
          case measure => have := HK1.out; have := HK2.out; omega
          case rel => exact ⟨(x6_2), (wrap64 (x7_1 + 1)), (by first | rfl | (simp; done) | (simp [*]; done)), H', ⟨by have := HK1.out; have := HK2.out; omega⟩, ⟨oz HO_6⟩, ⟨hz HB⟩⟩
      ·rw [if_neg c10] at H
       have c10b0 : decide (x7_1 < (l1.length : Int)) = false := decide_eq_false c10
       clear c10
       simp only [Option.some.injEq, Prod.mk.injEq] at H
       obtain ⟨rfl, rfl⟩ := H
       have hcv27 := own_string (P := Try.prog) Try.underlying45 Try.underlying5 Try.underlying9 (Kd.own_of_R HO_6.out)
       go_wp2
       go_ret2
       exact ⟨by first | rfl | (simp [errW_none, errW_some] <;> rfl) | (simp only [← hji5]; first | rfl | (simp [errW_none, errW_some] <;> rfl)) | (simp [*, errW_none, errW_some] <;> rfl), by repeat (first | (with_reducible first | exact HB.out | apply below_alloc | apply pw_below_drewN | apply below_drew1) | exact HB.out)⟩
   ·rw [if_neg c7] at H
    exact absurd H (by simp)
  ·rw [if_neg c6] at H
   exact absurd H (by simp)
 ·replace c4 := Bool.eq_false_iff.mpr c4
  subst c4
  have H1 : (some ((⟨#[]⟩ : ByteArray), 1)) = some (r1, r2) := by rw [if_neg (show ¬ (false = true) by decide)] at H; exact H
  clear H
  have H := H1
  clear H1
  simp only [Option.some.injEq, Prod.mk.injEq] at H
  obtain ⟨rfl, rfl⟩ := H
  go_enter Try.func33, Try.ntmps33
  go_wp2_with (first | ((with_reducible refine gate_callee (f := 48) rfl ?_); refine gz 11 Try.func48 #[.int .i64 a0] ?_; (with_reducible refine (vitrineref11_Depth.calls a0 false _ A3.out).mono ?_); rintro e w' ⟨rfl, ⟨nd, rfl⟩⟩; refine ⟨_, rfl, ?_⟩))
  go_ret2
  exact ⟨by first | rfl | (simp [errW_none, errW_some] <;> rfl) | (simp [*, errW_none, errW_some] <;> rfl), by repeat (first | (with_reducible first | exact HB.out | apply below_alloc | apply pw_below_drewN | apply below_drew1) | exact HB.out)⟩

end Go.Proofs.Ytejljcglbkjgkaa.PL12

namespace Go.Proofs.Ytejljcglbkjgkaa.PL12
open Go.RowKit Go.Proofs.YtejljcglbkjgkaaW.PrintWords Go.Proofs.YtejljcglbkjgkaaW.PrintLast Go.Proofs.YtejljcglbkjgkaaW.PrintMore
attribute [local go_sem] max2_int min2_int max_two min_two max_three min_three max_four min_four   -- for this text's walks alone
set_option linter.unusedVariables false
set_option linter.unusedSimpArgs false

def vitrineref09_wrong.j0 : Nat → Int → Bool → Option (Int)
 | 0, _, _ => none
 | k + 1, x1, x25 => if x25 = true then (some 1) else (if x1 < 0 then (some 28) else (if x1 > 4 then (some 28) else (some 0)))
def vitrineref09_wrong.f (k : Nat) (a0 : Int) (a1 : Int) (a2 : ByteArray) (a3 : ByteArray) : Option (Int) := if a0 < 1 then (vitrineref09_wrong.j0 k a1 true) else (if a0 > 8 then (vitrineref09_wrong.j0 k a1 true) else (if a3.toList = ([] : List UInt8) then (vitrineref09_wrong.j0 k a1 false) else (vitrineref09_wrong.j0 k a1 ((a3.size : Int) != (a2.size : Int)))))
set_option maxHeartbeats 40000000 in
set_option maxRecDepth 100000 in
theorem vitrineref09_wrong.calls (k : Nat) (a0 : Int) (a1 : Int) (a2 : ByteArray) (a3 : ByteArray) (r : Int) (w : World) (h : vitrineref09_wrong.f k a0 a1 a2 a3 = some r) :
  Calls Try.prog 45 #[.int .i64 a0, .int .i64 a1, .string a2, .string a3] w fun e w' => e = .returned (.int .i64 r) ∧ Drawn0 w w' := by
 have H : (if a0 < 1 then (vitrineref09_wrong.j0 k a1 true) else (if a0 > 8 then (vitrineref09_wrong.j0 k a1 true) else (if a3.toList = ([] : List UInt8) then (vitrineref09_wrong.j0 k a1 false) else (vitrineref09_wrong.j0 k a1 ((a3.size : Int) != (a2.size : Int)))))) = some r := h
 clear h
 have HC5 := Aside0.mk H
 clear H
 go_enter Try.func45, Try.ntmps45
 go_upto_region 1 with (fail)
 go_cut [25] (fun v25 wc => ∃ (kq : Nat) (x25_4 : Bool), v25 = .bool x25_4 ∧ Aside0 (vitrineref09_wrong.j0 kq a1 x25_4 = some r) ∧ Aside0 (kq ≤ k) ∧ Drawn0 w wc)
 case first =>
  have H := HC5.out
  clear HC5
  by_cases c6 : a0 < 1
  ·rw [if_pos c6] at H
   have c6b0 : decide (a0 < 1) = true := decide_eq_true c6
   clear c6
   (first | rw [c6b0] | (simp only [i64_w, i32_w]; rw [c6b0]) | skip)
   have H' := Aside0.mk H
   clear H
   go_wp2
   go_meet
   case rel => exact ⟨_, (true), (by first | rfl | (simp; done) | (simp [*]; done)), H', ⟨by first | omega | exact Nat.le_refl _⟩, by repeat (first | exact Drawn0.refl _ | apply Drawn0.step)⟩
  ·rw [if_neg c6] at H
   have c6b0 : decide (a0 < 1) = false := decide_eq_false c6
   clear c6
   (first | rw [c6b0] | (simp only [i64_w, i32_w]; rw [c6b0]) | skip)
   by_cases c7 : a0 > 8
   ·rw [if_pos c7] at H
    have c7b0 : decide (8 < a0) = true := decide_eq_true c7
    clear c7
    have H' := Aside0.mk H
    clear H
    go_wp2
    go_meet
    case rel => exact ⟨_, (true), (by first | rfl | (simp; done) | (simp [*]; done)), H', ⟨by first | omega | exact Nat.le_refl _⟩, by repeat (first | exact Drawn0.refl _ | apply Drawn0.step)⟩
   ·rw [if_neg c7] at H
    have c7b0 : decide (8 < a0) = false := decide_eq_false c7
    clear c7
    by_cases c8 : a3.toList = ([] : List UInt8)
    ·rw [if_pos c8] at H
     have c8b0 : (a3.toList == ([] : List UInt8)) = true := beq_iff_eq.mpr c8
     have c8b1 : (a3.toList != ([] : List UInt8)) = false := bne_eq_false_iff_eq.mpr c8
     clear c8
     have H' := Aside0.mk H
     clear H
     go_wp2
     go_meet
     case rel => exact ⟨_, (false), (by first | rfl | (simp; done) | (simp [*]; done)), H', ⟨by first | omega | exact Nat.le_refl _⟩, by repeat (first | exact Drawn0.refl _ | apply Drawn0.step)⟩
    ·rw [if_neg c8] at H
     have c8b0 : (a3.toList == ([] : List UInt8)) = false := beq_eq_false_iff_ne.mpr c8
     have c8b1 : (a3.toList != ([] : List UInt8)) = true := bne_iff_ne.mpr c8
     have H' := Aside0.mk H
     clear H
     go_wp2
     go_meet
     case rel => exact ⟨_, (((a3.size : Int) != (a2.size : Int))), (by first | rfl | (simp; done) | (simp [*]; done)), H', ⟨by first | omega | exact Nat.le_refl _⟩, by repeat (first | exact Drawn0.refl _ | apply Drawn0.step)⟩
 case rest =>
  clear HC5
  obtain ⟨kq, x25_4, rfl, HA, HJ4, ⟨mc4, rfl⟩⟩ := hcut
  cases kq with
  | zero => exact absurd HA.out (by simp [vitrineref09_wrong.j0])
  | succ kj4 =>
   have H := HA.out
   clear HA
   simp only [vitrineref09_wrong.j0] at H
   by_cases c9 : x25_4 = true
   ·subst c9
    have H1 : (some 1) = some r := by rw [if_pos rfl] at H; exact H
    clear H
    have H := H1
    clear H1
    obtain rfl := Option.some.inj H
    go_wp2
    go_ret
    exact ⟨by first | rfl | (simp; done) | (simp [*]; done), by repeat (first | exact Drawn0.refl _ | apply Drawn0.step)⟩
   ·replace c9 := Bool.eq_false_iff.mpr c9
    subst c9
    have H1 : (if a1 < 0 then (some 28) else (if a1 > 4 then (some 28) else (some 0))) = some r := by rw [if_neg (show ¬ (false = true) by decide)] at H; exact H
    clear H
    have H := H1
    clear H1
    by_cases c10 : a1 < 0
    ·rw [if_pos c10] at H
     have c10b0 : decide (a1 < 0) = true := decide_eq_true c10
     clear c10
     obtain rfl := Option.some.inj H
     go_wp2
     go_ret
     exact ⟨by first | rfl | (simp; done) | (simp [*]; done), by repeat (first | exact Drawn0.refl _ | apply Drawn0.step)⟩
    ·rw [if_neg c10] at H
     have c10b0 : decide (a1 < 0) = false := decide_eq_false c10
     clear c10
     by_cases c11 : a1 > 4
     ·rw [if_pos c11] at H
      have c11b0 : decide (4 < a1) = true := decide_eq_true c11
      clear c11
      obtain rfl := Option.some.inj H
      go_wp2
      go_ret
      exact ⟨by first | rfl | (simp; done) | (simp [*]; done), by repeat (first | exact Drawn0.refl _ | apply Drawn0.step)⟩
     ·rw [if_neg c11] at H
      have c11b0 : decide (4 < a1) = false := decide_eq_false c11
      clear c11
      obtain rfl := Option.some.inj H
      go_wp2
      go_ret
      exact ⟨by first | rfl | (simp; done) | (simp [*]; done), by repeat (first | exact Drawn0.refl _ | apply Drawn0.step)⟩

def vitrineref09_away.f (a0 : Int) (a1 : Int) : Option (Int) := some (mx (wrap64 (a0 - a1)) (wrap64 (a1 - a0)))
set_option maxHeartbeats 40000000 in
set_option maxRecDepth 100000 in
theorem vitrineref09_away.calls (a0 : Int) (a1 : Int) (r : Int) (w : World) (h : vitrineref09_away.f a0 a1 = some r) :
  Calls Try.prog 60 #[.int .i64 a0, .int .i64 a1] w fun e w' => e = .returned (.int .i64 r) ∧ Below w.heap.size w w' := by
 have HB := Aside0.mk (Below.refl w.heap.size w)
 have H : (some (mx (wrap64 (a0 - a1)) (wrap64 (a1 - a0)))) = some r := h
 clear h
 obtain ⟨ji3, hji3⟩ : ∃ j_ : Int, (mx (wrap64 (a0 - a1)) (wrap64 (a1 - a0))) = j_ := ⟨_, rfl⟩
 replace H : (some ji3) = some r := by first | (rw [hji3] at H; exact H) | (simp only [hji3] at H ⊢; exact H)
 have hji3_ : (if (wrap64 (a0 - a1)) < (wrap64 (a1 - a0)) then (wrap64 (a1 - a0)) else (wrap64 (a0 - a1))) = ji3 := hji3
 obtain rfl := Option.some.inj H
 go_enter Try.func60, Try.ntmps60
 go_wp2
 go_ret
 exact ⟨by first | rfl | (simp [errW_none, errW_some] <;> rfl) | (simp only [← hji3]; first | rfl | (simp [errW_none, errW_some] <;> rfl)) | (simp [*, errW_none, errW_some] <;> rfl), by repeat (first | (with_reducible first | exact HB.out | apply below_alloc | apply pw_below_drewN | apply below_drew1) | exact HB.out)⟩

end Go.Proofs.Ytejljcglbkjgkaa.PL12

namespace Go.Proofs.Ytejljcglbkjgkaa.PL12
open Go.RowKit Go.Proofs.YtejljcglbkjgkaaW.PrintWords Go.Proofs.YtejljcglbkjgkaaW.PrintLast Go.Proofs.YtejljcglbkjgkaaW.PrintMore
attribute [local go_sem] max2_int min2_int max_two min_two max_three min_three max_four min_four   -- for this text's walks alone
set_option linter.unusedVariables false
set_option linter.unusedSimpArgs false

def vitrineref09_tells.j0 : Nat → Int → Int → Int → Int → Bool → Option (Int)
 | 0, _, _, _, _, _ => none
 | k + 1, x1, x2, x3, x9, x45 => if x45 = true then (some x1) else ((vitrineref09_away.f x9 x2).bind fun t341 => ((vitrineref09_away.f x9 x3).bind fun t342 => (if t341 ≤ t342 then (some x2) else (some x3))))
def vitrineref09_tells.f (k : Nat) (a0 : Int) (a1 : Int) (a2 : Int) (a3 : Int) : Option (Int) := if a0 = 1 then (some a1) else (if a0 = 2 then (some a2) else (if a0 = 3 then (some (wrap64 (Int.tdiv (wrap64 (a1 + a2)) 2))) else (if a0 = 4 then ((vitrineref09_away.f (wrap64 ((wrap64 (a1 + a2)) - a3)) a1).bind fun t337 => ((vitrineref09_away.f (wrap64 ((wrap64 (a1 + a2)) - a3)) a2).bind fun t338 => (if t337 ≤ t338 then ((vitrineref09_away.f (wrap64 ((wrap64 (a1 + a2)) - a3)) a1).bind fun t339 => ((vitrineref09_away.f (wrap64 ((wrap64 (a1 + a2)) - a3)) a3).bind fun t340 => (vitrineref09_tells.j0 k a1 a2 a3 (wrap64 ((wrap64 (a1 + a2)) - a3)) (decide (t339 ≤ t340))))) else (vitrineref09_tells.j0 k a1 a2 a3 (wrap64 ((wrap64 (a1 + a2)) - a3)) false)))) else (some 0))))
set_option maxHeartbeats 40000000 in
set_option maxRecDepth 100000 in
theorem vitrineref09_tells.calls (k : Nat) (a0 : Int) (a1 : Int) (a2 : Int) (a3 : Int) (r : Int) (w : World) (h : vitrineref09_tells.f k a0 a1 a2 a3 = some r) :
  Calls Try.prog 46 #[.int .i64 a0, .int .i64 a1, .int .i64 a2, .int .i64 a3] w fun e w' => e = .returned (.int .i64 r) ∧ Below w.heap.size w w' := by
 have HB := Aside0.mk (Below.refl w.heap.size w)
 have H : (if a0 = 1 then (some a1) else (if a0 = 2 then (some a2) else (if a0 = 3 then (some (wrap64 (Int.tdiv (wrap64 (a1 + a2)) 2))) else (if a0 = 4 then ((vitrineref09_away.f (wrap64 ((wrap64 (a1 + a2)) - a3)) a1).bind fun t337 => ((vitrineref09_away.f (wrap64 ((wrap64 (a1 + a2)) - a3)) a2).bind fun t338 => (if t337 ≤ t338 then ((vitrineref09_away.f (wrap64 ((wrap64 (a1 + a2)) - a3)) a1).bind fun t339 => ((vitrineref09_away.f (wrap64 ((wrap64 (a1 + a2)) - a3)) a3).bind fun t340 => (vitrineref09_tells.j0 k a1 a2 a3 (wrap64 ((wrap64 (a1 + a2)) - a3)) (decide (t339 ≤ t340))))) else (vitrineref09_tells.j0 k a1 a2 a3 (wrap64 ((wrap64 (a1 + a2)) - a3)) false)))) else (some 0))))) = some r := h
 clear h
 by_cases c5 : a0 = 1
 ·rw [if_pos c5] at H
  have c5b0 : (a0 == 1) = true := beq_iff_eq.mpr c5
  have c5b1 : (a0 != 1) = false := bne_eq_false_iff_eq.mpr c5
  clear c5
  obtain rfl := Option.some.inj H
  go_enter Try.func46, Try.ntmps46
  go_wp2
  go_ret
  exact ⟨by first | rfl | (simp [errW_none, errW_some] <;> rfl) | (simp [*, errW_none, errW_some] <;> rfl), by repeat (first | (with_reducible first | exact HB.out | apply below_alloc | apply pw_below_drewN | apply below_drew1) | exact HB.out)⟩
 ·rw [if_neg c5] at H
  have c5b0 : (a0 == 1) = false := beq_eq_false_iff_ne.mpr c5
  have c5b1 : (a0 != 1) = true := bne_iff_ne.mpr c5
  by_cases c6 : a0 = 2
  ·rw [if_pos c6] at H
   have c6b0 : (a0 == 2) = true := beq_iff_eq.mpr c6
   have c6b1 : (a0 != 2) = false := bne_eq_false_iff_eq.mpr c6
   clear c6
   obtain rfl := Option.some.inj H
   go_enter Try.func46, Try.ntmps46
   go_wp2
   go_ret
   exact ⟨by first | rfl | (simp [errW_none, errW_some] <;> rfl) | (simp [*, errW_none, errW_some] <;> rfl), by repeat (first | (with_reducible first | exact HB.out | apply below_alloc | apply pw_below_drewN | apply below_drew1) | exact HB.out)⟩
  ·rw [if_neg c6] at H
   have c6b0 : (a0 == 2) = false := beq_eq_false_iff_ne.mpr c6
   have c6b1 : (a0 != 2) = true := bne_iff_ne.mpr c6
   by_cases c7 : a0 = 3
   ·rw [if_pos c7] at H
    have c7b0 : (a0 == 3) = true := beq_iff_eq.mpr c7
    have c7b1 : (a0 != 3) = false := bne_eq_false_iff_eq.mpr c7
    clear c7
    obtain rfl := Option.some.inj H
    go_enter Try.func46, Try.ntmps46
    go_wp2
    go_ret
    exact ⟨by first | rfl | (simp [errW_none, errW_some] <;> rfl) | (simp [*, errW_none, errW_some] <;> rfl), by repeat (first | (with_reducible first | exact HB.out | apply below_alloc | apply pw_below_drewN | apply below_drew1) | exact HB.out)⟩
   ·rw [if_neg c7] at H
    have c7b0 : (a0 == 3) = false := beq_eq_false_iff_ne.mpr c7
    have c7b1 : (a0 != 3) = true := bne_iff_ne.mpr c7
    by_cases c8 : a0 = 4
    ·rw [if_pos c8] at H
     have c8b0 : (a0 == 4) = true := beq_iff_eq.mpr c8
     have c8b1 : (a0 != 4) = false := bne_eq_false_iff_eq.mpr c8
     clear c8
     have HC9 := Aside0.mk H
     clear H
     go_enter Try.func46, Try.ntmps46
     go_upto_region 10 with (fail)
     go_cut [45] (fun v45 wc => ∃ (kq : Nat) (x45_8 : Bool), v45 = .bool x45_8 ∧ Aside0 (vitrineref09_tells.j0 kq a1 a2 a3 (wrap64 ((wrap64 (a1 + a2)) - a3)) x45_8 = some r) ∧ Aside0 (kq ≤ k) ∧ Aside0 (Below w.heap.size w wc))
     case first =>
      have H := HC9.out
      clear HC9
      replace H := Option.bind_eq_some_iff.mp H
      obtain ⟨t337, A100, H⟩ := H
      replace H : ((vitrineref09_away.f (wrap64 ((wrap64 (a1 + a2)) - a3)) a2).bind fun t338 => (if t337 ≤ t338 then ((vitrineref09_away.f (wrap64 ((wrap64 (a1 + a2)) - a3)) a1).bind fun t339 => ((vitrineref09_away.f (wrap64 ((wrap64 (a1 + a2)) - a3)) a3).bind fun t340 => (vitrineref09_tells.j0 k a1 a2 a3 (wrap64 ((wrap64 (a1 + a2)) - a3)) (decide (t339 ≤ t340))))) else (vitrineref09_tells.j0 k a1 a2 a3 (wrap64 ((wrap64 (a1 + a2)) - a3)) false))) = some r := H
      have A10 := Aside0.mk A100
      clear A100
      replace H := Option.bind_eq_some_iff.mp H
      obtain ⟨t338, A110, H⟩ := H
      replace H : (if t337 ≤ t338 then ((vitrineref09_away.f (wrap64 ((wrap64 (a1 + a2)) - a3)) a1).bind fun t339 => ((vitrineref09_away.f (wrap64 ((wrap64 (a1 + a2)) - a3)) a3).bind fun t340 => (vitrineref09_tells.j0 k a1 a2 a3 (wrap64 ((wrap64 (a1 + a2)) - a3)) (decide (t339 ≤ t340))))) else (vitrineref09_tells.j0 k a1 a2 a3 (wrap64 ((wrap64 (a1 + a2)) - a3)) false)) = some r := H
      have A11 := Aside0.mk A110
      clear A110
      by_cases c12 : t337 ≤ t338
      ·rw [if_pos c12] at H
       have c12b0 : decide (t337 ≤ t338) = true := decide_eq_true c12
       clear c12
       (first | rw [c12b0] | (simp only [i64_w, i32_w]; rw [c12b0]) | skip)
       replace H := Option.bind_eq_some_iff.mp H
       obtain ⟨t339, A130, H⟩ := H
       replace H : ((vitrineref09_away.f (wrap64 ((wrap64 (a1 + a2)) - a3)) a3).bind fun t340 => (vitrineref09_tells.j0 k a1 a2 a3 (wrap64 ((wrap64 (a1 + a2)) - a3)) (decide (t339 ≤ t340)))) = some r := H
       have A13 := Aside0.mk A130
       clear A130
       replace H := Option.bind_eq_some_iff.mp H
       obtain ⟨t340, A140, H⟩ := H
       replace H : (vitrineref09_tells.j0 k a1 a2 a3 (wrap64 ((wrap64 (a1 + a2)) - a3)) (decide (t339 ≤ t340))) = some r := H
       have A14 := Aside0.mk A140
       clear A140
       have H' := Aside0.mk H
       clear H
       go_wp2_with (first | ((with_reducible refine gate_callee (f := 60) rfl ?_); refine gz 32 Try.func60 #[.int .i64 (wrap64 ((wrap64 (a1 + a2)) - a3)), .int .i64 a1] ?_; (with_reducible refine (vitrineref09_away.calls (wrap64 ((wrap64 (a1 + a2)) - a3)) a1 t337 _ A10.out).mono ?_); rintro e w15 ⟨rfl, hb⟩; refine ⟨_, rfl, ?_⟩; have n0_ := Aside0.mk (below_step (hz HB) hb); clear HB; have HB := n0_; clear n0_; (try clear hb); (try clear hb2); (try clear hk); (try clear hi)) | ((with_reducible refine gate_callee (f := 60) rfl ?_); refine gz 35 Try.func60 #[.int .i64 (wrap64 ((wrap64 (a1 + a2)) - a3)), .int .i64 a2] ?_; (with_reducible refine (vitrineref09_away.calls (wrap64 ((wrap64 (a1 + a2)) - a3)) a2 t338 _ A11.out).mono ?_); rintro e w16 ⟨rfl, hb⟩; refine ⟨_, rfl, ?_⟩; have n0_ := Aside0.mk (below_step (hz HB) hb); clear HB; have HB := n0_; clear n0_; (try clear hb); (try clear hb2); (try clear hk); (try clear hi)) | (go_at_call 60; (with_reducible refine (vitrineref09_away.calls (wrap64 ((wrap64 (a1 + a2)) - a3)) a1 t339 _ A13.out).mono ?_); rintro e w17 ⟨rfl, hb⟩; have n0_ := Aside0.mk (below_step (hz HB) hb); clear HB; have HB := n0_; clear n0_; (try clear hb); (try clear hb2); (try clear hk); (try clear hi)) | (go_at_call 60; (with_reducible refine (vitrineref09_away.calls (wrap64 ((wrap64 (a1 + a2)) - a3)) a3 t340 _ A14.out).mono ?_); rintro e w18 ⟨rfl, hb⟩; have n0_ := Aside0.mk (below_step (hz HB) hb); clear HB; have HB := n0_; clear n0_; (try clear hb); (try clear hb2); (try clear hk); (try clear hi)))
       go_meet
       case rel => exact ⟨_, (decide (t339 ≤ t340)), (by first | rfl | (simp; done) | (simp [*]; done)), H', ⟨by first | omega | exact Nat.le_refl _⟩, ⟨hz HB⟩⟩
      ·rw [if_neg c12] at H
       have c12b0 : decide (t337 ≤ t338) = false := decide_eq_false c12
       clear c12
       (first | rw [c12b0] | (simp only [i64_w, i32_w]; rw [c12b0]) | skip)
       have H' := Aside0.mk H
       clear H
       go_wp2_with (first | ((with_reducible refine gate_callee (f := 60) rfl ?_); refine gz 32 Try.func60 #[.int .i64 (wrap64 ((wrap64 (a1 + a2)) - a3)), .int .i64 a1] ?_; (with_reducible refine (vitrineref09_away.calls (wrap64 ((wrap64 (a1 + a2)) - a3)) a1 t337 _ A10.out).mono ?_); rintro e w19 ⟨rfl, hb⟩; refine ⟨_, rfl, ?_⟩; have n0_ := Aside0.mk (below_step (hz HB) hb); clear HB; have HB := n0_; clear n0_; (try clear hb); (try clear hb2); (try clear hk); (try clear hi)) | ((with_reducible refine gate_callee (f := 60) rfl ?_); refine gz 35 Try.func60 #[.int .i64 (wrap64 ((wrap64 (a1 + a2)) - a3)), .int .i64 a2] ?_; (with_reducible refine (vitrineref09_away.calls (wrap64 ((wrap64 (a1 + a2)) - a3)) a2 t338 _ A11.out).mono ?_); rintro e w20 ⟨rfl, hb⟩; refine ⟨_, rfl, ?_⟩; have n0_ := Aside0.mk (below_step (hz HB) hb); clear HB; have HB := n0_; clear n0_; (try clear hb); (try clear hb2); (try clear hk); (try clear hi)))
       go_meet
       case rel => exact ⟨_, (false), (by first | rfl | (simp; done) | (simp [*]; done)), H', ⟨by first | omega | exact Nat.le_refl _⟩, ⟨hz HB⟩⟩
     case rest =>
      clear HC9
      try clear c5
      try clear c5b0
      try clear c5b1
      try clear c6
      try clear c6b0
      try clear c6b1
      try clear c7
      try clear c7b0
      try clear c7b1
      try clear c8
      try clear c8b0
      try clear c8b1
      obtain ⟨kq, x45_8, rfl, HA, HJ8, HB⟩ := hcut
      cases kq with
      | zero => exact absurd HA.out (by simp [vitrineref09_tells.j0])
      | succ kj8 =>
       have H := HA.out
       clear HA
       simp only [vitrineref09_tells.j0] at H
       by_cases c21 : x45_8 = true
       ·subst c21
        have H1 : (some a1) = some r := by rw [if_pos rfl] at H; exact H
        clear H
        have H := H1
        clear H1
        obtain rfl := Option.some.inj H
        go_wp2
        go_ret
        exact ⟨by first | rfl | (simp [errW_none, errW_some] <;> rfl) | (simp [*, errW_none, errW_some] <;> rfl), by repeat (first | (with_reducible first | exact HB.out | apply below_alloc | apply pw_below_drewN | apply below_drew1) | exact HB.out)⟩
       ·replace c21 := Bool.eq_false_iff.mpr c21
        subst c21
        have H1 : ((vitrineref09_away.f (wrap64 ((wrap64 (a1 + a2)) - a3)) a2).bind fun t341 => ((vitrineref09_away.f (wrap64 ((wrap64 (a1 + a2)) - a3)) a3).bind fun t342 => (if t341 ≤ t342 then (some a2) else (some a3)))) = some r := by rw [if_neg (show ¬ (false = true) by decide)] at H; exact H
        clear H
        have H := H1
        clear H1
        replace H := Option.bind_eq_some_iff.mp H
        obtain ⟨t341, A220, H⟩ := H
        replace H : ((vitrineref09_away.f (wrap64 ((wrap64 (a1 + a2)) - a3)) a3).bind fun t342 => (if t341 ≤ t342 then (some a2) else (some a3))) = some r := H
        have A22 := Aside0.mk A220
        clear A220
        replace H := Option.bind_eq_some_iff.mp H
        obtain ⟨t342, A230, H⟩ := H
        replace H : (if t341 ≤ t342 then (some a2) else (some a3)) = some r := H
        have A23 := Aside0.mk A230
        clear A230
        by_cases c24 : t341 ≤ t342
        ·rw [if_pos c24] at H
         have c24b0 : decide (t341 ≤ t342) = true := decide_eq_true c24
         clear c24
         obtain rfl := Option.some.inj H
         go_wp2_with (first | ((with_reducible refine gate_callee (f := 60) rfl ?_); refine gz 49 Try.func60 #[.int .i64 (wrap64 ((wrap64 (a1 + a2)) - a3)), .int .i64 a2] ?_; (with_reducible refine (vitrineref09_away.calls (wrap64 ((wrap64 (a1 + a2)) - a3)) a2 t341 _ A22.out).mono ?_); rintro e w25 ⟨rfl, hb⟩; refine ⟨_, rfl, ?_⟩; have n0_ := Aside0.mk (below_step (hz HB) hb); clear HB; have HB := n0_; clear n0_; (try clear hb); (try clear hb2); (try clear hk); (try clear hi)) | ((with_reducible refine gate_callee (f := 60) rfl ?_); refine gz 52 Try.func60 #[.int .i64 (wrap64 ((wrap64 (a1 + a2)) - a3)), .int .i64 a3] ?_; (with_reducible refine (vitrineref09_away.calls (wrap64 ((wrap64 (a1 + a2)) - a3)) a3 t342 _ A23.out).mono ?_); rintro e w26 ⟨rfl, hb⟩; refine ⟨_, rfl, ?_⟩; have n0_ := Aside0.mk (below_step (hz HB) hb); clear HB; have HB := n0_; clear n0_; (try clear hb); (try clear hb2); (try clear hk); (try clear hi)))
         go_ret
         exact ⟨by first | rfl | (simp [errW_none, errW_some] <;> rfl) | (simp [*, errW_none, errW_some] <;> rfl), by repeat (first | (with_reducible first | exact HB.out | apply below_alloc | apply pw_below_drewN | apply below_drew1) | exact HB.out)⟩
        ·rw [if_neg c24] at H
         have c24b0 : decide (t341 ≤ t342) = false := decide_eq_false c24
         clear c24
         obtain rfl := Option.some.inj H
         go_wp2_with (first | ((with_reducible refine gate_callee (f := 60) rfl ?_); refine gz 49 Try.func60 #[.int .i64 (wrap64 ((wrap64 (a1 + a2)) - a3)), .int .i64 a2] ?_; (with_reducible refine (vitrineref09_away.calls (wrap64 ((wrap64 (a1 + a2)) - a3)) a2 t341 _ A22.out).mono ?_); rintro e w27 ⟨rfl, hb⟩; refine ⟨_, rfl, ?_⟩; have n0_ := Aside0.mk (below_step (hz HB) hb); clear HB; have HB := n0_; clear n0_; (try clear hb); (try clear hb2); (try clear hk); (try clear hi)) | ((with_reducible refine gate_callee (f := 60) rfl ?_); refine gz 52 Try.func60 #[.int .i64 (wrap64 ((wrap64 (a1 + a2)) - a3)), .int .i64 a3] ?_; (with_reducible refine (vitrineref09_away.calls (wrap64 ((wrap64 (a1 + a2)) - a3)) a3 t342 _ A23.out).mono ?_); rintro e w28 ⟨rfl, hb⟩; refine ⟨_, rfl, ?_⟩; have n0_ := Aside0.mk (below_step (hz HB) hb); clear HB; have HB := n0_; clear n0_; (try clear hb); (try clear hb2); (try clear hk); (try clear hi)))
         go_ret
         exact ⟨by first | rfl | (simp [errW_none, errW_some] <;> rfl) | (simp [*, errW_none, errW_some] <;> rfl), by repeat (first | (with_reducible first | exact HB.out | apply below_alloc | apply pw_below_drewN | apply below_drew1) | exact HB.out)⟩
    ·rw [if_neg c8] at H
     have c8b0 : (a0 == 4) = false := beq_eq_false_iff_ne.mpr c8
     have c8b1 : (a0 != 4) = true := bne_iff_ne.mpr c8
     obtain rfl := Option.some.inj H
     go_enter Try.func46, Try.ntmps46
     go_wp2
     go_ret
     exact ⟨by first | rfl | (simp [errW_none, errW_some] <;> rfl) | (simp [*, errW_none, errW_some] <;> rfl), by repeat (first | (with_reducible first | exact HB.out | apply below_alloc | apply pw_below_drewN | apply below_drew1) | exact HB.out)⟩

end Go.Proofs.Ytejljcglbkjgkaa.PL12

namespace Go.Proofs.Ytejljcglbkjgkaa.PL12
open Go.RowKit Go.Proofs.YtejljcglbkjgkaaW.PrintWords Go.Proofs.YtejljcglbkjgkaaW.PrintLast Go.Proofs.YtejljcglbkjgkaaW.PrintMore
attribute [local go_sem] max2_int min2_int max_two min_two max_three min_three max_four min_four   -- for this text's walks alone
set_option linter.unusedVariables false
set_option linter.unusedSimpArgs false

def vitrineref09_at.f (a0 : ByteArray) (a1 : Int) : Option (Int) := if a1 < 0 then (some 0) else (if a1 ≥ (a0.size : Int) then (some 0) else (if 0 ≤ a1 then (if a1 < (a0.size : Int) then (some (wrap64 (bt a0 a1))) else (none)) else (none)))
set_option maxHeartbeats 40000000 in
set_option maxRecDepth 100000 in
theorem vitrineref09_at.calls (a0 : ByteArray) (a1 : Int) (r : Int) (w : World) (h : vitrineref09_at.f a0 a1 = some r) :
  Calls Try.prog 47 #[.string a0, .int .i64 a1] w fun e w' => e = .returned (.int .i64 r) ∧ Drawn0 w w' := by
 have H : (if a1 < 0 then (some 0) else (if a1 ≥ (a0.size : Int) then (some 0) else (if 0 ≤ a1 then (if a1 < (a0.size : Int) then (some (wrap64 (bt a0 a1))) else (none)) else (none)))) = some r := h
 clear h
 by_cases c3 : a1 < 0
 ·rw [if_pos c3] at H
  have c3b0 : decide (a1 < 0) = true := decide_eq_true c3
  clear c3
  obtain rfl := Option.some.inj H
  go_enter Try.func47, Try.ntmps47
  go_wp2
  go_ret
  exact ⟨by first | rfl | (simp; done) | (simp [*]; done), by repeat (first | exact Drawn0.refl _ | apply Drawn0.step)⟩
 ·rw [if_neg c3] at H
  have c3b0 : decide (a1 < 0) = false := decide_eq_false c3
  clear c3
  by_cases c4 : a1 ≥ (a0.size : Int)
  ·rw [if_pos c4] at H
   have c4b0 : decide ((a0.size : Int) ≤ a1) = true := decide_eq_true c4
   clear c4
   obtain rfl := Option.some.inj H
   go_enter Try.func47, Try.ntmps47
   go_wp2
   go_ret
   exact ⟨by first | rfl | (simp; done) | (simp [*]; done), by repeat (first | exact Drawn0.refl _ | apply Drawn0.step)⟩
  ·rw [if_neg c4] at H
   have c4b0 : decide ((a0.size : Int) ≤ a1) = false := decide_eq_false c4
   clear c4
   by_cases c5 : 0 ≤ a1
   ·rw [if_pos c5] at H
    have c5b0 : decide (0 ≤ a1) = true := decide_eq_true c5
    clear c5
    by_cases c6 : a1 < (a0.size : Int)
    ·rw [if_pos c6] at H
     have c6b0 : decide (a1 < (a0.size : Int)) = true := decide_eq_true c6
     clear c6
     obtain rfl := Option.some.inj H
     have p7 : 0 ≤ (a1 : Int) := of_decide_eq_true (by first | (with_reducible assumption) | assumption)
     have q7 : a1 < (a0.size : Int) := of_decide_eq_true (by first | (with_reducible assumption) | assumption)
     have hx7 := bt_at a0 a1
     replace p7 := eq_true p7
     replace q7 := eq_true q7
     go_enter Try.func47, Try.ntmps47
     go_wp2
     go_ret
     exact ⟨by first | rfl | (simp; done) | (simp [*]; done), by repeat (first | exact Drawn0.refl _ | apply Drawn0.step)⟩
    ·rw [if_neg c6] at H
     exact absurd H (by simp)
   ·rw [if_neg c5] at H
    exact absurd H (by simp)

end Go.Proofs.Ytejljcglbkjgkaa.PL12

namespace Go.Proofs.Ytejljcglbkjgkaa.PL12
open Go.RowKit Go.Proofs.YtejljcglbkjgkaaW.PrintWords Go.Proofs.YtejljcglbkjgkaaW.PrintLast Go.Proofs.YtejljcglbkjgkaaW.PrintMore
attribute [local go_sem] max2_int min2_int max_two min_two max_three min_three max_four min_four   -- for this text's walks alone
set_option linter.unusedVariables false
set_option linter.unusedSimpArgs false

def vitrineref09_Do.l0 : Nat → Int → Int → ByteArray → ByteArray → List Int → Int → Option (ByteArray × Int)
 | 0, _, _, _, _, _, _ => none
 | k + 1, x0, x1, x2, x3, x11, x12 => if x12 < (x2.size : Int) then (if x12 ≥ x0 then ((vitrineref09_at.f x3 (wrap64 (x12 - x0))).bind fun t423 => (if 0 ≤ x12 then ((vitrineref09_at.f x2 (wrap64 (x12 - x0))).bind fun t424 => ((vitrineref09_at.f x3 x12).bind fun t425 => ((vitrineref09_tells.f k x1 t424 t425 t423).bind fun t426 => (if x11.length < 140737488355328 then (vitrineref09_Do.l0 k x0 x1 x2 x3 (x11 ++ [(wrap64 ((wrap64 (bt x2 x12)) - t426)) % 256]) (wrap64 (x12 + 1))) else (none))))) else (none))) else (if 0 ≤ x12 then ((vitrineref09_at.f x2 (wrap64 (x12 - x0))).bind fun t430 => ((vitrineref09_at.f x3 x12).bind fun t431 => ((vitrineref09_tells.f k x1 t430 t431 0).bind fun t432 => (if x11.length < 140737488355328 then (vitrineref09_Do.l0 k x0 x1 x2 x3 (x11 ++ [(wrap64 ((wrap64 (bt x2 x12)) - t432)) % 256]) (wrap64 (x12 + 1))) else (none))))) else (none))) else (some (strOfNums x11, 0))
def vitrineref09_Do.f (k : Nat) (a0 : Int) (a1 : Int) (a2 : ByteArray) (a3 : ByteArray) : Option (ByteArray × Int) := (vitrineref09_wrong.f k a0 a1 a2 a3).bind fun t422 => (if t422 = 0 then (vitrineref09_Do.l0 k a0 a1 a2 a3 ([] : List Int) 0) else (some ((⟨#[]⟩ : ByteArray), t422)))
def vitrineref09_Do.T11 : Bool × List (List Nat × List Nat) := (true, [([], []), ([], []), ([], []), ([1, 2], [1, 2]), ([3], [3]), ([], []), ([], []), ([], []), ([], []), ([7, 8], [7, 8]), ([6, 9], [6, 9]), ([], []), ([], []), ([11, 12, 10], [11, 12]), ([], []), ([5, 10, 13, 14, 13], [5, 10, 13, 14]), ([4, 15], [4, 15]), ([16], [16]), ([17], [17]), ([0, 18, 15], [0, 18]), ([19, 19, 0, 1, 2, 3, 4, 5, 6, 7, 8, 9, 10, 11, 12, 13, 14, 15, 16, 17, 18, 19], [0, 19])])
def vitrineref09_Do.B11 : List Nat := [0, 0, 0, 6, 14, 0, 0, 0, 0, 384, 960, 0, 0, 8128, 0, 32736, 65534, 131070, 262142, 524287, 1048575]
theorem vitrineref09_Do.tab11 : rtab .any (opsOf Try.f35 11) = vitrineref09_Do.T11 := by kernel_rfl
theorem vitrineref09_Do.bits11 : waitsOk vitrineref09_Do.T11.2 vitrineref09_Do.B11 = true := by kernel_rfl
set_option maxHeartbeats 40000000 in
set_option maxRecDepth 100000 in
theorem vitrineref09_Do.calls (k : Nat) (a0 : Int) (a1 : Int) (a2 : ByteArray) (a3 : ByteArray) (r1 : ByteArray) (r2 : Int) (w : World) (h : vitrineref09_Do.f k a0 a1 a2 a3 = some (r1, r2)) :
  Calls Try.prog 35 #[.int .i64 a0, .int .i64 a1, .string a2, .string a3] w fun e w' => e = .returned (.tuple #[.string r1, .int .i64 r2]) ∧ Below w.heap.size w w' := by
 have HB := Aside0.mk (Below.refl w.heap.size w)
 have H : ((vitrineref09_wrong.f k a0 a1 a2 a3).bind fun t422 => (if t422 = 0 then (vitrineref09_Do.l0 k a0 a1 a2 a3 ([] : List Int) 0) else (some ((⟨#[]⟩ : ByteArray), t422)))) = some (r1, r2) := h
 clear h
 replace H := Option.bind_eq_some_iff.mp H
 obtain ⟨t422, A50, H⟩ := H
 replace H : (if t422 = 0 then (vitrineref09_Do.l0 k a0 a1 a2 a3 ([] : List Int) 0) else (some ((⟨#[]⟩ : ByteArray), t422))) = some (r1, r2) := H
 have A5 := Aside0.mk A50
 clear A50
 by_cases c6 : t422 = 0
 ·rw [if_pos c6] at H
  have c6b0 : (t422 == 0) = true := beq_iff_eq.mpr c6
  have c6b1 : (t422 != 0) = false := bne_eq_false_iff_eq.mpr c6
  clear c6
  have H' := Aside0.mk H
  clear H
  go_enter Try.func35, Try.ntmps35
  go_wp2_with (first | ((with_reducible refine gate_callee (f := 45) rfl ?_); refine gz 18 Try.func45 #[.int .i64 a0, .int .i64 a1, .string a2, .string a3] ?_; (with_reducible refine (vitrineref09_wrong.calls k a0 a1 a2 a3 t422 _ A5.out).mono ?_); rintro e w' ⟨rfl, ⟨nd, rfl⟩⟩; refine ⟨_, rfl, ?_⟩))
  go_loopg [11, 12] k (fun kq v11 v12 w' => ∃ (x11_1 : List Int) (x12_1 : Int), v12 = .int .i64 x12_1 ∧ Aside0 (vitrineref09_Do.l0 kq a0 a1 a2 a3 x11_1 x12_1 = some (r1, r2)) ∧ Aside0 (kq ≤ k) ∧ Aside0 (Kd.R (Kd.int .u8) 5 w' w.heap.size (fun _ => True) v11 x11_1) ∧ Aside0 (Below w.heap.size w w'))
  case atStart => exact ⟨(([] : List Int)), (0), (by first | rfl | (simp; done) | (simp [*]; done)), H', ⟨Nat.le_refl _⟩, ⟨by first | exact Kd.R_nil _ _ _ _ _ | exact Kd.N_nil _ _ _ _ _ | exact Kd.V_nil _ _ _ _ _ | exact Kd.Q_nil _ _ _ _ _ | exact Kd.S_nil _ _ _ _ _⟩, ⟨hz HB⟩⟩
  case round =>
   clear H'
   try clear c6
   try clear c6b0
   try clear c6b1
   obtain ⟨x11_1, x12_1, rfl, HA, HK1, HO_11, HB⟩ := hrel
   cases gk with
   | zero => exact absurd HA.out (by simp [vitrineref09_Do.l0])
   | succ k1 =>
    have H := HA.out
    clear HA
    simp only [vitrineref09_Do.l0] at H
    by_cases c7 : x12_1 < (a2.size : Int)
    ·rw [if_pos c7] at H
     have c7b0 : decide (x12_1 < (a2.size : Int)) = true := decide_eq_true c7
     clear c7
     by_cases c8 : x12_1 ≥ a0
     ·rw [if_pos c8] at H
      have c8b0 : decide (a0 ≤ x12_1) = true := decide_eq_true c8
      clear c8
      replace H := Option.bind_eq_some_iff.mp H
      obtain ⟨t423, A90, H⟩ := H
      replace H : (if 0 ≤ x12_1 then ((vitrineref09_at.f a2 (wrap64 (x12_1 - a0))).bind fun t424 => ((vitrineref09_at.f a3 x12_1).bind fun t425 => ((vitrineref09_tells.f k1 a1 t424 t425 t423).bind fun t426 => (if x11_1.length < 140737488355328 then (vitrineref09_Do.l0 k1 a0 a1 a2 a3 (x11_1 ++ [(wrap64 ((wrap64 (bt a2 x12_1)) - t426)) % 256]) (wrap64 (x12_1 + 1))) else (none))))) else (none)) = some (r1, r2) := H
      have A9 := Aside0.mk A90
      clear A90
      by_cases c10 : 0 ≤ x12_1
      ·rw [if_pos c10] at H
       have c10b0 : decide (0 ≤ x12_1) = true := decide_eq_true c10
       clear c10
       replace H := Option.bind_eq_some_iff.mp H
       obtain ⟨t424, A120, H⟩ := H
       replace H : ((vitrineref09_at.f a3 x12_1).bind fun t425 => ((vitrineref09_tells.f k1 a1 t424 t425 t423).bind fun t426 => (if x11_1.length < 140737488355328 then (vitrineref09_Do.l0 k1 a0 a1 a2 a3 (x11_1 ++ [(wrap64 ((wrap64 (bt a2 x12_1)) - t426)) % 256]) (wrap64 (x12_1 + 1))) else (none)))) = some (r1, r2) := H
       have A12 := Aside0.mk A120
       clear A120
       replace H := Option.bind_eq_some_iff.mp H
       obtain ⟨t425, A130, H⟩ := H
       replace H : ((vitrineref09_tells.f k1 a1 t424 t425 t423).bind fun t426 => (if x11_1.length < 140737488355328 then (vitrineref09_Do.l0 k1 a0 a1 a2 a3 (x11_1 ++ [(wrap64 ((wrap64 (bt a2 x12_1)) - t426)) % 256]) (wrap64 (x12_1 + 1))) else (none))) = some (r1, r2) := H
       have A13 := Aside0.mk A130
       clear A130
       replace H := Option.bind_eq_some_iff.mp H
       obtain ⟨t426, A140, H⟩ := H
       replace H : (if x11_1.length < 140737488355328 then (vitrineref09_Do.l0 k1 a0 a1 a2 a3 (x11_1 ++ [(wrap64 ((wrap64 (bt a2 x12_1)) - t426)) % 256]) (wrap64 (x12_1 + 1))) else (none)) = some (r1, r2) := H
       have A14 := Aside0.mk A140
       clear A140
       by_cases c15 : x11_1.length < 140737488355328
       ·rw [if_pos c15] at H
        have LMc15 := Aside0.mk c15
        clear c15
        obtain ⟨y427, hy427⟩ : ∃ y_ : List Int, y_ = (x11_1 ++ [(wrap64 ((wrap64 (bt a2 x12_1)) - t426)) % 256]) := ⟨_, rfl⟩
        replace H : (vitrineref09_Do.l0 k1 a0 a1 a2 a3 y427 (wrap64 (x12_1 + 1))) = some (r1, r2) := by first | (rw [hy427]; with_reducible exact H) | (have H2_ := (Option.bind_some _ _).symm.trans H; rw [hy427]; with_reducible exact H2_) | (have H2_ := (Option.bind_some _ _).symm.trans H; with_reducible exact H2_) | with_reducible exact H | (rw [hy427]; exact H) | exact H
        have Ny427 := Aside0.mk hy427
        clear hy427
        have H' := Aside0.mk H
        clear H
        try go_wp2_with (first | ((with_reducible refine gate_callee (f := 47) rfl ?_); refine gz 35 Try.func47 #[.string a3, .int .i64 (wrap64 (x12_1 - a0))] ?_; (with_reducible refine (vitrineref09_at.calls a3 (wrap64 (x12_1 - a0)) t423 _ A9.out).mono ?_); rintro e w' ⟨rfl, ⟨nd, rfl⟩⟩; refine ⟨_, rfl, ?_⟩))
        (try (rw [drewN_self wr]; generalize hq_ : World.drewN wr _ = wr; have n0_ : Aside0 (Kd.R (Kd.int .u8) 5 wr w.heap.size (fun _ => True) u11 x11_1) := ⟨by rw [← hq_]; exact (oz HO_11)⟩; have n1_ : Aside0 (Below w.heap.size w wr) := ⟨by rw [← hq_]; exact (hz HB)⟩; clear HO_11 HB hq_; have HO_11 := n0_; have HB := n1_; clear n0_ n1_))
        (try (rw [drewN_self wr]; generalize hq_ : World.drewN wr _ = wr; have n0_ : Aside0 (Kd.R (Kd.int .u8) 5 wr w.heap.size (fun _ => True) u11 x11_1) := ⟨by rw [← hq_]; exact (oz HO_11)⟩; have n1_ : Aside0 (Below w.heap.size w wr) := ⟨by rw [← hq_]; exact (hz HB)⟩; clear HO_11 HB hq_; have HO_11 := n0_; have HB := n1_; clear n0_ n1_))
        (try (rw [drewN_self wr]; generalize hq_ : World.drewN wr _ = wr; have n0_ : Aside0 (Kd.R (Kd.int .u8) 5 wr w.heap.size (fun _ => True) u11 x11_1) := ⟨by rw [← hq_]; exact (oz HO_11)⟩; have n1_ : Aside0 (Below w.heap.size w wr) := ⟨by rw [← hq_]; exact (hz HB)⟩; clear HO_11 HB hq_; have HO_11 := n0_; have HB := n1_; clear n0_ n1_))
        have n0_ := Aside0.mk (Kd.R_drew HO_11.out)
        have n1_ := Aside0.mk (below_drew1 HB.out)
        clear HO_11
        clear HB
        have HO_11 := n0_
        have HB := n1_
        clear n0_ n1_
        have p11 : 0 ≤ (x12_1 : Int) := of_decide_eq_true (by first | (with_reducible assumption) | assumption)
        have q11 : x12_1 < (a2.size : Int) := of_decide_eq_true (by first | (with_reducible assumption) | assumption)
        have hx11 := bt_at a2 x12_1
        replace p11 := eq_true p11
        replace q11 := eq_true q11
        refine start_ (n := 21) (S := fun w' => True) (ds := []) (bm 21 0) (by kernel_rfl) rfl rfl trivial (fun hHeld => ?_); refine with_tabW vitrineref09_Do.tab11 vitrineref09_Do.bits11 (fun HT_ HW_ => ?_)
        generalize wr.drew = w16 at HO_11 HB hHeld ⊢
        refine zp 0 36 (bm 21 1) ?_
        refine zp 1 37 (bm 21 3) ?_
        refine zp 2 38 (bm 21 7) ?_
        refine zp 5 41 (bm 21 39) ?_
        refine zp 6 42 (bm 21 103) ?_
        refine zp 7 43 (bm 21 231) ?_
        refine zp 8 44 (bm 21 487) ?_
        refine zp 9 45 (bm 21 999) ?_
        refine zp 11 47 (bm 21 3047) ?_
        refine zp 12 48 (bm 21 7143) ?_
        refine zp 14 50 (bm 21 23527) ?_
        refine zt 3 39 (bm 21 23535) rfl (by intro w' _; go_simp; with_reducible rfl) ?_
        refine zp 4 40 (bm 21 23551) ?_
        refine one_ (i := 10) (N := some 46) (bm 21 24575) rfl rfl (one_of HT_.out (by kernel_rfl)) (by decide) (fun K hK => ?_)
        refine goes_ Try.func47 (by kernel_rfl) rfl #[.string a2, .int .i64 (wrap64 (x12_1 - a0))] (by rfl) rfl rfl (by (try simp only [List.map_toArray, List.map_cons, List.map_nil]); first | done | rfl | (simp only [List.length_drop, List.length_take]; rfl) | (simp only [ByteArray.size_extract, Nat.min_self]; done) | (simp only [ByteArray.size_extract, Nat.min_self]; rfl)) ?_
        with_reducible refine (vitrineref09_at.calls a2 (wrap64 (x12_1 - a0)) t424 _ A12.out).mono ?_
        rintro e w' ⟨rfl, ⟨nd, rfl⟩⟩
        refine ⟨_, rfl, ?_⟩
        refine hK.out _ _ trivial (fun hHeld => ?_)
        clear hK K
        refine norm_ (a' := ?_) ?_ ?_
        rotate_left
        ·show Act.put _ (some 46) _ = _
         simp only [Act.put, zq1, zq2, zq3, i64_w, i32_w]
         rfl
        refine one_ (i := 13) (N := some 49) (bm 21 32767) rfl rfl (one_of HT_.out (by kernel_rfl)) (by decide) (fun K hK => ?_)
        refine goes_ Try.func47 (by kernel_rfl) rfl #[.string a3, .int .i64 x12_1] (by rfl) rfl rfl (by (try simp only [List.map_toArray, List.map_cons, List.map_nil]); first | done | rfl | (simp only [List.length_drop, List.length_take]; rfl) | (simp only [ByteArray.size_extract, Nat.min_self]; done) | (simp only [ByteArray.size_extract, Nat.min_self]; rfl)) ?_
        with_reducible refine (vitrineref09_at.calls a3 x12_1 t425 _ A13.out).mono ?_
        rintro e w' ⟨rfl, ⟨nd, rfl⟩⟩
        refine ⟨_, rfl, ?_⟩
        refine hK.out _ _ trivial (fun hHeld => ?_)
        clear hK K
        refine norm_ (a' := ?_) ?_ ?_
        rotate_left
        ·show Act.put _ (some 49) _ = _
         simp only [Act.put, zq1, zq2, zq3, i64_w, i32_w]
         rfl
        refine one_ (i := 15) (N := some 51) (bm 21 65535) rfl rfl (one_of HT_.out (by kernel_rfl)) (by decide) (fun K hK => ?_)
        refine goes_ Try.func46 (by kernel_rfl) rfl #[.int .i64 a1, .int .i64 t424, .int .i64 t425, .int .i64 t423] (by rfl) rfl rfl (by (try simp only [List.map_toArray, List.map_cons, List.map_nil]); first | done | rfl | (simp only [List.length_drop, List.length_take]; rfl) | (simp only [ByteArray.size_extract, Nat.min_self]; done) | (simp only [ByteArray.size_extract, Nat.min_self]; rfl)) ?_
        with_reducible refine (vitrineref09_tells.calls k1 a1 t424 t425 t423 t426 _ A14.out).mono ?_
        rintro e w17 ⟨rfl, hb⟩
        refine ⟨_, rfl, ?_⟩
        have n0_ := Aside0.mk (Kd.R_below (oz HO_11) hb)
        have n1_ := Aside0.mk (below_step (hz HB) hb)
        clear HO_11
        clear HB
        have HO_11 := n0_
        have HB := n1_
        clear n0_ n1_
        (try clear hb)
        refine hK.out _ _ trivial (fun hHeld => ?_)
        clear hK K
        refine norm_ (a' := ?_) ?_ ?_
        rotate_left
        ·show Act.put _ (some 51) _ = _
         simp only [Act.put, zq1, zq2, zq3, i64_w, i32_w]
         rfl
        refine zp 16 52 (bm 21 131071) ?_
        refine zp 17 53 (bm 21 262143) ?_
        refine one_ (i := 18) (N := some 54) (bm 21 524287) rfl rfl (one_of HT_.out (by kernel_rfl)) (by decide) (fun K hK => ?_)
        refine value_ (w1 := ?_) (v := ?_) (by rfl) rfl ?_ ?_
        rotate_left 2
        ·go_simp
         constructor
         ·rfl
         ·rfl
        refine hK.out _ _ trivial (fun hHeld => ?_)
        clear hK K
        refine norm_ (a' := ?_) ?_ ?_
        rotate_left
        ·show Act.put _ (some 54) _ = _
         simp only [Act.put, zq1, zq2, zq3, i64_w, i32_w]
         rfl
        refine one_ (i := 19) (N := some 55) (bm 21 1048575) rfl rfl (one_of HT_.out (by kernel_rfl)) (by decide) (fun K hK => ?_)
        refine Kd.R_append_step (Kd.int .u8) (w0 := w) w.heap.size (by rfl) (.tmp 36) (.tmp 54) 45 5 (.int .u8 0) 1 rfl Try.underlying45 info5 rfl (by decide) (by omega) u11 x11_1 ((wrap64 ((wrap64 (bt a2 x12_1)) - t426)) % 256) [.int .u8 ((wrap64 ((wrap64 (bt a2 x12_1)) - t426)) % 256)] (fun _ => True) (fun _ => False) rfl rfl ?aP (fun _ hk => hk.elim) ?aF ?aO ?aB ?aS ?aL ?_
        (case aP => exact rfl)
        (case aB => exact (hz HB))
        (case aF => exact (fun _ _ => trivial))
        (case aO => exact (oz HO_11))
        (case aS => exact (below_size (hz HB)))
        (case aL => have := LMc15.out; omega)
        intro v428 w18 ho hb hg hat
        rw [← Ny427.out] at ho
        have n0_ := Aside0.mk (hb)
        have n1_ := Aside0.mk (ho)
        clear HB
        clear HO_11
        have HB := n0_
        have HO429 := n1_
        clear n0_ n1_
        clear ho hb hg hat
        refine hK.out _ _ trivial (fun hHeld => ?_)
        clear hK K
        refine norm_ (a' := ?_) ?_ ?_
        rotate_left
        ·show Act.put _ (some 55) _ = _
         simp only [Act.put, zq1, zq2, zq3, i64_w, i32_w]
         rfl
        refine zp 20 11 (bm 21 2097151) ?_
        refine done_ (done_of HT_.out (by kernel_rfl)) ?_
        try go_wp2
        go_roundg k1
        case measure => have := HK1.out; omega
        case rel => exact ⟨(y427), (wrap64 (x12_1 + 1)), (by first | rfl | (simp; done) | (simp [*]; done)), H', ⟨by have := HK1.out; omega⟩, ⟨oz HO429⟩, ⟨hz HB⟩⟩
       ·rw [if_neg c15] at H
        exact absurd H (by simp)
      ·rw [if_neg c10] at H
       exact absurd H (by simp)
     ·rw [if_neg c8] at H
      have c8b0 : decide (a0 ≤ x12_1) = false := decide_eq_false c8
      clear c8
      by_cases c19 : 0 ≤ x12_1
      ·rw [if_pos c19] at H
       have c19b0 : decide (0 ≤ x12_1) = true := decide_eq_true c19
       clear c19
       replace H := Option.bind_eq_some_iff.mp H
       obtain ⟨t430, A210, H⟩ := H
       replace H : ((vitrineref09_at.f a3 x12_1).bind fun t431 => ((vitrineref09_tells.f k1 a1 t430 t431 0).bind fun t432 => (if x11_1.length < 140737488355328 then (vitrineref09_Do.l0 k1 a0 a1 a2 a3 (x11_1 ++ [(wrap64 ((wrap64 (bt a2 x12_1)) - t432)) % 256]) (wrap64 (x12_1 + 1))) else (none)))) = some (r1, r2) := H
       have A21 := Aside0.mk A210
       clear A210
       replace H := Option.bind_eq_some_iff.mp H
       obtain ⟨t431, A220, H⟩ := H
       replace H : ((vitrineref09_tells.f k1 a1 t430 t431 0).bind fun t432 => (if x11_1.length < 140737488355328 then (vitrineref09_Do.l0 k1 a0 a1 a2 a3 (x11_1 ++ [(wrap64 ((wrap64 (bt a2 x12_1)) - t432)) % 256]) (wrap64 (x12_1 + 1))) else (none))) = some (r1, r2) := H
       have A22 := Aside0.mk A220
       clear A220
       replace H := Option.bind_eq_some_iff.mp H
       obtain ⟨t432, A230, H⟩ := H
       replace H : (if x11_1.length < 140737488355328 then (vitrineref09_Do.l0 k1 a0 a1 a2 a3 (x11_1 ++ [(wrap64 ((wrap64 (bt a2 x12_1)) - t432)) % 256]) (wrap64 (x12_1 + 1))) else (none)) = some (r1, r2) := H
       have A23 := Aside0.mk A230
       clear A230
       by_cases c24 : x11_1.length < 140737488355328
       ·rw [if_pos c24] at H
        have LMc24 := Aside0.mk c24
        clear c24
        obtain ⟨y433, hy433⟩ : ∃ y_ : List Int, y_ = (x11_1 ++ [(wrap64 ((wrap64 (bt a2 x12_1)) - t432)) % 256]) := ⟨_, rfl⟩
        replace H : (vitrineref09_Do.l0 k1 a0 a1 a2 a3 y433 (wrap64 (x12_1 + 1))) = some (r1, r2) := by first | (rw [hy433]; with_reducible exact H) | (have H2_ := (Option.bind_some _ _).symm.trans H; rw [hy433]; with_reducible exact H2_) | (have H2_ := (Option.bind_some _ _).symm.trans H; with_reducible exact H2_) | with_reducible exact H | (rw [hy433]; exact H) | exact H
        have Ny433 := Aside0.mk hy433
        clear hy433
        have H' := Aside0.mk H
        clear H
        try go_wp2
        have n0_ := Aside0.mk (Kd.R_drew HO_11.out)
        have n1_ := Aside0.mk (below_drew1 HB.out)
        clear HO_11
        clear HB
        have HO_11 := n0_
        have HB := n1_
        clear n0_ n1_
        have p20 : 0 ≤ (x12_1 : Int) := of_decide_eq_true (by first | (with_reducible assumption) | assumption)
        have q20 : x12_1 < (a2.size : Int) := of_decide_eq_true (by first | (with_reducible assumption) | assumption)
        have hx20 := bt_at a2 x12_1
        replace p20 := eq_true p20
        replace q20 := eq_true q20
        refine start_ (n := 21) (S := fun w' => True) (ds := []) (bm 21 0) (by kernel_rfl) rfl rfl trivial (fun hHeld => ?_); refine with_tabW vitrineref09_Do.tab11 vitrineref09_Do.bits11 (fun HT_ HW_ => ?_)
        generalize wr.drew = w25 at HO_11 HB hHeld ⊢
        refine zp 0 36 (bm 21 1) ?_
        refine zp 1 37 (bm 21 3) ?_
        refine zp 2 38 (bm 21 7) ?_
        refine zp 5 41 (bm 21 39) ?_
        refine zp 6 42 (bm 21 103) ?_
        refine zp 7 43 (bm 21 231) ?_
        refine zp 8 44 (bm 21 487) ?_
        refine zp 9 45 (bm 21 999) ?_
        refine zp 11 47 (bm 21 3047) ?_
        refine zp 12 48 (bm 21 7143) ?_
        refine zp 14 50 (bm 21 23527) ?_
        refine zt 3 39 (bm 21 23535) rfl (by intro w' _; go_simp; with_reducible rfl) ?_
        refine zp 4 40 (bm 21 23551) ?_
        refine one_ (i := 10) (N := some 46) (bm 21 24575) rfl rfl (one_of HT_.out (by kernel_rfl)) (by decide) (fun K hK => ?_)
        refine goes_ Try.func47 (by kernel_rfl) rfl #[.string a2, .int .i64 (wrap64 (x12_1 - a0))] (by rfl) rfl rfl (by (try simp only [List.map_toArray, List.map_cons, List.map_nil]); first | done | rfl | (simp only [List.length_drop, List.length_take]; rfl) | (simp only [ByteArray.size_extract, Nat.min_self]; done) | (simp only [ByteArray.size_extract, Nat.min_self]; rfl)) ?_
        with_reducible refine (vitrineref09_at.calls a2 (wrap64 (x12_1 - a0)) t430 _ A21.out).mono ?_
        rintro e w' ⟨rfl, ⟨nd, rfl⟩⟩
        refine ⟨_, rfl, ?_⟩
        refine hK.out _ _ trivial (fun hHeld => ?_)
        clear hK K
        refine norm_ (a' := ?_) ?_ ?_
        rotate_left
        ·show Act.put _ (some 46) _ = _
         simp only [Act.put, zq1, zq2, zq3, i64_w, i32_w]
         rfl
        refine one_ (i := 13) (N := some 49) (bm 21 32767) rfl rfl (one_of HT_.out (by kernel_rfl)) (by decide) (fun K hK => ?_)
        refine goes_ Try.func47 (by kernel_rfl) rfl #[.string a3, .int .i64 x12_1] (by rfl) rfl rfl (by (try simp only [List.map_toArray, List.map_cons, List.map_nil]); first | done | rfl | (simp only [List.length_drop, List.length_take]; rfl) | (simp only [ByteArray.size_extract, Nat.min_self]; done) | (simp only [ByteArray.size_extract, Nat.min_self]; rfl)) ?_
        with_reducible refine (vitrineref09_at.calls a3 x12_1 t431 _ A22.out).mono ?_
        rintro e w' ⟨rfl, ⟨nd, rfl⟩⟩
        refine ⟨_, rfl, ?_⟩
        refine hK.out _ _ trivial (fun hHeld => ?_)
        clear hK K
        refine norm_ (a' := ?_) ?_ ?_
        rotate_left
        ·show Act.put _ (some 49) _ = _
         simp only [Act.put, zq1, zq2, zq3, i64_w, i32_w]
         rfl
        refine one_ (i := 15) (N := some 51) (bm 21 65535) rfl rfl (one_of HT_.out (by kernel_rfl)) (by decide) (fun K hK => ?_)
        refine goes_ Try.func46 (by kernel_rfl) rfl #[.int .i64 a1, .int .i64 t430, .int .i64 t431, .int .i64 0] (by rfl) rfl rfl (by (try simp only [List.map_toArray, List.map_cons, List.map_nil]); first | done | rfl | (simp only [List.length_drop, List.length_take]; rfl) | (simp only [ByteArray.size_extract, Nat.min_self]; done) | (simp only [ByteArray.size_extract, Nat.min_self]; rfl)) ?_
        with_reducible refine (vitrineref09_tells.calls k1 a1 t430 t431 0 t432 _ A23.out).mono ?_
        rintro e w26 ⟨rfl, hb⟩
        refine ⟨_, rfl, ?_⟩
        have n0_ := Aside0.mk (Kd.R_below (oz HO_11) hb)
        have n1_ := Aside0.mk (below_step (hz HB) hb)
        clear HO_11
        clear HB
        have HO_11 := n0_
        have HB := n1_
        clear n0_ n1_
        (try clear hb)
        refine hK.out _ _ trivial (fun hHeld => ?_)
        clear hK K
        refine norm_ (a' := ?_) ?_ ?_
        rotate_left
        ·show Act.put _ (some 51) _ = _
         simp only [Act.put, zq1, zq2, zq3, i64_w, i32_w]
         rfl
        refine zp 16 52 (bm 21 131071) ?_
        refine zp 17 53 (bm 21 262143) ?_
        refine one_ (i := 18) (N := some 54) (bm 21 524287) rfl rfl (one_of HT_.out (by kernel_rfl)) (by decide) (fun K hK => ?_)
        refine value_ (w1 := ?_) (v := ?_) (by rfl) rfl ?_ ?_
        rotate_left 2
        ·go_simp
         constructor
         ·rfl
         ·rfl
        refine hK.out _ _ trivial (fun hHeld => ?_)
        clear hK K
        refine norm_ (a' := ?_) ?_ ?_
        rotate_left
        ·show Act.put _ (some 54) _ = _
         simp only [Act.put, zq1, zq2, zq3, i64_w, i32_w]
         rfl
        refine one_ (i := 19) (N := some 55) (bm 21 1048575) rfl rfl (one_of HT_.out (by kernel_rfl)) (by decide) (fun K hK => ?_)
        refine Kd.R_append_step (Kd.int .u8) (w0 := w) w.heap.size (by rfl) (.tmp 36) (.tmp 54) 45 5 (.int .u8 0) 1 rfl Try.underlying45 info5 rfl (by decide) (by omega) u11 x11_1 ((wrap64 ((wrap64 (bt a2 x12_1)) - t432)) % 256) [.int .u8 ((wrap64 ((wrap64 (bt a2 x12_1)) - t432)) % 256)] (fun _ => True) (fun _ => False) rfl rfl ?aP (fun _ hk => hk.elim) ?aF ?aO ?aB ?aS ?aL ?_
        (case aP => exact rfl)
        (case aB => exact (hz HB))
        (case aF => exact (fun _ _ => trivial))
        (case aO => exact (oz HO_11))
        (case aS => exact (below_size (hz HB)))
        (case aL => have := LMc24.out; omega)
        intro v434 w27 ho hb hg hat
        rw [← Ny433.out] at ho
        have n0_ := Aside0.mk (hb)
        have n1_ := Aside0.mk (ho)
        clear HB
        clear HO_11
        have HB := n0_
        have HO435 := n1_
        clear n0_ n1_
        clear ho hb hg hat
        refine hK.out _ _ trivial (fun hHeld => ?_)
        clear hK K
        refine norm_ (a' := ?_) ?_ ?_
        rotate_left
        ·show Act.put _ (some 55) _ = _
         simp only [Act.put, zq1, zq2, zq3, i64_w, i32_w]
         rfl
        refine zp 20 11 (bm 21 2097151) ?_
        refine done_ (done_of HT_.out (by kernel_rfl)) ?_
        try go_wp2
        go_roundg k1
        case measure => have := HK1.out; omega
        case rel => exact ⟨(y433), (wrap64 (x12_1 + 1)), (by first | rfl | (simp; done) | (simp [*]; done)), H', ⟨by have := HK1.out; omega⟩, ⟨oz HO435⟩, ⟨hz HB⟩⟩
       ·rw [if_neg c24] at H
        exact absurd H (by simp)
      ·rw [if_neg c19] at H
       exact absurd H (by simp)
    ·rw [if_neg c7] at H
     have c7b0 : decide (x12_1 < (a2.size : Int)) = false := decide_eq_false c7
     clear c7
     simp only [Option.some.injEq, Prod.mk.injEq] at H
     obtain ⟨rfl, rfl⟩ := H
     have hcv28 := own_string (P := Try.prog) Try.underlying45 Try.underlying5 Try.underlying9 (Kd.own_of_R HO_11.out)
     go_wp2
     go_ret2
     exact ⟨by first | rfl | (simp [errW_none, errW_some] <;> rfl) | (simp [*, errW_none, errW_some] <;> rfl), by repeat (first | (with_reducible first | exact HB.out | apply below_alloc | apply pw_below_drewN | apply below_drew1) | exact HB.out)⟩
 ·rw [if_neg c6] at H
  have c6b0 : (t422 == 0) = false := beq_eq_false_iff_ne.mpr c6
  have c6b1 : (t422 != 0) = true := bne_iff_ne.mpr c6
  simp only [Option.some.injEq, Prod.mk.injEq] at H
  obtain ⟨rfl, rfl⟩ := H
  go_enter Try.func35, Try.ntmps35
  go_wp2_with (first | ((with_reducible refine gate_callee (f := 45) rfl ?_); refine gz 18 Try.func45 #[.int .i64 a0, .int .i64 a1, .string a2, .string a3] ?_; (with_reducible refine (vitrineref09_wrong.calls k a0 a1 a2 a3 t422 _ A5.out).mono ?_); rintro e w' ⟨rfl, ⟨nd, rfl⟩⟩; refine ⟨_, rfl, ?_⟩))
  go_ret2
  exact ⟨by first | rfl | (simp [errW_none, errW_some] <;> rfl) | (simp [*, errW_none, errW_some] <;> rfl), by repeat (first | (with_reducible first | exact HB.out | apply below_alloc | apply pw_below_drewN | apply below_drew1) | exact HB.out)⟩

end Go.Proofs.Ytejljcglbkjgkaa.PL12
