/- Printed for this claim by a program of this session over the kit's print program: the Go functions as Lean functions, and proofs that the calls come to these answers. No conditions. -/
import Derived.Test.YtdbiokmlgniobaaYH
import Derived.Test.YtdbiokmlgniobaaYPL22x2
import Derived.Test.YtdbiokmlgniobaaYPL22x11
namespace Go.Proofs.Ytdbiokmlgniobaa.PL22
open Go.RowKit Go.Proofs.YtdbiokmlgniobaaW.PrintWords Go.Proofs.YtdbiokmlgniobaaW.PrintLast Go.Proofs.YtdbiokmlgniobaaW.PrintMore
attribute [local go_sem] max2_int min2_int max_two min_two max_three min_three max_four min_four   -- for this text's walks alone
set_option linter.unusedVariables false
set_option linter.unusedSimpArgs false

def vitrinelaw22_same.l0 : Nat → List (S26) → List (S26) → Int → Option (Bool)
 | 0, _, _, _ => none
 | k + 1, x0, x1, x5 => if x5 < (x0.length : Int) then (if 0 ≤ x5 then (if x5 < (x1.length : Int) then ((vitrineref20_Same.f k ((rd_T26 x0 x5).f0) ((rd_T26 x0 x5).f1) ((rd_T26 x0 x5).f2) ((rd_T26 x0 x5).f3) ((rd_T26 x0 x5).f4) ((rd_T26 x0 x5).f5.f0) ((rd_T26 x0 x5).f5.f1) ((rd_T26 x0 x5).f6) ((rd_T26 x0 x5).f7) ((rd_T26 x1 x5).f0) ((rd_T26 x1 x5).f1) ((rd_T26 x1 x5).f2) ((rd_T26 x1 x5).f3) ((rd_T26 x1 x5).f4) ((rd_T26 x1 x5).f5.f0) ((rd_T26 x1 x5).f5.f1) ((rd_T26 x1 x5).f6) ((rd_T26 x1 x5).f7)).bind fun t138 => (if t138 = true then (vitrinelaw22_same.l0 k x0 x1 (wrap64 (x5 + 1))) else (some false))) else (none)) else (none)) else (some true)
def vitrinelaw22_same.f (k : Nat) (l0 : List (S26)) (l1 : List (S26)) : Option (Bool) := if (l0.length : Int) = (l1.length : Int) then (vitrinelaw22_same.l0 k l0 l1 0) else (some false)
theorem vitrinelaw22_same.mono_l : ∀ k, (∀ y0 y1 y2, LeO (vitrinelaw22_same.l0 k y0 y1 y2) (vitrinelaw22_same.l0 (k + 1) y0 y1 y2))
 | 0 => fun _ _ _ r h => by simp [vitrinelaw22_same.l0] at h
 | k + 1 => by
  have ih0 := vitrinelaw22_same.mono_l k
  ·intro y0 y1 y2
   unfold vitrinelaw22_same.l0
   repeat' first
   | (with_reducible exact ih0 _ _ _)
   | (with_reducible exact vitrineref20_Same.mono _ _ _ _ _ _ _ _ _ _ _ _ _ _ _ _ _ _ _)
   | (with_reducible exact LeO.refl _)
   | (with_reducible exact LeO.none _)
   | (with_reducible refine LeO.ite ?_ ?_)
   | (with_reducible refine LeO.bind ?_ (fun _ => ?_))
   | exact ih0 _ _ _
   | exact vitrineref20_Same.mono _ _ _ _ _ _ _ _ _ _ _ _ _ _ _ _ _ _ _
   | exact LeO.none _
   | refine LeO.ite ?_ ?_
   | refine LeO.bind ?_ (fun _ => ?_)
theorem vitrinelaw22_same.mono : ∀ a0 a1 k, LeO (vitrinelaw22_same.f k a0 a1) (vitrinelaw22_same.f (k + 1) a0 a1) := by
 intro a0 a1 k
 have ih0 := vitrinelaw22_same.mono_l k
 unfold vitrinelaw22_same.f
 repeat' first
   | (with_reducible exact ih0 _ _ _)
   | (with_reducible exact vitrineref20_Same.mono _ _ _ _ _ _ _ _ _ _ _ _ _ _ _ _ _ _ _)
   | (with_reducible exact LeO.refl _)
   | (with_reducible exact LeO.none _)
   | (with_reducible refine LeO.ite ?_ ?_)
   | (with_reducible refine LeO.bind ?_ (fun _ => ?_))
   | exact ih0 _ _ _
   | exact vitrineref20_Same.mono _ _ _ _ _ _ _ _ _ _ _ _ _ _ _ _ _ _ _
   | exact LeO.none _
   | refine LeO.ite ?_ ?_
   | refine LeO.bind ?_ (fun _ => ?_)
def vitrinelaw22_same.T6 : Bool × List (List Nat × List Nat) := (true, [([], []), ([], []), ([0, 1], [0, 1]), ([2], [2]), ([], []), ([], []), ([4, 5], [4, 5]), ([6], [6]), ([3, 7], [3, 7]), ([8], [8])])
def vitrinelaw22_same.B6 : List Nat := [0, 0, 3, 7, 0, 0, 48, 112, 255, 511]
theorem vitrinelaw22_same.tab6 : rtab .any (opsOf Try.f15 6) = vitrinelaw22_same.T6 := by kernel_rfl
theorem vitrinelaw22_same.bits6 : waitsOk vitrinelaw22_same.T6.2 vitrinelaw22_same.B6 = true := by kernel_rfl
set_option maxHeartbeats 40000000 in
set_option maxRecDepth 100000 in
theorem vitrinelaw22_same.calls (k : Nat) (A0 : Option Addr) (c0 : Nat) (l0 : List (S26)) (A1 : Option Addr) (c1 : Nat) (l1 : List (S26)) (r : Bool) (w : World) (hr0 : Kd.C k26 w A0 l0.length l0) (hc0 : l0.length ≤ c0) (hr1 : Kd.C k26 w A1 l1.length l1) (hc1 : l1.length ≤ c1) (h : vitrinelaw22_same.f k l0 l1 = some r) :
  Calls Try.prog 15 #[.slice A0 l0.length c0, .slice A1 l1.length c1] w fun e w' => e = .returned (.bool r) ∧ Below w.heap.size w w' := by
 have hu26 := Try.underlying26
 have HR0 := Aside0.mk hr0
 have HC0 := Aside0.mk hc0
 clear hr0 hc0
 have HR1 := Aside0.mk hr1
 have HC1 := Aside0.mk hc1
 clear hr1 hc1
 have HB := Aside0.mk (Below.refl w.heap.size w)
 have H : (if (l0.length : Int) = (l1.length : Int) then (vitrinelaw22_same.l0 k l0 l1 0) else (some false)) = some r := h
 clear h
 by_cases c3 : (l0.length : Int) = (l1.length : Int)
 ·rw [if_pos c3] at H
  have c3b0 : ((l0.length : Int) == (l1.length : Int)) = true := beq_iff_eq.mpr c3
  have c3b1 : ((l0.length : Int) != (l1.length : Int)) = false := bne_eq_false_iff_eq.mpr c3
  have c3b2 : (l0.length == l1.length) = true := by first | simpa using c3 | (simp at c3 ⊢; omega)
  clear c3
  have H' := Aside0.mk H
  clear H
  go_enter Try.func15, Try.ntmps15
  go_wp2
  go_loopg [5] k (fun kq v5 w' => ∃ (x5_1 : Int), v5 = .int .i64 x5_1 ∧ Aside0 (vitrinelaw22_same.l0 kq l0 l1 x5_1 = some r) ∧ Aside0 (kq ≤ k) ∧ Aside0 (Below w.heap.size w w'))
  case atStart => exact ⟨(0), (by first | rfl | (simp; done) | (simp [*]; done)), H', ⟨Nat.le_refl _⟩, ⟨hz HB⟩⟩
  case round =>
   clear H'
   try clear c3
   try clear c3b0
   try clear c3b1
   try clear c3b2
   obtain ⟨x5_1, rfl, HA, HK1, HB⟩ := hrel
   cases gk with
   | zero => exact absurd HA.out (by simp [vitrinelaw22_same.l0])
   | succ k1 =>
    have H := HA.out
    clear HA
    simp only [vitrinelaw22_same.l0] at H
    by_cases c4 : x5_1 < (l0.length : Int)
    ·rw [if_pos c4] at H
     have c4b0 : decide (x5_1 < (l0.length : Int)) = true := decide_eq_true c4
     clear c4
     by_cases c5 : 0 ≤ x5_1
     ·rw [if_pos c5] at H
      have c5b0 : decide (0 ≤ x5_1) = true := decide_eq_true c5
      clear c5
      by_cases c6 : x5_1 < (l1.length : Int)
      ·rw [if_pos c6] at H
       have c6b0 : decide (x5_1 < (l1.length : Int)) = true := decide_eq_true c6
       clear c6
       replace H := Option.bind_eq_some_iff.mp H
       obtain ⟨t138, A70, H⟩ := H
       replace H : (if t138 = true then (vitrinelaw22_same.l0 k1 l0 l1 (wrap64 (x5_1 + 1))) else (some false)) = some r := H
       have A7 := Aside0.mk A70
       clear A70
       by_cases c8 : t138 = true
       ·subst c8
        have H1 : (vitrinelaw22_same.l0 k1 l0 l1 (wrap64 (x5_1 + 1))) = some r := by rw [if_pos rfl] at H; exact H
        clear H
        have H := H1
        clear H1
        have H' := Aside0.mk H
        clear H
        try go_wp2
        have n0_ := Aside0.mk (below_drew1 HB.out)
        clear HB
        have HB := n0_
        clear n0_
        have p136 : 0 ≤ (x5_1 : Int) := of_decide_eq_true (by first | (with_reducible assumption) | assumption)
        have q136 : x5_1 < (l0.length : Int) := of_decide_eq_true (by first | (with_reducible assumption) | assumption)
        obtain ⟨ad136, A136_8, c136_8, e136, hx136_0, hx136_1, hx136_2, hx136_3, hx136_4, hx136_5, hx136_6, hx136_7, hx136_8, hl136_8, hi136_8⟩ := at_T26 HR0.out x5_1 p136 q136
        have hw136_8 := hx136_8
        have hw136_7 := hx136_7
        have hw136_6 := hx136_6
        have hw136_5 := hx136_5
        have hw136_4 := hx136_4
        have hw136_3 := hx136_3
        have hw136_2 := hx136_2
        have hw136_1 := hx136_1
        have hw136_0 := hx136_0
        cases e136
        replace hx136_0 := (HB.out.cell (World.block_lt_of_cell? w _ hx136_0)).trans hx136_0
        replace hx136_1 := (HB.out.cell (World.block_lt_of_cell? w _ hx136_1)).trans hx136_1
        replace hx136_2 := (HB.out.cell (World.block_lt_of_cell? w _ hx136_2)).trans hx136_2
        replace hx136_3 := (HB.out.cell (World.block_lt_of_cell? w _ hx136_3)).trans hx136_3
        replace hx136_4 := (HB.out.cell (World.block_lt_of_cell? w _ hx136_4)).trans hx136_4
        replace hx136_5 := (HB.out.cell (World.block_lt_of_cell? w _ hx136_5)).trans hx136_5
        replace hx136_6 := (HB.out.cell (World.block_lt_of_cell? w _ hx136_6)).trans hx136_6
        replace hx136_7 := (HB.out.cell (World.block_lt_of_cell? w _ hx136_7)).trans hx136_7
        replace hx136_8 := (HB.out.cell (World.block_lt_of_cell? w _ hx136_8)).trans hx136_8
        have HR136_8 := Aside0.mk hi136_8
        have HC136_8 := Aside0.mk hl136_8
        clear hi136_8 hl136_8
        replace p136 := eq_true p136
        replace q136 := eq_true q136
        have p137 : 0 ≤ (x5_1 : Int) := of_decide_eq_true (by first | (with_reducible assumption) | assumption)
        have q137 : x5_1 < (l1.length : Int) := of_decide_eq_true (by first | (with_reducible assumption) | assumption)
        obtain ⟨ad137, A137_8, c137_8, e137, hx137_0, hx137_1, hx137_2, hx137_3, hx137_4, hx137_5, hx137_6, hx137_7, hx137_8, hl137_8, hi137_8⟩ := at_T26 HR1.out x5_1 p137 q137
        have hw137_8 := hx137_8
        have hw137_7 := hx137_7
        have hw137_6 := hx137_6
        have hw137_5 := hx137_5
        have hw137_4 := hx137_4
        have hw137_3 := hx137_3
        have hw137_2 := hx137_2
        have hw137_1 := hx137_1
        have hw137_0 := hx137_0
        cases e137
        replace hx137_0 := (HB.out.cell (World.block_lt_of_cell? w _ hx137_0)).trans hx137_0
        replace hx137_1 := (HB.out.cell (World.block_lt_of_cell? w _ hx137_1)).trans hx137_1
        replace hx137_2 := (HB.out.cell (World.block_lt_of_cell? w _ hx137_2)).trans hx137_2
        replace hx137_3 := (HB.out.cell (World.block_lt_of_cell? w _ hx137_3)).trans hx137_3
        replace hx137_4 := (HB.out.cell (World.block_lt_of_cell? w _ hx137_4)).trans hx137_4
        replace hx137_5 := (HB.out.cell (World.block_lt_of_cell? w _ hx137_5)).trans hx137_5
        replace hx137_6 := (HB.out.cell (World.block_lt_of_cell? w _ hx137_6)).trans hx137_6
        replace hx137_7 := (HB.out.cell (World.block_lt_of_cell? w _ hx137_7)).trans hx137_7
        replace hx137_8 := (HB.out.cell (World.block_lt_of_cell? w _ hx137_8)).trans hx137_8
        have HR137_8 := Aside0.mk hi137_8
        have HC137_8 := Aside0.mk hl137_8
        clear hi137_8 hl137_8
        replace p137 := eq_true p137
        replace q137 := eq_true q137
        refine start_ (n := 10) (S := fun w' => w'.cell? (ad136.add ((x5_1).toNat * 9)) = some (.int .i64 ((rd_T26 l0 x5_1).f0)) ∧ w'.cell? ⟨(ad136.add ((x5_1).toNat * 9)).block, (ad136.add ((x5_1).toNat * 9)).off + 1, none⟩ = some (.int .i64 ((rd_T26 l0 x5_1).f1)) ∧ w'.cell? ⟨(ad136.add ((x5_1).toNat * 9)).block, (ad136.add ((x5_1).toNat * 9)).off + 2, none⟩ = some (.int .i64 ((rd_T26 l0 x5_1).f2)) ∧ w'.cell? ⟨(ad136.add ((x5_1).toNat * 9)).block, (ad136.add ((x5_1).toNat * 9)).off + 3, none⟩ = some (.int .i64 ((rd_T26 l0 x5_1).f3)) ∧ w'.cell? ⟨(ad136.add ((x5_1).toNat * 9)).block, (ad136.add ((x5_1).toNat * 9)).off + 4, none⟩ = some (.string ((rd_T26 l0 x5_1).f4)) ∧ w'.cell? ⟨(ad136.add ((x5_1).toNat * 9)).block, (ad136.add ((x5_1).toNat * 9)).off + 5, none⟩ = some (.int .i64 ((rd_T26 l0 x5_1).f5.f0)) ∧ w'.cell? ⟨(ad136.add ((x5_1).toNat * 9)).block, (ad136.add ((x5_1).toNat * 9)).off + 6, none⟩ = some (.int .i64 ((rd_T26 l0 x5_1).f5.f1)) ∧ w'.cell? ⟨(ad136.add ((x5_1).toNat * 9)).block, (ad136.add ((x5_1).toNat * 9)).off + 7, none⟩ = some (.string ((rd_T26 l0 x5_1).f6)) ∧ w'.cell? ⟨(ad136.add ((x5_1).toNat * 9)).block, (ad136.add ((x5_1).toNat * 9)).off + 8, none⟩ = some (.slice A136_8 ((rd_T26 l0 x5_1).f7).length c136_8) ∧ w'.cell? (ad137.add ((x5_1).toNat * 9)) = some (.int .i64 ((rd_T26 l1 x5_1).f0)) ∧ w'.cell? ⟨(ad137.add ((x5_1).toNat * 9)).block, (ad137.add ((x5_1).toNat * 9)).off + 1, none⟩ = some (.int .i64 ((rd_T26 l1 x5_1).f1)) ∧ w'.cell? ⟨(ad137.add ((x5_1).toNat * 9)).block, (ad137.add ((x5_1).toNat * 9)).off + 2, none⟩ = some (.int .i64 ((rd_T26 l1 x5_1).f2)) ∧ w'.cell? ⟨(ad137.add ((x5_1).toNat * 9)).block, (ad137.add ((x5_1).toNat * 9)).off + 3, none⟩ = some (.int .i64 ((rd_T26 l1 x5_1).f3)) ∧ w'.cell? ⟨(ad137.add ((x5_1).toNat * 9)).block, (ad137.add ((x5_1).toNat * 9)).off + 4, none⟩ = some (.string ((rd_T26 l1 x5_1).f4)) ∧ w'.cell? ⟨(ad137.add ((x5_1).toNat * 9)).block, (ad137.add ((x5_1).toNat * 9)).off + 5, none⟩ = some (.int .i64 ((rd_T26 l1 x5_1).f5.f0)) ∧ w'.cell? ⟨(ad137.add ((x5_1).toNat * 9)).block, (ad137.add ((x5_1).toNat * 9)).off + 6, none⟩ = some (.int .i64 ((rd_T26 l1 x5_1).f5.f1)) ∧ w'.cell? ⟨(ad137.add ((x5_1).toNat * 9)).block, (ad137.add ((x5_1).toNat * 9)).off + 7, none⟩ = some (.string ((rd_T26 l1 x5_1).f6)) ∧ w'.cell? ⟨(ad137.add ((x5_1).toNat * 9)).block, (ad137.add ((x5_1).toNat * 9)).off + 8, none⟩ = some (.slice A137_8 ((rd_T26 l1 x5_1).f7).length c137_8)) (ds := []) (bm 10 0) (by kernel_rfl) rfl rfl ⟨((HB.out.cell (World.block_lt_of_cell? w _ hw136_0)).trans hw136_0), ((HB.out.cell (World.block_lt_of_cell? w _ hw136_1)).trans hw136_1), ((HB.out.cell (World.block_lt_of_cell? w _ hw136_2)).trans hw136_2), ((HB.out.cell (World.block_lt_of_cell? w _ hw136_3)).trans hw136_3), ((HB.out.cell (World.block_lt_of_cell? w _ hw136_4)).trans hw136_4), ((HB.out.cell (World.block_lt_of_cell? w _ hw136_5)).trans hw136_5), ((HB.out.cell (World.block_lt_of_cell? w _ hw136_6)).trans hw136_6), ((HB.out.cell (World.block_lt_of_cell? w _ hw136_7)).trans hw136_7), ((HB.out.cell (World.block_lt_of_cell? w _ hw136_8)).trans hw136_8), ((HB.out.cell (World.block_lt_of_cell? w _ hw137_0)).trans hw137_0), ((HB.out.cell (World.block_lt_of_cell? w _ hw137_1)).trans hw137_1), ((HB.out.cell (World.block_lt_of_cell? w _ hw137_2)).trans hw137_2), ((HB.out.cell (World.block_lt_of_cell? w _ hw137_3)).trans hw137_3), ((HB.out.cell (World.block_lt_of_cell? w _ hw137_4)).trans hw137_4), ((HB.out.cell (World.block_lt_of_cell? w _ hw137_5)).trans hw137_5), ((HB.out.cell (World.block_lt_of_cell? w _ hw137_6)).trans hw137_6), ((HB.out.cell (World.block_lt_of_cell? w _ hw137_7)).trans hw137_7), ((HB.out.cell (World.block_lt_of_cell? w _ hw137_8)).trans hw137_8)⟩ (fun hHeld => ?_); refine with_tabW vitrinelaw22_same.tab6 vitrinelaw22_same.bits6 (fun HT_ HW_ => ?_)
        generalize wr.drew = w9 at HB HR136_8 HR137_8 hx136_0 hx136_1 hx136_2 hx136_3 hx136_4 hx136_5 hx136_6 hx136_7 hx136_8 hx137_0 hx137_1 hx137_2 hx137_3 hx137_4 hx137_5 hx137_6 hx137_7 hx137_8 hHeld ⊢
        refine zp 0 17 (bm 10 1) ?_
        refine zp 1 18 (bm 10 3) ?_
        refine zp 2 19 (bm 10 7) ?_
        refine zp 4 21 (bm 10 23) ?_
        refine zp 5 22 (bm 10 55) ?_
        refine zp 6 23 (bm 10 119) ?_
        refine zt 3 20 (bm 10 127) rfl (by rintro w' ⟨s0, s1, s2, s3, s4, s5, s6, s7, s8, s9, s10, s11, s12, s13, s14, s15, s16, s17⟩; go_simp; with_reducible rfl) ?_
        refine zt 7 24 (bm 10 255) rfl (by rintro w' ⟨s0, s1, s2, s3, s4, s5, s6, s7, s8, s9, s10, s11, s12, s13, s14, s15, s16, s17⟩; go_simp; with_reducible rfl) ?_
        refine one_ (i := 8) (N := some 25) (bm 10 511) rfl rfl (one_of HT_.out (by kernel_rfl)) (by decide) (fun K hK => ?_)
        refine goes_ Try.func36 (by kernel_rfl) rfl #[.agg #[.int .i64 ((rd_T26 l0 x5_1).f0), .int .i64 ((rd_T26 l0 x5_1).f1), .int .i64 ((rd_T26 l0 x5_1).f2), .int .i64 ((rd_T26 l0 x5_1).f3), .string ((rd_T26 l0 x5_1).f4), .int .i64 ((rd_T26 l0 x5_1).f5.f0), .int .i64 ((rd_T26 l0 x5_1).f5.f1), .string ((rd_T26 l0 x5_1).f6), .slice A136_8 ((rd_T26 l0 x5_1).f7).length c136_8], .agg #[.int .i64 ((rd_T26 l1 x5_1).f0), .int .i64 ((rd_T26 l1 x5_1).f1), .int .i64 ((rd_T26 l1 x5_1).f2), .int .i64 ((rd_T26 l1 x5_1).f3), .string ((rd_T26 l1 x5_1).f4), .int .i64 ((rd_T26 l1 x5_1).f5.f0), .int .i64 ((rd_T26 l1 x5_1).f5.f1), .string ((rd_T26 l1 x5_1).f6), .slice A137_8 ((rd_T26 l1 x5_1).f7).length c137_8]] (by rfl) rfl rfl (by (try simp only [List.map_toArray, List.map_cons, List.map_nil]); first | done | rfl | (simp only [List.length_drop, List.length_take]; rfl) | (simp only [ByteArray.size_extract, Nat.min_self]; done) | (simp only [ByteArray.size_extract, Nat.min_self]; rfl)) ?_
        with_reducible refine (vitrineref20_Same.calls k1 ((rd_T26 l0 x5_1).f0) ((rd_T26 l0 x5_1).f1) ((rd_T26 l0 x5_1).f2) ((rd_T26 l0 x5_1).f3) ((rd_T26 l0 x5_1).f4) ((rd_T26 l0 x5_1).f5.f0) ((rd_T26 l0 x5_1).f5.f1) ((rd_T26 l0 x5_1).f6) _ _ ((rd_T26 l0 x5_1).f7) ((rd_T26 l1 x5_1).f0) ((rd_T26 l1 x5_1).f1) ((rd_T26 l1 x5_1).f2) ((rd_T26 l1 x5_1).f3) ((rd_T26 l1 x5_1).f4) ((rd_T26 l1 x5_1).f5.f0) ((rd_T26 l1 x5_1).f5.f1) ((rd_T26 l1 x5_1).f6) _ _ ((rd_T26 l1 x5_1).f7) true _ ?side1 ?side2 ?side3 ?side4 A7.out).mono ?_
        (case side1 => repeat (first | exact (Kd.C_below HR136_8.out HB.out) | (with_reducible refine Kd.C_alloc ?_ _) | (with_reducible refine Kd.C_drewN ?_ _) | (with_reducible refine Kd.C_drew ?_)))
        (case side2 => exact HC136_8.out)
        (case side3 => repeat (first | exact (Kd.C_below HR137_8.out HB.out) | (with_reducible refine Kd.C_alloc ?_ _) | (with_reducible refine Kd.C_drewN ?_ _) | (with_reducible refine Kd.C_drew ?_)))
        (case side4 => exact HC137_8.out)
        rintro e w10 ⟨rfl, hb⟩
        refine ⟨_, rfl, ?_⟩
        have n0_ := Aside0.mk (below_step (hz HB) hb)
        clear HB
        have HB := n0_
        clear n0_
        (try clear hb)
        refine hK.out _ _ ⟨((HB.out.cell (World.block_lt_of_cell? w _ hw136_0)).trans hw136_0), ((HB.out.cell (World.block_lt_of_cell? w _ hw136_1)).trans hw136_1), ((HB.out.cell (World.block_lt_of_cell? w _ hw136_2)).trans hw136_2), ((HB.out.cell (World.block_lt_of_cell? w _ hw136_3)).trans hw136_3), ((HB.out.cell (World.block_lt_of_cell? w _ hw136_4)).trans hw136_4), ((HB.out.cell (World.block_lt_of_cell? w _ hw136_5)).trans hw136_5), ((HB.out.cell (World.block_lt_of_cell? w _ hw136_6)).trans hw136_6), ((HB.out.cell (World.block_lt_of_cell? w _ hw136_7)).trans hw136_7), ((HB.out.cell (World.block_lt_of_cell? w _ hw136_8)).trans hw136_8), ((HB.out.cell (World.block_lt_of_cell? w _ hw137_0)).trans hw137_0), ((HB.out.cell (World.block_lt_of_cell? w _ hw137_1)).trans hw137_1), ((HB.out.cell (World.block_lt_of_cell? w _ hw137_2)).trans hw137_2), ((HB.out.cell (World.block_lt_of_cell? w _ hw137_3)).trans hw137_3), ((HB.out.cell (World.block_lt_of_cell? w _ hw137_4)).trans hw137_4), ((HB.out.cell (World.block_lt_of_cell? w _ hw137_5)).trans hw137_5), ((HB.out.cell (World.block_lt_of_cell? w _ hw137_6)).trans hw137_6), ((HB.out.cell (World.block_lt_of_cell? w _ hw137_7)).trans hw137_7), ((HB.out.cell (World.block_lt_of_cell? w _ hw137_8)).trans hw137_8)⟩ (fun hHeld => ?_)
        clear hK K
        refine norm_ (a' := ?_) ?_ ?_
        rotate_left
        ·show Act.put _ (some 25) _ = _
         simp only [Act.put, zq1, zq2, zq3, i64_w, i32_w]
         rfl
        refine zp 9 26 (bm 10 1023) ?_
        refine done_ (done_of HT_.out (by kernel_rfl)) ?_
        try go_wp2
        go_roundg k1
        case measure => have := HK1.out; omega
        case rel => exact ⟨(wrap64 (x5_1 + 1)), (by first | rfl | (simp; done) | (simp [*]; done)), H', ⟨by have := HK1.out; omega⟩, ⟨hz HB⟩⟩
       ·replace c8 := Bool.eq_false_iff.mpr c8
        subst c8
        have H1 : (some false) = some r := by rw [if_neg (show ¬ (false = true) by decide)] at H; exact H
        clear H
        have H := H1
        clear H1
        obtain rfl := Option.some.inj H
        try go_wp2
        have n0_ := Aside0.mk (below_drew1 HB.out)
        clear HB
        have HB := n0_
        clear n0_
        have p136 : 0 ≤ (x5_1 : Int) := of_decide_eq_true (by first | (with_reducible assumption) | assumption)
        have q136 : x5_1 < (l0.length : Int) := of_decide_eq_true (by first | (with_reducible assumption) | assumption)
        obtain ⟨ad136, A136_8, c136_8, e136, hx136_0, hx136_1, hx136_2, hx136_3, hx136_4, hx136_5, hx136_6, hx136_7, hx136_8, hl136_8, hi136_8⟩ := at_T26 HR0.out x5_1 p136 q136
        have hw136_8 := hx136_8
        have hw136_7 := hx136_7
        have hw136_6 := hx136_6
        have hw136_5 := hx136_5
        have hw136_4 := hx136_4
        have hw136_3 := hx136_3
        have hw136_2 := hx136_2
        have hw136_1 := hx136_1
        have hw136_0 := hx136_0
        cases e136
        replace hx136_0 := (HB.out.cell (World.block_lt_of_cell? w _ hx136_0)).trans hx136_0
        replace hx136_1 := (HB.out.cell (World.block_lt_of_cell? w _ hx136_1)).trans hx136_1
        replace hx136_2 := (HB.out.cell (World.block_lt_of_cell? w _ hx136_2)).trans hx136_2
        replace hx136_3 := (HB.out.cell (World.block_lt_of_cell? w _ hx136_3)).trans hx136_3
        replace hx136_4 := (HB.out.cell (World.block_lt_of_cell? w _ hx136_4)).trans hx136_4
        replace hx136_5 := (HB.out.cell (World.block_lt_of_cell? w _ hx136_5)).trans hx136_5
        replace hx136_6 := (HB.out.cell (World.block_lt_of_cell? w _ hx136_6)).trans hx136_6
        replace hx136_7 := (HB.out.cell (World.block_lt_of_cell? w _ hx136_7)).trans hx136_7
        replace hx136_8 := (HB.out.cell (World.block_lt_of_cell? w _ hx136_8)).trans hx136_8
        have HR136_8 := Aside0.mk hi136_8
        have HC136_8 := Aside0.mk hl136_8
        clear hi136_8 hl136_8
        replace p136 := eq_true p136
        replace q136 := eq_true q136
        have p137 : 0 ≤ (x5_1 : Int) := of_decide_eq_true (by first | (with_reducible assumption) | assumption)
        have q137 : x5_1 < (l1.length : Int) := of_decide_eq_true (by first | (with_reducible assumption) | assumption)
        obtain ⟨ad137, A137_8, c137_8, e137, hx137_0, hx137_1, hx137_2, hx137_3, hx137_4, hx137_5, hx137_6, hx137_7, hx137_8, hl137_8, hi137_8⟩ := at_T26 HR1.out x5_1 p137 q137
        have hw137_8 := hx137_8
        have hw137_7 := hx137_7
        have hw137_6 := hx137_6
        have hw137_5 := hx137_5
        have hw137_4 := hx137_4
        have hw137_3 := hx137_3
        have hw137_2 := hx137_2
        have hw137_1 := hx137_1
        have hw137_0 := hx137_0
        cases e137
        replace hx137_0 := (HB.out.cell (World.block_lt_of_cell? w _ hx137_0)).trans hx137_0
        replace hx137_1 := (HB.out.cell (World.block_lt_of_cell? w _ hx137_1)).trans hx137_1
        replace hx137_2 := (HB.out.cell (World.block_lt_of_cell? w _ hx137_2)).trans hx137_2
        replace hx137_3 := (HB.out.cell (World.block_lt_of_cell? w _ hx137_3)).trans hx137_3
        replace hx137_4 := (HB.out.cell (World.block_lt_of_cell? w _ hx137_4)).trans hx137_4
        replace hx137_5 := (HB.out.cell (World.block_lt_of_cell? w _ hx137_5)).trans hx137_5
        replace hx137_6 := (HB.out.cell (World.block_lt_of_cell? w _ hx137_6)).trans hx137_6
        replace hx137_7 := (HB.out.cell (World.block_lt_of_cell? w _ hx137_7)).trans hx137_7
        replace hx137_8 := (HB.out.cell (World.block_lt_of_cell? w _ hx137_8)).trans hx137_8
        have HR137_8 := Aside0.mk hi137_8
        have HC137_8 := Aside0.mk hl137_8
        clear hi137_8 hl137_8
        replace p137 := eq_true p137
        replace q137 := eq_true q137
        refine start_ (n := 10) (S := fun w' => w'.cell? (ad136.add ((x5_1).toNat * 9)) = some (.int .i64 ((rd_T26 l0 x5_1).f0)) ∧ w'.cell? ⟨(ad136.add ((x5_1).toNat * 9)).block, (ad136.add ((x5_1).toNat * 9)).off + 1, none⟩ = some (.int .i64 ((rd_T26 l0 x5_1).f1)) ∧ w'.cell? ⟨(ad136.add ((x5_1).toNat * 9)).block, (ad136.add ((x5_1).toNat * 9)).off + 2, none⟩ = some (.int .i64 ((rd_T26 l0 x5_1).f2)) ∧ w'.cell? ⟨(ad136.add ((x5_1).toNat * 9)).block, (ad136.add ((x5_1).toNat * 9)).off + 3, none⟩ = some (.int .i64 ((rd_T26 l0 x5_1).f3)) ∧ w'.cell? ⟨(ad136.add ((x5_1).toNat * 9)).block, (ad136.add ((x5_1).toNat * 9)).off + 4, none⟩ = some (.string ((rd_T26 l0 x5_1).f4)) ∧ w'.cell? ⟨(ad136.add ((x5_1).toNat * 9)).block, (ad136.add ((x5_1).toNat * 9)).off + 5, none⟩ = some (.int .i64 ((rd_T26 l0 x5_1).f5.f0)) ∧ w'.cell? ⟨(ad136.add ((x5_1).toNat * 9)).block, (ad136.add ((x5_1).toNat * 9)).off + 6, none⟩ = some (.int .i64 ((rd_T26 l0 x5_1).f5.f1)) ∧ w'.cell? ⟨(ad136.add ((x5_1).toNat * 9)).block, (ad136.add ((x5_1).toNat * 9)).off + 7, none⟩ = some (.string ((rd_T26 l0 x5_1).f6)) ∧ w'.cell? ⟨(ad136.add ((x5_1).toNat * 9)).block, (ad136.add ((x5_1).toNat * 9)).off + 8, none⟩ = some (.slice A136_8 ((rd_T26 l0 x5_1).f7).length c136_8) ∧ w'.cell? (ad137.add ((x5_1).toNat * 9)) = some (.int .i64 ((rd_T26 l1 x5_1).f0)) ∧ w'.cell? ⟨(ad137.add ((x5_1).toNat * 9)).block, (ad137.add ((x5_1).toNat * 9)).off + 1, none⟩ = some (.int .i64 ((rd_T26 l1 x5_1).f1)) ∧ w'.cell? ⟨(ad137.add ((x5_1).toNat * 9)).block, (ad137.add ((x5_1).toNat * 9)).off + 2, none⟩ = some (.int .i64 ((rd_T26 l1 x5_1).f2)) ∧ w'.cell? ⟨(ad137.add ((x5_1).toNat * 9)).block, (ad137.add ((x5_1).toNat * 9)).off + 3, none⟩ = some (.int .i64 ((rd_T26 l1 x5_1).f3)) ∧ w'.cell? ⟨(ad137.add ((x5_1).toNat * 9)).block, (ad137.add ((x5_1).toNat * 9)).off + 4, none⟩ = some (.string ((rd_T26 l1 x5_1).f4)) ∧ w'.cell? ⟨(ad137.add ((x5_1).toNat * 9)).block, (ad137.add ((x5_1).toNat * 9)).off + 5, none⟩ = some (.int .i64 ((rd_T26 l1 x5_1).f5.f0)) ∧ w'.cell? ⟨(ad137.add ((x5_1).toNat * 9)).block, (ad137.add ((x5_1).toNat * 9)).off + 6, none⟩ = some (.int .i64 ((rd_T26 l1 x5_1).f5.f1)) ∧ w'.cell? ⟨(ad137.add ((x5_1).toNat * 9)).block, (ad137.add ((x5_1).toNat * 9)).off + 7, none⟩ = some (.string ((rd_T26 l1 x5_1).f6)) ∧ w'.cell? ⟨(ad137.add ((x5_1).toNat * 9)).block, (ad137.add ((x5_1).toNat * 9)).off + 8, none⟩ = some (.slice A137_8 ((rd_T26 l1 x5_1).f7).length c137_8)) (ds := []) (bm 10 0) (by kernel_rfl) rfl rfl ⟨((HB.out.cell (World.block_lt_of_cell? w _ hw136_0)).trans hw136_0), ((HB.out.cell (World.block_lt_of_cell? w _ hw136_1)).trans hw136_1), ((HB.out.cell (World.block_lt_of_cell? w _ hw136_2)).trans hw136_2), ((HB.out.cell (World.block_lt_of_cell? w _ hw136_3)).trans hw136_3), ((HB.out.cell (World.block_lt_of_cell? w _ hw136_4)).trans hw136_4), ((HB.out.cell (World.block_lt_of_cell? w _ hw136_5)).trans hw136_5), ((HB.out.cell (World.block_lt_of_cell? w _ hw136_6)).trans hw136_6), ((HB.out.cell (World.block_lt_of_cell? w _ hw136_7)).trans hw136_7), ((HB.out.cell (World.block_lt_of_cell? w _ hw136_8)).trans hw136_8), ((HB.out.cell (World.block_lt_of_cell? w _ hw137_0)).trans hw137_0), ((HB.out.cell (World.block_lt_of_cell? w _ hw137_1)).trans hw137_1), ((HB.out.cell (World.block_lt_of_cell? w _ hw137_2)).trans hw137_2), ((HB.out.cell (World.block_lt_of_cell? w _ hw137_3)).trans hw137_3), ((HB.out.cell (World.block_lt_of_cell? w _ hw137_4)).trans hw137_4), ((HB.out.cell (World.block_lt_of_cell? w _ hw137_5)).trans hw137_5), ((HB.out.cell (World.block_lt_of_cell? w _ hw137_6)).trans hw137_6), ((HB.out.cell (World.block_lt_of_cell? w _ hw137_7)).trans hw137_7), ((HB.out.cell (World.block_lt_of_cell? w _ hw137_8)).trans hw137_8)⟩ (fun hHeld => ?_); refine with_tabW vitrinelaw22_same.tab6 vitrinelaw22_same.bits6 (fun HT_ HW_ => ?_)
        generalize wr.drew = w11 at HB HR136_8 HR137_8 hx136_0 hx136_1 hx136_2 hx136_3 hx136_4 hx136_5 hx136_6 hx136_7 hx136_8 hx137_0 hx137_1 hx137_2 hx137_3 hx137_4 hx137_5 hx137_6 hx137_7 hx137_8 hHeld ⊢
        refine zp 0 17 (bm 10 1) ?_
        refine zp 1 18 (bm 10 3) ?_
        refine zp 2 19 (bm 10 7) ?_
        refine zp 4 21 (bm 10 23) ?_
        refine zp 5 22 (bm 10 55) ?_
        refine zp 6 23 (bm 10 119) ?_
        refine zt 3 20 (bm 10 127) rfl (by rintro w' ⟨s0, s1, s2, s3, s4, s5, s6, s7, s8, s9, s10, s11, s12, s13, s14, s15, s16, s17⟩; go_simp; with_reducible rfl) ?_
        refine zt 7 24 (bm 10 255) rfl (by rintro w' ⟨s0, s1, s2, s3, s4, s5, s6, s7, s8, s9, s10, s11, s12, s13, s14, s15, s16, s17⟩; go_simp; with_reducible rfl) ?_
        refine one_ (i := 8) (N := some 25) (bm 10 511) rfl rfl (one_of HT_.out (by kernel_rfl)) (by decide) (fun K hK => ?_)
        refine goes_ Try.func36 (by kernel_rfl) rfl #[.agg #[.int .i64 ((rd_T26 l0 x5_1).f0), .int .i64 ((rd_T26 l0 x5_1).f1), .int .i64 ((rd_T26 l0 x5_1).f2), .int .i64 ((rd_T26 l0 x5_1).f3), .string ((rd_T26 l0 x5_1).f4), .int .i64 ((rd_T26 l0 x5_1).f5.f0), .int .i64 ((rd_T26 l0 x5_1).f5.f1), .string ((rd_T26 l0 x5_1).f6), .slice A136_8 ((rd_T26 l0 x5_1).f7).length c136_8], .agg #[.int .i64 ((rd_T26 l1 x5_1).f0), .int .i64 ((rd_T26 l1 x5_1).f1), .int .i64 ((rd_T26 l1 x5_1).f2), .int .i64 ((rd_T26 l1 x5_1).f3), .string ((rd_T26 l1 x5_1).f4), .int .i64 ((rd_T26 l1 x5_1).f5.f0), .int .i64 ((rd_T26 l1 x5_1).f5.f1), .string ((rd_T26 l1 x5_1).f6), .slice A137_8 ((rd_T26 l1 x5_1).f7).length c137_8]] (by rfl) rfl rfl (by (try simp only [List.map_toArray, List.map_cons, List.map_nil]); first | done | rfl | (simp only [List.length_drop, List.length_take]; rfl) | (simp only [ByteArray.size_extract, Nat.min_self]; done) | (simp only [ByteArray.size_extract, Nat.min_self]; rfl)) ?_
        with_reducible refine (vitrineref20_Same.calls k1 ((rd_T26 l0 x5_1).f0) ((rd_T26 l0 x5_1).f1) ((rd_T26 l0 x5_1).f2) ((rd_T26 l0 x5_1).f3) ((rd_T26 l0 x5_1).f4) ((rd_T26 l0 x5_1).f5.f0) ((rd_T26 l0 x5_1).f5.f1) ((rd_T26 l0 x5_1).f6) _ _ ((rd_T26 l0 x5_1).f7) ((rd_T26 l1 x5_1).f0) ((rd_T26 l1 x5_1).f1) ((rd_T26 l1 x5_1).f2) ((rd_T26 l1 x5_1).f3) ((rd_T26 l1 x5_1).f4) ((rd_T26 l1 x5_1).f5.f0) ((rd_T26 l1 x5_1).f5.f1) ((rd_T26 l1 x5_1).f6) _ _ ((rd_T26 l1 x5_1).f7) false _ ?side1 ?side2 ?side3 ?side4 A7.out).mono ?_
        (case side1 => repeat (first | exact (Kd.C_below HR136_8.out HB.out) | (with_reducible refine Kd.C_alloc ?_ _) | (with_reducible refine Kd.C_drewN ?_ _) | (with_reducible refine Kd.C_drew ?_)))
        (case side2 => exact HC136_8.out)
        (case side3 => repeat (first | exact (Kd.C_below HR137_8.out HB.out) | (with_reducible refine Kd.C_alloc ?_ _) | (with_reducible refine Kd.C_drewN ?_ _) | (with_reducible refine Kd.C_drew ?_)))
        (case side4 => exact HC137_8.out)
        rintro e w12 ⟨rfl, hb⟩
        refine ⟨_, rfl, ?_⟩
        have n0_ := Aside0.mk (below_step (hz HB) hb)
        clear HB
        have HB := n0_
        clear n0_
        (try clear hb)
        refine hK.out _ _ ⟨((HB.out.cell (World.block_lt_of_cell? w _ hw136_0)).trans hw136_0), ((HB.out.cell (World.block_lt_of_cell? w _ hw136_1)).trans hw136_1), ((HB.out.cell (World.block_lt_of_cell? w _ hw136_2)).trans hw136_2), ((HB.out.cell (World.block_lt_of_cell? w _ hw136_3)).trans hw136_3), ((HB.out.cell (World.block_lt_of_cell? w _ hw136_4)).trans hw136_4), ((HB.out.cell (World.block_lt_of_cell? w _ hw136_5)).trans hw136_5), ((HB.out.cell (World.block_lt_of_cell? w _ hw136_6)).trans hw136_6), ((HB.out.cell (World.block_lt_of_cell? w _ hw136_7)).trans hw136_7), ((HB.out.cell (World.block_lt_of_cell? w _ hw136_8)).trans hw136_8), ((HB.out.cell (World.block_lt_of_cell? w _ hw137_0)).trans hw137_0), ((HB.out.cell (World.block_lt_of_cell? w _ hw137_1)).trans hw137_1), ((HB.out.cell (World.block_lt_of_cell? w _ hw137_2)).trans hw137_2), ((HB.out.cell (World.block_lt_of_cell? w _ hw137_3)).trans hw137_3), ((HB.out.cell (World.block_lt_of_cell? w _ hw137_4)).trans hw137_4), ((HB.out.cell (World.block_lt_of_cell? w _ hw137_5)).trans hw137_5), ((HB.out.cell (World.block_lt_of_cell? w _ hw137_6)).trans hw137_6), ((HB.out.cell (World.block_lt_of_cell? w _ hw137_7)).trans hw137_7), ((HB.out.cell (World.block_lt_of_cell? w _ hw137_8)).trans hw137_8)⟩ (fun hHeld => ?_)
        clear hK K
        refine norm_ (a' := ?_) ?_ ?_
        rotate_left
        ·show Act.put _ (some 25) _ = _
         simp only [Act.put, zq1, zq2, zq3, i64_w, i32_w]
         rfl
        refine zp 9 26 (bm 10 1023) ?_
        refine done_ (done_of HT_.out (by kernel_rfl)) ?_
        try go_wp2
        go_ret
        exact ⟨by first | rfl | (simp [errW_none, errW_some] <;> rfl) | (simp [*, errW_none, errW_some] <;> rfl), by repeat (first | (with_reducible first | exact HB.out | apply below_alloc | apply pw_below_drewN | apply below_drew1) | exact HB.out)⟩
      ·rw [if_neg c6] at H
       exact absurd H (by simp)
     ·rw [if_neg c5] at H
      exact absurd H (by simp)
    ·rw [if_neg c4] at H
     have c4b0 : decide (x5_1 < (l0.length : Int)) = false := decide_eq_false c4
     clear c4
     obtain rfl := Option.some.inj H
     go_wp2
     go_ret
     exact ⟨by first | rfl | (simp [errW_none, errW_some] <;> rfl) | (simp [*, errW_none, errW_some] <;> rfl), by repeat (first | (with_reducible first | exact HB.out | apply below_alloc | apply pw_below_drewN | apply below_drew1) | exact HB.out)⟩
 ·rw [if_neg c3] at H
  have c3b0 : ((l0.length : Int) == (l1.length : Int)) = false := beq_eq_false_iff_ne.mpr c3
  have c3b1 : ((l0.length : Int) != (l1.length : Int)) = true := bne_iff_ne.mpr c3
  have c3b2 : (l0.length == l1.length) = false := by first | simpa using c3 | (simp at c3 ⊢; omega)
  obtain rfl := Option.some.inj H
  go_enter Try.func15, Try.ntmps15
  go_wp2
  go_ret
  exact ⟨by first | rfl | (simp [errW_none, errW_some] <;> rfl) | (simp [*, errW_none, errW_some] <;> rfl), by repeat (first | (with_reducible first | exact HB.out | apply below_alloc | apply pw_below_drewN | apply below_drew1) | exact HB.out)⟩

end Go.Proofs.Ytdbiokmlgniobaa.PL22

namespace Go.Proofs.Ytdbiokmlgniobaa.PL22
open Go.RowKit Go.Proofs.YtdbiokmlgniobaaW.PrintWords Go.Proofs.YtdbiokmlgniobaaW.PrintLast Go.Proofs.YtdbiokmlgniobaaW.PrintMore
attribute [local go_sem] max2_int min2_int max_two min_two max_three min_three max_four min_four   -- for this text's walks alone
set_option linter.unusedVariables false
set_option linter.unusedSimpArgs false

open Go.Proofs.YtdbiokmlgniobaaV
attribute [local go_sem] eql_nil
def bs0 : CS := ⟨9, 3, 0, 0, false, m0, m0, 41⟩
def bs1 : CS := ⟨9, 3, 1, 1, false, m0, awW, 41⟩
def busL : List S26 := rsUp bs1 [] 3
def vitrinelaw22_ClientBusy.f (k : Nat) (a0_0 : Int) (a0_1 : Int) (a0_2 : Int) (a0_3 : Int) (a0_4 : ByteArray) (a0_5 : Int) (a0_6 : Int) (a0_7 : ByteArray) (l0_8 : List ByteArray) : Option (Bool) := (vitrinelaw22_few.f k a0_0 a0_1 a0_2 a0_3 a0_4 a0_5 a0_6 a0_7 l0_8).bind fun b => (if b = true then (vitrinelaw22_same.f k busL busL).bind fun x => (if x = true then some true else none) else some true)
theorem handle_no (g gm : Nat) (s : CS) (H : List Int) (m : S26) (Am : Option Addr) (lm cm : Nat) (w : World) (hc : Cl g (some gm) s H w) (hp : s.ph ≠ 0) (h : m.f2 ≠ s.id ∨ m.f3 ≠ s.op) : Calls Try.prog 11 #[.pointer (some ⟨g, 0, none⟩), .agg #[.int .i64 m.f0, .int .i64 m.f1, .int .i64 m.f2, .int .i64 m.f3, .string m.f4, .int .i64 m.f5.f0, .int .i64 m.f5.f1, .string m.f6, .slice Am lm cm]] w (Ret (.tuple #[.slice none 0 0, .bool false]) w) := by
 by_cases e : m.f2 = s.id
 ·exact handle_op g (some gm) s H m Am lm cm w hc hp e (h.resolve_left (fun h_ => h_ e))
 ·exact handle_to g (some gm) s H m Am lm cm w hc hp e
set_option maxHeartbeats 40000000 in
set_option maxRecDepth 100000 in
theorem busy_few (k : Nat) (a0_0 : Int) (a0_1 : Int) (a0_2 : Int) (a0_3 : Int) (a0_4 : ByteArray) (a0_5 : Int) (a0_6 : Int) (a0_7 : ByteArray) (A0_8 : Option Addr) (c0_8 : Nat) (l0_8 : List ByteArray) (w : World) (hr0_8 : Kd.C Kd.string w A0_8 l0_8.length l0_8) (hc0_8 : l0_8.length ≤ c0_8) (hfew : vitrinelaw22_few.f k a0_0 a0_1 a0_2 a0_3 a0_4 a0_5 a0_6 a0_7 l0_8 = some false) : Calls Try.prog 3 #[.agg #[.int .i64 a0_0, .int .i64 a0_1, .int .i64 a0_2, .int .i64 a0_3, .string a0_4, .int .i64 a0_5, .int .i64 a0_6, .string a0_7, .slice A0_8 l0_8.length c0_8]] w (Ret (.bool true) w) := by
 have HFew := Aside0.mk hfew
 have HR0 := Aside0.mk hr0_8
 have HC0 := Aside0.mk hc0_8
 clear hfew hr0_8 hc0_8
 go_enter Try.func3, Try.ntmps3
 go_wp2_with (first | ((with_reducible refine gate_dst (N := 1) rfl ?_); refine box_event ?hg (N := 1) ?hd (cs := #[.int .i64 a0_0, .int .i64 a0_1, .int .i64 a0_2, .int .i64 a0_3, .string a0_4, .int .i64 a0_5, .int .i64 a0_6, .string a0_7, .slice A0_8 l0_8.length c0_8]) (t := 26) ?hr ?_; (case hd => rfl); (case hg => rfl); (case hr => first | (go_simp; done) | (go_simp; rfl)); intro gb hg w1 hbox hb; have HB := Aside0.mk hb; have HX := Aside0.mk hbox; have HGb := Aside0.mk (show w.heap.size ≤ gb by rw [hg]; exact Nat.le_refl _); clear hg hbox hb; have yb0 := (blk_cell HX.out 0).trans (show (#[.int .i64 a0_0, .int .i64 a0_1, .int .i64 a0_2, .int .i64 a0_3, .string a0_4, .int .i64 a0_5, .int .i64 a0_6, .string a0_7, .slice A0_8 l0_8.length c0_8] : Array Value)[0]? = some (.int .i64 a0_0) from rfl); have yb1 := (blk_cell HX.out 1).trans (show (#[.int .i64 a0_0, .int .i64 a0_1, .int .i64 a0_2, .int .i64 a0_3, .string a0_4, .int .i64 a0_5, .int .i64 a0_6, .string a0_7, .slice A0_8 l0_8.length c0_8] : Array Value)[1]? = some (.int .i64 a0_1) from rfl); have yb2 := (blk_cell HX.out 2).trans (show (#[.int .i64 a0_0, .int .i64 a0_1, .int .i64 a0_2, .int .i64 a0_3, .string a0_4, .int .i64 a0_5, .int .i64 a0_6, .string a0_7, .slice A0_8 l0_8.length c0_8] : Array Value)[2]? = some (.int .i64 a0_2) from rfl); have yb3 := (blk_cell HX.out 3).trans (show (#[.int .i64 a0_0, .int .i64 a0_1, .int .i64 a0_2, .int .i64 a0_3, .string a0_4, .int .i64 a0_5, .int .i64 a0_6, .string a0_7, .slice A0_8 l0_8.length c0_8] : Array Value)[3]? = some (.int .i64 a0_3) from rfl); have yb4 := (blk_cell HX.out 4).trans (show (#[.int .i64 a0_0, .int .i64 a0_1, .int .i64 a0_2, .int .i64 a0_3, .string a0_4, .int .i64 a0_5, .int .i64 a0_6, .string a0_7, .slice A0_8 l0_8.length c0_8] : Array Value)[4]? = some (.string a0_4) from rfl); have yb5 := (blk_cell HX.out 5).trans (show (#[.int .i64 a0_0, .int .i64 a0_1, .int .i64 a0_2, .int .i64 a0_3, .string a0_4, .int .i64 a0_5, .int .i64 a0_6, .string a0_7, .slice A0_8 l0_8.length c0_8] : Array Value)[5]? = some (.int .i64 a0_5) from rfl); have yb6 := (blk_cell HX.out 6).trans (show (#[.int .i64 a0_0, .int .i64 a0_1, .int .i64 a0_2, .int .i64 a0_3, .string a0_4, .int .i64 a0_5, .int .i64 a0_6, .string a0_7, .slice A0_8 l0_8.length c0_8] : Array Value)[6]? = some (.int .i64 a0_6) from rfl); have yb7 := (blk_cell HX.out 7).trans (show (#[.int .i64 a0_0, .int .i64 a0_1, .int .i64 a0_2, .int .i64 a0_3, .string a0_4, .int .i64 a0_5, .int .i64 a0_6, .string a0_7, .slice A0_8 l0_8.length c0_8] : Array Value)[7]? = some (.string a0_7) from rfl); have yb8 := (blk_cell HX.out 8).trans (show (#[.int .i64 a0_0, .int .i64 a0_1, .int .i64 a0_2, .int .i64 a0_3, .string a0_4, .int .i64 a0_5, .int .i64 a0_6, .string a0_7, .slice A0_8 l0_8.length c0_8] : Array Value)[8]? = some (.slice A0_8 l0_8.length c0_8) from rfl)) | (go_at_call 8; (with_reducible refine (vitrinelaw22_few.calls k a0_0 a0_1 a0_2 a0_3 a0_4 a0_5 a0_6 a0_7 A0_8 c0_8 l0_8 false _ (Kd.C_below HR0.out HB.out) HC0.out HFew.out).mono ?_); rintro e w2 ⟨rfl, hb⟩; have n_HX := Aside0.mk (blk_below HX.out hb); have n_HB := Aside0.mk (below_step HB.out hb); clear HX HB hb yb0 yb1 yb2 yb3 yb4 yb5 yb6 yb7 yb8; have HX := n_HX; have HB := n_HB; clear n_HX n_HB) | (go_at_call 9; (with_reducible refine (awake_calls _).mono ?_); rintro e w30 ⟨rfl, hb⟩; have n_HB := Aside0.mk (below_step HB.out hb); clear HB hb; have HB := n_HB; clear n_HB))
 go_ret
 exact ⟨rfl, HB.out⟩
set_option maxHeartbeats 40000000 in
set_option maxRecDepth 100000 in
theorem busy_1 (k : Nat) (a0_0 : Int) (a0_1 : Int) (a0_2 : Int) (a0_3 : Int) (a0_4 : ByteArray) (a0_5 : Int) (a0_6 : Int) (a0_7 : ByteArray) (A0_8 : Option Addr) (c0_8 : Nat) (l0_8 : List ByteArray) (w : World) (hr0_8 : Kd.C Kd.string w A0_8 l0_8.length l0_8) (hc0_8 : l0_8.length ≤ c0_8) (hfew : vitrinelaw22_few.f k a0_0 a0_1 a0_2 a0_3 a0_4 a0_5 a0_6 a0_7 l0_8 = some true) (hsm : vitrinelaw22_same.f k busL busL = some true) (ho : a0_3 = 1) : Calls Try.prog 3 #[.agg #[.int .i64 a0_0, .int .i64 a0_1, .int .i64 a0_2, .int .i64 a0_3, .string a0_4, .int .i64 a0_5, .int .i64 a0_6, .string a0_7, .slice A0_8 l0_8.length c0_8]] w (Ret (.bool true) w) := by
 have HFew := Aside0.mk hfew
 have HR0 := Aside0.mk hr0_8
 have HC0 := Aside0.mk hc0_8
 clear hfew hr0_8 hc0_8
 have HSm := Aside0.mk hsm
 clear hsm
 subst ho
 go_enter Try.func3, Try.ntmps3
 go_upto_region 3 with (first | ((with_reducible refine gate_dst (N := 1) rfl ?_); refine box_event ?hg (N := 1) ?hd (cs := #[.int .i64 a0_0, .int .i64 a0_1, .int .i64 a0_2, .int .i64 1, .string a0_4, .int .i64 a0_5, .int .i64 a0_6, .string a0_7, .slice A0_8 l0_8.length c0_8]) (t := 26) ?hr ?_; (case hd => rfl); (case hg => rfl); (case hr => first | (go_simp; done) | (go_simp; rfl)); intro gb hg w1 hbox hb; have HB := Aside0.mk hb; have HX := Aside0.mk hbox; have HGb := Aside0.mk (show w.heap.size ≤ gb by rw [hg]; exact Nat.le_refl _); clear hg hbox hb; have yb0 := (blk_cell HX.out 0).trans (show (#[.int .i64 a0_0, .int .i64 a0_1, .int .i64 a0_2, .int .i64 1, .string a0_4, .int .i64 a0_5, .int .i64 a0_6, .string a0_7, .slice A0_8 l0_8.length c0_8] : Array Value)[0]? = some (.int .i64 a0_0) from rfl); have yb1 := (blk_cell HX.out 1).trans (show (#[.int .i64 a0_0, .int .i64 a0_1, .int .i64 a0_2, .int .i64 1, .string a0_4, .int .i64 a0_5, .int .i64 a0_6, .string a0_7, .slice A0_8 l0_8.length c0_8] : Array Value)[1]? = some (.int .i64 a0_1) from rfl); have yb2 := (blk_cell HX.out 2).trans (show (#[.int .i64 a0_0, .int .i64 a0_1, .int .i64 a0_2, .int .i64 1, .string a0_4, .int .i64 a0_5, .int .i64 a0_6, .string a0_7, .slice A0_8 l0_8.length c0_8] : Array Value)[2]? = some (.int .i64 a0_2) from rfl); have yb3 := (blk_cell HX.out 3).trans (show (#[.int .i64 a0_0, .int .i64 a0_1, .int .i64 a0_2, .int .i64 1, .string a0_4, .int .i64 a0_5, .int .i64 a0_6, .string a0_7, .slice A0_8 l0_8.length c0_8] : Array Value)[3]? = some (.int .i64 1) from rfl); have yb4 := (blk_cell HX.out 4).trans (show (#[.int .i64 a0_0, .int .i64 a0_1, .int .i64 a0_2, .int .i64 1, .string a0_4, .int .i64 a0_5, .int .i64 a0_6, .string a0_7, .slice A0_8 l0_8.length c0_8] : Array Value)[4]? = some (.string a0_4) from rfl); have yb5 := (blk_cell HX.out 5).trans (show (#[.int .i64 a0_0, .int .i64 a0_1, .int .i64 a0_2, .int .i64 1, .string a0_4, .int .i64 a0_5, .int .i64 a0_6, .string a0_7, .slice A0_8 l0_8.length c0_8] : Array Value)[5]? = some (.int .i64 a0_5) from rfl); have yb6 := (blk_cell HX.out 6).trans (show (#[.int .i64 a0_0, .int .i64 a0_1, .int .i64 a0_2, .int .i64 1, .string a0_4, .int .i64 a0_5, .int .i64 a0_6, .string a0_7, .slice A0_8 l0_8.length c0_8] : Array Value)[6]? = some (.int .i64 a0_6) from rfl); have yb7 := (blk_cell HX.out 7).trans (show (#[.int .i64 a0_0, .int .i64 a0_1, .int .i64 a0_2, .int .i64 1, .string a0_4, .int .i64 a0_5, .int .i64 a0_6, .string a0_7, .slice A0_8 l0_8.length c0_8] : Array Value)[7]? = some (.string a0_7) from rfl); have yb8 := (blk_cell HX.out 8).trans (show (#[.int .i64 a0_0, .int .i64 a0_1, .int .i64 a0_2, .int .i64 1, .string a0_4, .int .i64 a0_5, .int .i64 a0_6, .string a0_7, .slice A0_8 l0_8.length c0_8] : Array Value)[8]? = some (.slice A0_8 l0_8.length c0_8) from rfl)) | (go_at_call 8; (with_reducible refine (vitrinelaw22_few.calls k a0_0 a0_1 a0_2 1 a0_4 a0_5 a0_6 a0_7 A0_8 c0_8 l0_8 true _ (Kd.C_below HR0.out HB.out) HC0.out HFew.out).mono ?_); rintro e w2 ⟨rfl, hb⟩; have n_HX := Aside0.mk (blk_below HX.out hb); have n_HB := Aside0.mk (below_step HB.out hb); clear HX HB hb yb0 yb1 yb2 yb3 yb4 yb5 yb6 yb7 yb8; have HX := n_HX; have HB := n_HB; clear n_HX n_HB))
 go_upto_region 4 with (go_at_call 10; (with_reducible refine (new_ok 9 3 _ (by decide) (by decide) (by decide) (by decide) (by decide)).mono ?_); rintro e w3 ⟨g, rfl, hg, hc, hb⟩; have HG := Aside0.mk (show gb < g from Nat.lt_of_lt_of_le (blk_lt HX.out) hg); have HGw := Aside0.mk (Nat.le_trans HB.out.size hg); have HC := Aside0.mk (show Cl g none bs0 [] w3 from hc); have n_HX := Aside0.mk (blk_below HX.out hb); have n_HB := Aside0.mk (below_step HB.out hb); clear HX HB hg hc hb; have HX := n_HX; have HB := n_HB; clear n_HX n_HB)
 go_upto_region 6 with (fail)
 have yb0 := (blk_cell HX.out 0).trans (show (#[.int .i64 a0_0, .int .i64 a0_1, .int .i64 a0_2, .int .i64 1, .string a0_4, .int .i64 a0_5, .int .i64 a0_6, .string a0_7, .slice A0_8 l0_8.length c0_8] : Array Value)[0]? = some (.int .i64 a0_0) from rfl)
 have yb1 := (blk_cell HX.out 1).trans (show (#[.int .i64 a0_0, .int .i64 a0_1, .int .i64 a0_2, .int .i64 1, .string a0_4, .int .i64 a0_5, .int .i64 a0_6, .string a0_7, .slice A0_8 l0_8.length c0_8] : Array Value)[1]? = some (.int .i64 a0_1) from rfl)
 have yb2 := (blk_cell HX.out 2).trans (show (#[.int .i64 a0_0, .int .i64 a0_1, .int .i64 a0_2, .int .i64 1, .string a0_4, .int .i64 a0_5, .int .i64 a0_6, .string a0_7, .slice A0_8 l0_8.length c0_8] : Array Value)[2]? = some (.int .i64 a0_2) from rfl)
 have yb3 := (blk_cell HX.out 3).trans (show (#[.int .i64 a0_0, .int .i64 a0_1, .int .i64 a0_2, .int .i64 1, .string a0_4, .int .i64 a0_5, .int .i64 a0_6, .string a0_7, .slice A0_8 l0_8.length c0_8] : Array Value)[3]? = some (.int .i64 1) from rfl)
 have yb4 := (blk_cell HX.out 4).trans (show (#[.int .i64 a0_0, .int .i64 a0_1, .int .i64 a0_2, .int .i64 1, .string a0_4, .int .i64 a0_5, .int .i64 a0_6, .string a0_7, .slice A0_8 l0_8.length c0_8] : Array Value)[4]? = some (.string a0_4) from rfl)
 have yb5 := (blk_cell HX.out 5).trans (show (#[.int .i64 a0_0, .int .i64 a0_1, .int .i64 a0_2, .int .i64 1, .string a0_4, .int .i64 a0_5, .int .i64 a0_6, .string a0_7, .slice A0_8 l0_8.length c0_8] : Array Value)[5]? = some (.int .i64 a0_5) from rfl)
 have yb6 := (blk_cell HX.out 6).trans (show (#[.int .i64 a0_0, .int .i64 a0_1, .int .i64 a0_2, .int .i64 1, .string a0_4, .int .i64 a0_5, .int .i64 a0_6, .string a0_7, .slice A0_8 l0_8.length c0_8] : Array Value)[6]? = some (.int .i64 a0_6) from rfl)
 have yb7 := (blk_cell HX.out 7).trans (show (#[.int .i64 a0_0, .int .i64 a0_1, .int .i64 a0_2, .int .i64 1, .string a0_4, .int .i64 a0_5, .int .i64 a0_6, .string a0_7, .slice A0_8 l0_8.length c0_8] : Array Value)[7]? = some (.string a0_7) from rfl)
 have yb8 := (blk_cell HX.out 8).trans (show (#[.int .i64 a0_0, .int .i64 a0_1, .int .i64 a0_2, .int .i64 1, .string a0_4, .int .i64 a0_5, .int .i64 a0_6, .string a0_7, .slice A0_8 l0_8.length c0_8] : Array Value)[8]? = some (.slice A0_8 l0_8.length c0_8) from rfl)
 have HT : Aside0 (Calls Try.prog 11 #[.pointer (some ⟨g, 0, none⟩), .agg #[.int .i64 a0_0, .int .i64 a0_1, .int .i64 a0_2, .int .i64 1, .string a0_4, .int .i64 a0_5, .int .i64 a0_6, .string a0_7, .slice A0_8 l0_8.length c0_8]] w3 (Ret (.tuple #[.slice none 0 0, .bool false]) w3)) := ⟨handle_idle g none bs0 [] (⟨a0_0, a0_1, a0_2, 1, a0_4, ⟨a0_5, a0_6⟩, a0_7, l0_8⟩ : S26) A0_8 l0_8.length c0_8 w3 HC.out rfl⟩
 go_upto_region 7 with (go_at_call 11; (with_reducible refine HT.out.mono ?_); rintro e w4 ⟨rfl, hb⟩; have n_HX := Aside0.mk (blk_below HX.out hb); have n_HB := Aside0.mk (below_step HB.out hb); have n_HC := Aside0.mk (HC.out.below hb); clear yb0 yb1 yb2 yb3 yb4 yb5 yb6 yb7 yb8; clear HX HB HC HT hb; have HX := n_HX; have HB := n_HB; have HC := n_HC; clear n_HX n_HB n_HC)
 have HT : Aside0 (Calls Try.prog 12 #[.pointer (some ⟨g, 0, none⟩), .string (⟨#[97]⟩ : ByteArray)] w4 (PostG g none w4 bs1 busL)) := ⟨by have h_ : Calls Try.prog 12 #[.pointer (some ⟨g, 0, none⟩), .string (⟨#[97]⟩ : ByteArray)] w4 (PostG g none w4 ⟨9, 3, wrap64 (0 + 1), 1, false, m0, awW, 41⟩ (rsUp ⟨9, 3, wrap64 (0 + 1), 1, false, m0, awW, 41⟩ [] 3)) := get_ok 60 g none bs0 [] (⟨#[97]⟩ : ByteArray) w4 HC.out (Or.inr ⟨rfl, aw_name⟩) (by decide); rw [wr01] at h_; exact h_⟩
 go_upto_region 8 with (go_at_call 12; (with_reducible refine HT.out.mono ?_); rintro e w5 ⟨v, gm, rfl, hgm, hr, hc, hf⟩; have HGM := Aside0.mk (show gb < gm ∧ w.heap.size ≤ gm from ⟨Nat.lt_of_lt_of_le (blk_lt HX.out) hgm, Nat.le_trans HB.out.size hgm⟩); have n_HX := Aside0.mk (hf.2.2.2.blk HX.out (by have := HG.out; omega) (by simp)); have n_HB := Aside0.mk (Fr.below HB.out hf HGw.out (fun _ h_ => by cases h_)); obtain ⟨A5, c5, rfl⟩ := Kd.R_slice hr; have n_HC := Aside0.mk hc; clear hr hc hgm; clear HX HB HC HT hf; have HX := n_HX; have HB := n_HB; have HC := n_HC; clear n_HX n_HB n_HC)
 have HT : Aside0 (Calls Try.prog 12 #[.pointer (some ⟨g, 0, none⟩), .string (⟨#[97]⟩ : ByteArray)] w5 (Ret (.tuple #[.slice none 0 0, .int .i64 61]) w5)) := ⟨get_no 60 g (some gm) bs1 [] (⟨#[97]⟩ : ByteArray) 61 w5 HC.out (Or.inl ⟨by decide, rfl⟩) (by decide)⟩
 go_upto_region 9 with (go_at_call 12; (with_reducible refine HT.out.mono ?_); rintro e w6 ⟨rfl, hb⟩; have n_HX := Aside0.mk (blk_below HX.out hb); have n_HB := Aside0.mk (below_step HB.out hb); have n_HC := Aside0.mk (HC.out.below hb); clear HX HB HC HT hb; have HX := n_HX; have HB := n_HB; have HC := n_HC; clear n_HX n_HB n_HC)
 go_upto_region 10 with (first | ((with_reducible refine gate_dst (N := 48) rfl ?_); refine Kd.R_lit Kd.string _ 9 ?hg (N := 48) ?hd (xs := ([(⟨#[]⟩ : ByteArray)] : List ByteArray)) (inner := [.string (⟨#[]⟩ : ByteArray)]) (ok := fun _ => True) (okp := fun _ => True) ?hr ?hp (fun _ hk => hk) trivial (Below.refl _ _) (Nat.le_refl _) (by simp) ?_; (case hd => rfl); (case hg => rfl); (case hr => first | (go_simp; done) | (go_simp; rfl)); (case hp => exact (Reps.one (show Kd.M Kd.string _ _ _ (⟨#[]⟩ : ByteArray) [.string (⟨#[]⟩ : ByteArray)] from rfl) (Reps.none _ _))); intro vl w6b ho_ hb hg_ hnew_; obtain ⟨Al, cl, rfl⟩ := Kd.R_slice ho_; have n_HX := Aside0.mk (blk_below HX.out hb); have n_HB := Aside0.mk (below_step HB.out hb); have n_HC := Aside0.mk (HC.out.below hb); clear ho_ hb hg_ hnew_ HX HB HC; have HX := n_HX; have HB := n_HB; have HC := n_HC; clear n_HX n_HB n_HC; have HT : Aside0 (Calls Try.prog 13 #[.pointer (some ⟨g, 0, none⟩), .string (⟨#[97]⟩ : ByteArray), .string (⟨#[]⟩ : ByteArray), .slice Al 1 cl] w6b (Ret (.tuple #[.slice none 0 0, .int .i64 61]) w6b)) := ⟨put_no 60 g (some gm) bs1 [] (⟨#[97]⟩ : ByteArray) (⟨#[]⟩ : ByteArray) Al cl ([(⟨#[]⟩ : ByteArray)] : List ByteArray) 61 w6b HC.out (Or.inl ⟨by decide, rfl⟩) (by decide)⟩) | (go_at_call 13; (with_reducible refine HT.out.mono ?_); rintro e w7 ⟨rfl, hb⟩; have n_HX := Aside0.mk (blk_below HX.out hb); have n_HB := Aside0.mk (below_step HB.out hb); have n_HC := Aside0.mk (HC.out.below hb); clear HX HB HC HT hb; have HX := n_HX; have HB := n_HB; have HC := n_HC; clear n_HX n_HB n_HC))
 have HT : Aside0 (Calls Try.prog 14 #[.pointer (some ⟨g, 0, none⟩)] w7 (RetL busL w7)) := ⟨resend_calls g gm bs1 [] w7 HC.out (.inl rfl) (by decide) (by decide)⟩
 have HNb := Aside0.mk (show gb < w7.heap.size from blk_lt HX.out)
 go_upto_region 11 with (go_at_call 14; (with_reducible refine HT.out.mono ?_); rintro e w8 ⟨v7, rfl, hr, hb⟩; have HR := Aside0.mk hr; have n_HX := Aside0.mk (blk_below HX.out hb); have n_HB := Aside0.mk (below_step HB.out hb); have n_HC := Aside0.mk (HC.out.below hb); clear HX HB HC HT hr hb; have HX := n_HX; have HB := n_HB; have HC := n_HC; clear n_HX n_HB n_HC)
 obtain ⟨Aw, cw, rfl⟩ := Kd.R_slice HR.out
 have yb0 := (blk_cell HX.out 0).trans (show (#[.int .i64 a0_0, .int .i64 a0_1, .int .i64 a0_2, .int .i64 1, .string a0_4, .int .i64 a0_5, .int .i64 a0_6, .string a0_7, .slice A0_8 l0_8.length c0_8] : Array Value)[0]? = some (.int .i64 a0_0) from rfl)
 have yb1 := (blk_cell HX.out 1).trans (show (#[.int .i64 a0_0, .int .i64 a0_1, .int .i64 a0_2, .int .i64 1, .string a0_4, .int .i64 a0_5, .int .i64 a0_6, .string a0_7, .slice A0_8 l0_8.length c0_8] : Array Value)[1]? = some (.int .i64 a0_1) from rfl)
 have yb2 := (blk_cell HX.out 2).trans (show (#[.int .i64 a0_0, .int .i64 a0_1, .int .i64 a0_2, .int .i64 1, .string a0_4, .int .i64 a0_5, .int .i64 a0_6, .string a0_7, .slice A0_8 l0_8.length c0_8] : Array Value)[2]? = some (.int .i64 a0_2) from rfl)
 have yb3 := (blk_cell HX.out 3).trans (show (#[.int .i64 a0_0, .int .i64 a0_1, .int .i64 a0_2, .int .i64 1, .string a0_4, .int .i64 a0_5, .int .i64 a0_6, .string a0_7, .slice A0_8 l0_8.length c0_8] : Array Value)[3]? = some (.int .i64 1) from rfl)
 have yb4 := (blk_cell HX.out 4).trans (show (#[.int .i64 a0_0, .int .i64 a0_1, .int .i64 a0_2, .int .i64 1, .string a0_4, .int .i64 a0_5, .int .i64 a0_6, .string a0_7, .slice A0_8 l0_8.length c0_8] : Array Value)[4]? = some (.string a0_4) from rfl)
 have yb5 := (blk_cell HX.out 5).trans (show (#[.int .i64 a0_0, .int .i64 a0_1, .int .i64 a0_2, .int .i64 1, .string a0_4, .int .i64 a0_5, .int .i64 a0_6, .string a0_7, .slice A0_8 l0_8.length c0_8] : Array Value)[5]? = some (.int .i64 a0_5) from rfl)
 have yb6 := (blk_cell HX.out 6).trans (show (#[.int .i64 a0_0, .int .i64 a0_1, .int .i64 a0_2, .int .i64 1, .string a0_4, .int .i64 a0_5, .int .i64 a0_6, .string a0_7, .slice A0_8 l0_8.length c0_8] : Array Value)[6]? = some (.int .i64 a0_6) from rfl)
 have yb7 := (blk_cell HX.out 7).trans (show (#[.int .i64 a0_0, .int .i64 a0_1, .int .i64 a0_2, .int .i64 1, .string a0_4, .int .i64 a0_5, .int .i64 a0_6, .string a0_7, .slice A0_8 l0_8.length c0_8] : Array Value)[7]? = some (.string a0_7) from rfl)
 have yb8 := (blk_cell HX.out 8).trans (show (#[.int .i64 a0_0, .int .i64 a0_1, .int .i64 a0_2, .int .i64 1, .string a0_4, .int .i64 a0_5, .int .i64 a0_6, .string a0_7, .slice A0_8 l0_8.length c0_8] : Array Value)[8]? = some (.slice A0_8 l0_8.length c0_8) from rfl)
 have fb3 := blk_frozen HX.out 3
 go_upto_region 13 with (fail)
 refine (fun (h_ : ∀ w_, Below w.heap.size w w_ → w_.heap[gb]? = some (.cells #[.int .i64 a0_0, .int .i64 a0_1, .int .i64 a0_2, .int .i64 2, .string a0_4, .int .i64 a0_5, .int .i64 a0_6, .string a0_7, .slice A0_8 l0_8.length c0_8] 26 (0, 0)) → Cl g (some gm) bs1 [] w_ → Kd.R k26 26 w_ w7.heap.size (fun _ => True) (.slice Aw busL.length cw) busL → Code.wp _ _ _ _ w_) => h_ (World.setCell w8 ⟨gb, 3, none⟩ (.int .i64 2)) (below_set HB.out HGb.out) (by have h1_ := HX.out; rw [setCell_eq_setRow _ _ _ _ _ _ _ h1_]; exact setRow_heap _ _ _ _ _ _ h1_) (HC.out.set HX.out (by have := HG.out; omega)) (R_setB HR.out HNb.out)) ?_
 clear HX HB HC HR fb3 yb0 yb1 yb2 yb3 yb4 yb5 yb6 yb7 yb8
 intro w9 hb hx hc hr
 have HB := Aside0.mk hb
 have HX := Aside0.mk hx
 have HC := Aside0.mk hc
 have HR := Aside0.mk hr
 clear hb hx hc hr
 have yb0 := (blk_cell HX.out 0).trans (show (#[.int .i64 a0_0, .int .i64 a0_1, .int .i64 a0_2, .int .i64 2, .string a0_4, .int .i64 a0_5, .int .i64 a0_6, .string a0_7, .slice A0_8 l0_8.length c0_8] : Array Value)[0]? = some (.int .i64 a0_0) from rfl)
 have yb1 := (blk_cell HX.out 1).trans (show (#[.int .i64 a0_0, .int .i64 a0_1, .int .i64 a0_2, .int .i64 2, .string a0_4, .int .i64 a0_5, .int .i64 a0_6, .string a0_7, .slice A0_8 l0_8.length c0_8] : Array Value)[1]? = some (.int .i64 a0_1) from rfl)
 have yb2 := (blk_cell HX.out 2).trans (show (#[.int .i64 a0_0, .int .i64 a0_1, .int .i64 a0_2, .int .i64 2, .string a0_4, .int .i64 a0_5, .int .i64 a0_6, .string a0_7, .slice A0_8 l0_8.length c0_8] : Array Value)[2]? = some (.int .i64 a0_2) from rfl)
 have yb3 := (blk_cell HX.out 3).trans (show (#[.int .i64 a0_0, .int .i64 a0_1, .int .i64 a0_2, .int .i64 2, .string a0_4, .int .i64 a0_5, .int .i64 a0_6, .string a0_7, .slice A0_8 l0_8.length c0_8] : Array Value)[3]? = some (.int .i64 2) from rfl)
 have yb4 := (blk_cell HX.out 4).trans (show (#[.int .i64 a0_0, .int .i64 a0_1, .int .i64 a0_2, .int .i64 2, .string a0_4, .int .i64 a0_5, .int .i64 a0_6, .string a0_7, .slice A0_8 l0_8.length c0_8] : Array Value)[4]? = some (.string a0_4) from rfl)
 have yb5 := (blk_cell HX.out 5).trans (show (#[.int .i64 a0_0, .int .i64 a0_1, .int .i64 a0_2, .int .i64 2, .string a0_4, .int .i64 a0_5, .int .i64 a0_6, .string a0_7, .slice A0_8 l0_8.length c0_8] : Array Value)[5]? = some (.int .i64 a0_5) from rfl)
 have yb6 := (blk_cell HX.out 6).trans (show (#[.int .i64 a0_0, .int .i64 a0_1, .int .i64 a0_2, .int .i64 2, .string a0_4, .int .i64 a0_5, .int .i64 a0_6, .string a0_7, .slice A0_8 l0_8.length c0_8] : Array Value)[6]? = some (.int .i64 a0_6) from rfl)
 have yb7 := (blk_cell HX.out 7).trans (show (#[.int .i64 a0_0, .int .i64 a0_1, .int .i64 a0_2, .int .i64 2, .string a0_4, .int .i64 a0_5, .int .i64 a0_6, .string a0_7, .slice A0_8 l0_8.length c0_8] : Array Value)[7]? = some (.string a0_7) from rfl)
 have yb8 := (blk_cell HX.out 8).trans (show (#[.int .i64 a0_0, .int .i64 a0_1, .int .i64 a0_2, .int .i64 2, .string a0_4, .int .i64 a0_5, .int .i64 a0_6, .string a0_7, .slice A0_8 l0_8.length c0_8] : Array Value)[8]? = some (.slice A0_8 l0_8.length c0_8) from rfl)
 have HT : Aside0 (Calls Try.prog 11 #[.pointer (some ⟨g, 0, none⟩), .agg #[.int .i64 a0_0, .int .i64 a0_1, .int .i64 a0_2, .int .i64 2, .string a0_4, .int .i64 a0_5, .int .i64 a0_6, .string a0_7, .slice A0_8 l0_8.length c0_8]] w9 (Ret (.tuple #[.slice none 0 0, .bool false]) w9)) := ⟨handle_no g gm bs1 [] (⟨a0_0, a0_1, a0_2, 2, a0_4, ⟨a0_5, a0_6⟩, a0_7, l0_8⟩ : S26) A0_8 l0_8.length c0_8 w9 HC.out (by decide) (.inr (show (2 : Int) ≠ 1 by decide))⟩
 go_upto_region 14 with (go_at_call 11; (with_reducible refine HT.out.mono ?_); rintro e w10 ⟨rfl, hb⟩; have n_HX := Aside0.mk (blk_below HX.out hb); have n_HB := Aside0.mk (below_step HB.out hb); have n_HC := Aside0.mk (HC.out.below hb); have n_HR := Aside0.mk (Kd.R_below HR.out hb); clear HR; have HR := n_HR; clear n_HR yb0 yb1 yb2 yb3 yb4 yb5 yb6 yb7 yb8; clear HX HB HC HT hb; have HX := n_HX; have HB := n_HB; have HC := n_HC; clear n_HX n_HB n_HC)
 have HT : Aside0 (Calls Try.prog 14 #[.pointer (some ⟨g, 0, none⟩)] w10 (RetL busL w10)) := ⟨resend_calls g gm bs1 [] w10 HC.out (.inl rfl) (by decide) (by decide)⟩
 go_wp2_with (first | (go_at_call 14; (with_reducible refine HT.out.mono ?_); rintro e w11 ⟨v7, rfl, hr, hb⟩; have HR2 := Aside0.mk hr; have n_HR := Aside0.mk (Kd.R_below HR.out hb); have n_HX := Aside0.mk (blk_below HX.out hb); have n_HB := Aside0.mk (below_step HB.out hb); have n_HC := Aside0.mk (HC.out.below hb); clear HX HB HC HT HR hr hb; have HR := n_HR; clear n_HR; have HX := n_HX; have HB := n_HB; have HC := n_HC; clear n_HX n_HB n_HC; obtain ⟨A7, c7, rfl⟩ := Kd.R_slice HR2.out) | (go_at_call 15; (with_reducible refine (vitrinelaw22_same.calls k Aw cw busL A7 c7 busL true _ (Kd.R_reads' HR.out).2.2 (Kd.R_reads' HR.out).2.1 (Kd.R_reads' HR2.out).2.2 (Kd.R_reads' HR2.out).2.1 HSm.out).mono ?_); rintro e w12 ⟨rfl, hb⟩; have n_HB := Aside0.mk (below_step HB.out hb); clear HB HX HC hb; have HB := n_HB; clear n_HB) | (go_at_call 9; (with_reducible refine (awake_calls _).mono ?_); rintro e w30 ⟨rfl, hb⟩; have n_HB := Aside0.mk (below_step HB.out hb); clear HB hb; have HB := n_HB; clear n_HB))
 go_ret
 exact ⟨rfl, HB.out⟩
set_option maxHeartbeats 40000000 in
set_option maxRecDepth 100000 in
theorem busy_0 (k : Nat) (a0_0 : Int) (a0_1 : Int) (a0_2 : Int) (a0_3 : Int) (a0_4 : ByteArray) (a0_5 : Int) (a0_6 : Int) (a0_7 : ByteArray) (A0_8 : Option Addr) (c0_8 : Nat) (l0_8 : List ByteArray) (w : World) (hr0_8 : Kd.C Kd.string w A0_8 l0_8.length l0_8) (hc0_8 : l0_8.length ≤ c0_8) (hfew : vitrinelaw22_few.f k a0_0 a0_1 a0_2 a0_3 a0_4 a0_5 a0_6 a0_7 l0_8 = some true) (hsm : vitrinelaw22_same.f k busL busL = some true) (ho : a0_3 ≠ 1) : Calls Try.prog 3 #[.agg #[.int .i64 a0_0, .int .i64 a0_1, .int .i64 a0_2, .int .i64 a0_3, .string a0_4, .int .i64 a0_5, .int .i64 a0_6, .string a0_7, .slice A0_8 l0_8.length c0_8]] w (Ret (.bool true) w) := by
 have HFew := Aside0.mk hfew
 have HR0 := Aside0.mk hr0_8
 have HC0 := Aside0.mk hc0_8
 clear hfew hr0_8 hc0_8
 have HSm := Aside0.mk hsm
 clear hsm
 have qo : (a0_3 == 1) = false := beq_eq_false_iff_ne.mpr ho
 have HOp := Aside0.mk ho
 clear ho
 go_enter Try.func3, Try.ntmps3
 go_upto_region 3 with (first | ((with_reducible refine gate_dst (N := 1) rfl ?_); refine box_event ?hg (N := 1) ?hd (cs := #[.int .i64 a0_0, .int .i64 a0_1, .int .i64 a0_2, .int .i64 a0_3, .string a0_4, .int .i64 a0_5, .int .i64 a0_6, .string a0_7, .slice A0_8 l0_8.length c0_8]) (t := 26) ?hr ?_; (case hd => rfl); (case hg => rfl); (case hr => first | (go_simp; done) | (go_simp; rfl)); intro gb hg w1 hbox hb; have HB := Aside0.mk hb; have HX := Aside0.mk hbox; have HGb := Aside0.mk (show w.heap.size ≤ gb by rw [hg]; exact Nat.le_refl _); clear hg hbox hb; have yb0 := (blk_cell HX.out 0).trans (show (#[.int .i64 a0_0, .int .i64 a0_1, .int .i64 a0_2, .int .i64 a0_3, .string a0_4, .int .i64 a0_5, .int .i64 a0_6, .string a0_7, .slice A0_8 l0_8.length c0_8] : Array Value)[0]? = some (.int .i64 a0_0) from rfl); have yb1 := (blk_cell HX.out 1).trans (show (#[.int .i64 a0_0, .int .i64 a0_1, .int .i64 a0_2, .int .i64 a0_3, .string a0_4, .int .i64 a0_5, .int .i64 a0_6, .string a0_7, .slice A0_8 l0_8.length c0_8] : Array Value)[1]? = some (.int .i64 a0_1) from rfl); have yb2 := (blk_cell HX.out 2).trans (show (#[.int .i64 a0_0, .int .i64 a0_1, .int .i64 a0_2, .int .i64 a0_3, .string a0_4, .int .i64 a0_5, .int .i64 a0_6, .string a0_7, .slice A0_8 l0_8.length c0_8] : Array Value)[2]? = some (.int .i64 a0_2) from rfl); have yb3 := (blk_cell HX.out 3).trans (show (#[.int .i64 a0_0, .int .i64 a0_1, .int .i64 a0_2, .int .i64 a0_3, .string a0_4, .int .i64 a0_5, .int .i64 a0_6, .string a0_7, .slice A0_8 l0_8.length c0_8] : Array Value)[3]? = some (.int .i64 a0_3) from rfl); have yb4 := (blk_cell HX.out 4).trans (show (#[.int .i64 a0_0, .int .i64 a0_1, .int .i64 a0_2, .int .i64 a0_3, .string a0_4, .int .i64 a0_5, .int .i64 a0_6, .string a0_7, .slice A0_8 l0_8.length c0_8] : Array Value)[4]? = some (.string a0_4) from rfl); have yb5 := (blk_cell HX.out 5).trans (show (#[.int .i64 a0_0, .int .i64 a0_1, .int .i64 a0_2, .int .i64 a0_3, .string a0_4, .int .i64 a0_5, .int .i64 a0_6, .string a0_7, .slice A0_8 l0_8.length c0_8] : Array Value)[5]? = some (.int .i64 a0_5) from rfl); have yb6 := (blk_cell HX.out 6).trans (show (#[.int .i64 a0_0, .int .i64 a0_1, .int .i64 a0_2, .int .i64 a0_3, .string a0_4, .int .i64 a0_5, .int .i64 a0_6, .string a0_7, .slice A0_8 l0_8.length c0_8] : Array Value)[6]? = some (.int .i64 a0_6) from rfl); have yb7 := (blk_cell HX.out 7).trans (show (#[.int .i64 a0_0, .int .i64 a0_1, .int .i64 a0_2, .int .i64 a0_3, .string a0_4, .int .i64 a0_5, .int .i64 a0_6, .string a0_7, .slice A0_8 l0_8.length c0_8] : Array Value)[7]? = some (.string a0_7) from rfl); have yb8 := (blk_cell HX.out 8).trans (show (#[.int .i64 a0_0, .int .i64 a0_1, .int .i64 a0_2, .int .i64 a0_3, .string a0_4, .int .i64 a0_5, .int .i64 a0_6, .string a0_7, .slice A0_8 l0_8.length c0_8] : Array Value)[8]? = some (.slice A0_8 l0_8.length c0_8) from rfl)) | (go_at_call 8; (with_reducible refine (vitrinelaw22_few.calls k a0_0 a0_1 a0_2 a0_3 a0_4 a0_5 a0_6 a0_7 A0_8 c0_8 l0_8 true _ (Kd.C_below HR0.out HB.out) HC0.out HFew.out).mono ?_); rintro e w2 ⟨rfl, hb⟩; have n_HX := Aside0.mk (blk_below HX.out hb); have n_HB := Aside0.mk (below_step HB.out hb); clear HX HB hb yb0 yb1 yb2 yb3 yb4 yb5 yb6 yb7 yb8; have HX := n_HX; have HB := n_HB; clear n_HX n_HB))
 go_upto_region 4 with (go_at_call 10; (with_reducible refine (new_ok 9 3 _ (by decide) (by decide) (by decide) (by decide) (by decide)).mono ?_); rintro e w3 ⟨g, rfl, hg, hc, hb⟩; have HG := Aside0.mk (show gb < g from Nat.lt_of_lt_of_le (blk_lt HX.out) hg); have HGw := Aside0.mk (Nat.le_trans HB.out.size hg); have HC := Aside0.mk (show Cl g none bs0 [] w3 from hc); have n_HX := Aside0.mk (blk_below HX.out hb); have n_HB := Aside0.mk (below_step HB.out hb); clear HX HB hg hc hb; have HX := n_HX; have HB := n_HB; clear n_HX n_HB)
 go_upto_region 6 with (fail)
 have yb0 := (blk_cell HX.out 0).trans (show (#[.int .i64 a0_0, .int .i64 a0_1, .int .i64 a0_2, .int .i64 a0_3, .string a0_4, .int .i64 a0_5, .int .i64 a0_6, .string a0_7, .slice A0_8 l0_8.length c0_8] : Array Value)[0]? = some (.int .i64 a0_0) from rfl)
 have yb1 := (blk_cell HX.out 1).trans (show (#[.int .i64 a0_0, .int .i64 a0_1, .int .i64 a0_2, .int .i64 a0_3, .string a0_4, .int .i64 a0_5, .int .i64 a0_6, .string a0_7, .slice A0_8 l0_8.length c0_8] : Array Value)[1]? = some (.int .i64 a0_1) from rfl)
 have yb2 := (blk_cell HX.out 2).trans (show (#[.int .i64 a0_0, .int .i64 a0_1, .int .i64 a0_2, .int .i64 a0_3, .string a0_4, .int .i64 a0_5, .int .i64 a0_6, .string a0_7, .slice A0_8 l0_8.length c0_8] : Array Value)[2]? = some (.int .i64 a0_2) from rfl)
 have yb3 := (blk_cell HX.out 3).trans (show (#[.int .i64 a0_0, .int .i64 a0_1, .int .i64 a0_2, .int .i64 a0_3, .string a0_4, .int .i64 a0_5, .int .i64 a0_6, .string a0_7, .slice A0_8 l0_8.length c0_8] : Array Value)[3]? = some (.int .i64 a0_3) from rfl)
 have yb4 := (blk_cell HX.out 4).trans (show (#[.int .i64 a0_0, .int .i64 a0_1, .int .i64 a0_2, .int .i64 a0_3, .string a0_4, .int .i64 a0_5, .int .i64 a0_6, .string a0_7, .slice A0_8 l0_8.length c0_8] : Array Value)[4]? = some (.string a0_4) from rfl)
 have yb5 := (blk_cell HX.out 5).trans (show (#[.int .i64 a0_0, .int .i64 a0_1, .int .i64 a0_2, .int .i64 a0_3, .string a0_4, .int .i64 a0_5, .int .i64 a0_6, .string a0_7, .slice A0_8 l0_8.length c0_8] : Array Value)[5]? = some (.int .i64 a0_5) from rfl)
 have yb6 := (blk_cell HX.out 6).trans (show (#[.int .i64 a0_0, .int .i64 a0_1, .int .i64 a0_2, .int .i64 a0_3, .string a0_4, .int .i64 a0_5, .int .i64 a0_6, .string a0_7, .slice A0_8 l0_8.length c0_8] : Array Value)[6]? = some (.int .i64 a0_6) from rfl)
 have yb7 := (blk_cell HX.out 7).trans (show (#[.int .i64 a0_0, .int .i64 a0_1, .int .i64 a0_2, .int .i64 a0_3, .string a0_4, .int .i64 a0_5, .int .i64 a0_6, .string a0_7, .slice A0_8 l0_8.length c0_8] : Array Value)[7]? = some (.string a0_7) from rfl)
 have yb8 := (blk_cell HX.out 8).trans (show (#[.int .i64 a0_0, .int .i64 a0_1, .int .i64 a0_2, .int .i64 a0_3, .string a0_4, .int .i64 a0_5, .int .i64 a0_6, .string a0_7, .slice A0_8 l0_8.length c0_8] : Array Value)[8]? = some (.slice A0_8 l0_8.length c0_8) from rfl)
 have HT : Aside0 (Calls Try.prog 11 #[.pointer (some ⟨g, 0, none⟩), .agg #[.int .i64 a0_0, .int .i64 a0_1, .int .i64 a0_2, .int .i64 a0_3, .string a0_4, .int .i64 a0_5, .int .i64 a0_6, .string a0_7, .slice A0_8 l0_8.length c0_8]] w3 (Ret (.tuple #[.slice none 0 0, .bool false]) w3)) := ⟨handle_idle g none bs0 [] (⟨a0_0, a0_1, a0_2, a0_3, a0_4, ⟨a0_5, a0_6⟩, a0_7, l0_8⟩ : S26) A0_8 l0_8.length c0_8 w3 HC.out rfl⟩
 go_upto_region 7 with (go_at_call 11; (with_reducible refine HT.out.mono ?_); rintro e w4 ⟨rfl, hb⟩; have n_HX := Aside0.mk (blk_below HX.out hb); have n_HB := Aside0.mk (below_step HB.out hb); have n_HC := Aside0.mk (HC.out.below hb); clear yb0 yb1 yb2 yb3 yb4 yb5 yb6 yb7 yb8; clear HX HB HC HT hb; have HX := n_HX; have HB := n_HB; have HC := n_HC; clear n_HX n_HB n_HC)
 have HT : Aside0 (Calls Try.prog 12 #[.pointer (some ⟨g, 0, none⟩), .string (⟨#[97]⟩ : ByteArray)] w4 (PostG g none w4 bs1 busL)) := ⟨by have h_ : Calls Try.prog 12 #[.pointer (some ⟨g, 0, none⟩), .string (⟨#[97]⟩ : ByteArray)] w4 (PostG g none w4 ⟨9, 3, wrap64 (0 + 1), 1, false, m0, awW, 41⟩ (rsUp ⟨9, 3, wrap64 (0 + 1), 1, false, m0, awW, 41⟩ [] 3)) := get_ok 60 g none bs0 [] (⟨#[97]⟩ : ByteArray) w4 HC.out (Or.inr ⟨rfl, aw_name⟩) (by decide); rw [wr01] at h_; exact h_⟩
 go_upto_region 8 with (go_at_call 12; (with_reducible refine HT.out.mono ?_); rintro e w5 ⟨v, gm, rfl, hgm, hr, hc, hf⟩; have HGM := Aside0.mk (show gb < gm ∧ w.heap.size ≤ gm from ⟨Nat.lt_of_lt_of_le (blk_lt HX.out) hgm, Nat.le_trans HB.out.size hgm⟩); have n_HX := Aside0.mk (hf.2.2.2.blk HX.out (by have := HG.out; omega) (by simp)); have n_HB := Aside0.mk (Fr.below HB.out hf HGw.out (fun _ h_ => by cases h_)); obtain ⟨A5, c5, rfl⟩ := Kd.R_slice hr; have n_HC := Aside0.mk hc; clear hr hc hgm; clear HX HB HC HT hf; have HX := n_HX; have HB := n_HB; have HC := n_HC; clear n_HX n_HB n_HC)
 have HT : Aside0 (Calls Try.prog 12 #[.pointer (some ⟨g, 0, none⟩), .string (⟨#[97]⟩ : ByteArray)] w5 (Ret (.tuple #[.slice none 0 0, .int .i64 61]) w5)) := ⟨get_no 60 g (some gm) bs1 [] (⟨#[97]⟩ : ByteArray) 61 w5 HC.out (Or.inl ⟨by decide, rfl⟩) (by decide)⟩
 go_upto_region 9 with (go_at_call 12; (with_reducible refine HT.out.mono ?_); rintro e w6 ⟨rfl, hb⟩; have n_HX := Aside0.mk (blk_below HX.out hb); have n_HB := Aside0.mk (below_step HB.out hb); have n_HC := Aside0.mk (HC.out.below hb); clear HX HB HC HT hb; have HX := n_HX; have HB := n_HB; have HC := n_HC; clear n_HX n_HB n_HC)
 go_upto_region 10 with (first | ((with_reducible refine gate_dst (N := 48) rfl ?_); refine Kd.R_lit Kd.string _ 9 ?hg (N := 48) ?hd (xs := ([(⟨#[]⟩ : ByteArray)] : List ByteArray)) (inner := [.string (⟨#[]⟩ : ByteArray)]) (ok := fun _ => True) (okp := fun _ => True) ?hr ?hp (fun _ hk => hk) trivial (Below.refl _ _) (Nat.le_refl _) (by simp) ?_; (case hd => rfl); (case hg => rfl); (case hr => first | (go_simp; done) | (go_simp; rfl)); (case hp => exact (Reps.one (show Kd.M Kd.string _ _ _ (⟨#[]⟩ : ByteArray) [.string (⟨#[]⟩ : ByteArray)] from rfl) (Reps.none _ _))); intro vl w6b ho_ hb hg_ hnew_; obtain ⟨Al, cl, rfl⟩ := Kd.R_slice ho_; have n_HX := Aside0.mk (blk_below HX.out hb); have n_HB := Aside0.mk (below_step HB.out hb); have n_HC := Aside0.mk (HC.out.below hb); clear ho_ hb hg_ hnew_ HX HB HC; have HX := n_HX; have HB := n_HB; have HC := n_HC; clear n_HX n_HB n_HC; have HT : Aside0 (Calls Try.prog 13 #[.pointer (some ⟨g, 0, none⟩), .string (⟨#[97]⟩ : ByteArray), .string (⟨#[]⟩ : ByteArray), .slice Al 1 cl] w6b (Ret (.tuple #[.slice none 0 0, .int .i64 61]) w6b)) := ⟨put_no 60 g (some gm) bs1 [] (⟨#[97]⟩ : ByteArray) (⟨#[]⟩ : ByteArray) Al cl ([(⟨#[]⟩ : ByteArray)] : List ByteArray) 61 w6b HC.out (Or.inl ⟨by decide, rfl⟩) (by decide)⟩) | (go_at_call 13; (with_reducible refine HT.out.mono ?_); rintro e w7 ⟨rfl, hb⟩; have n_HX := Aside0.mk (blk_below HX.out hb); have n_HB := Aside0.mk (below_step HB.out hb); have n_HC := Aside0.mk (HC.out.below hb); clear HX HB HC HT hb; have HX := n_HX; have HB := n_HB; have HC := n_HC; clear n_HX n_HB n_HC))
 have HT : Aside0 (Calls Try.prog 14 #[.pointer (some ⟨g, 0, none⟩)] w7 (RetL busL w7)) := ⟨resend_calls g gm bs1 [] w7 HC.out (.inl rfl) (by decide) (by decide)⟩
 have HNb := Aside0.mk (show gb < w7.heap.size from blk_lt HX.out)
 go_upto_region 11 with (go_at_call 14; (with_reducible refine HT.out.mono ?_); rintro e w8 ⟨v7, rfl, hr, hb⟩; have HR := Aside0.mk hr; have n_HX := Aside0.mk (blk_below HX.out hb); have n_HB := Aside0.mk (below_step HB.out hb); have n_HC := Aside0.mk (HC.out.below hb); clear HX HB HC HT hr hb; have HX := n_HX; have HB := n_HB; have HC := n_HC; clear n_HX n_HB n_HC)
 obtain ⟨Aw, cw, rfl⟩ := Kd.R_slice HR.out
 have yb0 := (blk_cell HX.out 0).trans (show (#[.int .i64 a0_0, .int .i64 a0_1, .int .i64 a0_2, .int .i64 a0_3, .string a0_4, .int .i64 a0_5, .int .i64 a0_6, .string a0_7, .slice A0_8 l0_8.length c0_8] : Array Value)[0]? = some (.int .i64 a0_0) from rfl)
 have yb1 := (blk_cell HX.out 1).trans (show (#[.int .i64 a0_0, .int .i64 a0_1, .int .i64 a0_2, .int .i64 a0_3, .string a0_4, .int .i64 a0_5, .int .i64 a0_6, .string a0_7, .slice A0_8 l0_8.length c0_8] : Array Value)[1]? = some (.int .i64 a0_1) from rfl)
 have yb2 := (blk_cell HX.out 2).trans (show (#[.int .i64 a0_0, .int .i64 a0_1, .int .i64 a0_2, .int .i64 a0_3, .string a0_4, .int .i64 a0_5, .int .i64 a0_6, .string a0_7, .slice A0_8 l0_8.length c0_8] : Array Value)[2]? = some (.int .i64 a0_2) from rfl)
 have yb3 := (blk_cell HX.out 3).trans (show (#[.int .i64 a0_0, .int .i64 a0_1, .int .i64 a0_2, .int .i64 a0_3, .string a0_4, .int .i64 a0_5, .int .i64 a0_6, .string a0_7, .slice A0_8 l0_8.length c0_8] : Array Value)[3]? = some (.int .i64 a0_3) from rfl)
 have yb4 := (blk_cell HX.out 4).trans (show (#[.int .i64 a0_0, .int .i64 a0_1, .int .i64 a0_2, .int .i64 a0_3, .string a0_4, .int .i64 a0_5, .int .i64 a0_6, .string a0_7, .slice A0_8 l0_8.length c0_8] : Array Value)[4]? = some (.string a0_4) from rfl)
 have yb5 := (blk_cell HX.out 5).trans (show (#[.int .i64 a0_0, .int .i64 a0_1, .int .i64 a0_2, .int .i64 a0_3, .string a0_4, .int .i64 a0_5, .int .i64 a0_6, .string a0_7, .slice A0_8 l0_8.length c0_8] : Array Value)[5]? = some (.int .i64 a0_5) from rfl)
 have yb6 := (blk_cell HX.out 6).trans (show (#[.int .i64 a0_0, .int .i64 a0_1, .int .i64 a0_2, .int .i64 a0_3, .string a0_4, .int .i64 a0_5, .int .i64 a0_6, .string a0_7, .slice A0_8 l0_8.length c0_8] : Array Value)[6]? = some (.int .i64 a0_6) from rfl)
 have yb7 := (blk_cell HX.out 7).trans (show (#[.int .i64 a0_0, .int .i64 a0_1, .int .i64 a0_2, .int .i64 a0_3, .string a0_4, .int .i64 a0_5, .int .i64 a0_6, .string a0_7, .slice A0_8 l0_8.length c0_8] : Array Value)[7]? = some (.string a0_7) from rfl)
 have yb8 := (blk_cell HX.out 8).trans (show (#[.int .i64 a0_0, .int .i64 a0_1, .int .i64 a0_2, .int .i64 a0_3, .string a0_4, .int .i64 a0_5, .int .i64 a0_6, .string a0_7, .slice A0_8 l0_8.length c0_8] : Array Value)[8]? = some (.slice A0_8 l0_8.length c0_8) from rfl)
 go_upto_region 13 with (fail)
 have HT : Aside0 (Calls Try.prog 11 #[.pointer (some ⟨g, 0, none⟩), .agg #[.int .i64 a0_0, .int .i64 a0_1, .int .i64 a0_2, .int .i64 a0_3, .string a0_4, .int .i64 a0_5, .int .i64 a0_6, .string a0_7, .slice A0_8 l0_8.length c0_8]] w8 (Ret (.tuple #[.slice none 0 0, .bool false]) w8)) := ⟨handle_no g gm bs1 [] (⟨a0_0, a0_1, a0_2, a0_3, a0_4, ⟨a0_5, a0_6⟩, a0_7, l0_8⟩ : S26) A0_8 l0_8.length c0_8 w8 HC.out (by decide) (.inr HOp.out)⟩
 go_upto_region 14 with (go_at_call 11; (with_reducible refine HT.out.mono ?_); rintro e w10 ⟨rfl, hb⟩; have n_HX := Aside0.mk (blk_below HX.out hb); have n_HB := Aside0.mk (below_step HB.out hb); have n_HC := Aside0.mk (HC.out.below hb); have n_HR := Aside0.mk (Kd.R_below HR.out hb); clear HR; have HR := n_HR; clear n_HR yb0 yb1 yb2 yb3 yb4 yb5 yb6 yb7 yb8; clear HX HB HC HT hb; have HX := n_HX; have HB := n_HB; have HC := n_HC; clear n_HX n_HB n_HC)
 have HT : Aside0 (Calls Try.prog 14 #[.pointer (some ⟨g, 0, none⟩)] w10 (RetL busL w10)) := ⟨resend_calls g gm bs1 [] w10 HC.out (.inl rfl) (by decide) (by decide)⟩
 go_wp2_with (first | (go_at_call 14; (with_reducible refine HT.out.mono ?_); rintro e w11 ⟨v7, rfl, hr, hb⟩; have HR2 := Aside0.mk hr; have n_HR := Aside0.mk (Kd.R_below HR.out hb); have n_HX := Aside0.mk (blk_below HX.out hb); have n_HB := Aside0.mk (below_step HB.out hb); have n_HC := Aside0.mk (HC.out.below hb); clear HX HB HC HT HR hr hb; have HR := n_HR; clear n_HR; have HX := n_HX; have HB := n_HB; have HC := n_HC; clear n_HX n_HB n_HC; obtain ⟨A7, c7, rfl⟩ := Kd.R_slice HR2.out) | (go_at_call 15; (with_reducible refine (vitrinelaw22_same.calls k Aw cw busL A7 c7 busL true _ (Kd.R_reads' HR.out).2.2 (Kd.R_reads' HR.out).2.1 (Kd.R_reads' HR2.out).2.2 (Kd.R_reads' HR2.out).2.1 HSm.out).mono ?_); rintro e w12 ⟨rfl, hb⟩; have n_HB := Aside0.mk (below_step HB.out hb); clear HB HX HC hb; have HB := n_HB; clear n_HB) | (go_at_call 9; (with_reducible refine (awake_calls _).mono ?_); rintro e w30 ⟨rfl, hb⟩; have n_HB := Aside0.mk (below_step HB.out hb); clear HB hb; have HB := n_HB; clear n_HB))
 go_ret
 exact ⟨rfl, HB.out⟩
theorem vitrinelaw22_ClientBusy.calls (k : Nat) (a0_0 : Int) (a0_1 : Int) (a0_2 : Int) (a0_3 : Int) (a0_4 : ByteArray) (a0_5 : Int) (a0_6 : Int) (a0_7 : ByteArray) (A0_8 : Option Addr) (c0_8 : Nat) (l0_8 : List ByteArray) (r : Bool) (w : World) (hr0_8 : Kd.C Kd.string w A0_8 l0_8.length l0_8) (hc0_8 : l0_8.length ≤ c0_8) (h : vitrinelaw22_ClientBusy.f k a0_0 a0_1 a0_2 a0_3 a0_4 a0_5 a0_6 a0_7 l0_8 = some r) :
  Calls Try.prog 3 #[.agg #[.int .i64 a0_0, .int .i64 a0_1, .int .i64 a0_2, .int .i64 a0_3, .string a0_4, .int .i64 a0_5, .int .i64 a0_6, .string a0_7, .slice A0_8 l0_8.length c0_8]] w fun e w' => e = .returned (.bool r) ∧ Below w.heap.size w w' := by
 obtain ⟨b, hb, h1⟩ := Option.bind_eq_some_iff.1 h
 cases b
 ·obtain rfl := Option.some.inj (show some true = some r from h1)
  exact busy_few k a0_0 a0_1 a0_2 a0_3 a0_4 a0_5 a0_6 a0_7 A0_8 c0_8 l0_8 w hr0_8 hc0_8 hb
 ·obtain ⟨x, hx, h2⟩ := Option.bind_eq_some_iff.1 (show (vitrinelaw22_same.f k busL busL).bind _ = some r from h1)
  cases x
  ·cases h2
  ·obtain rfl := Option.some.inj (show some true = some r from h2)
   by_cases ho : a0_3 = 1
   ·exact busy_1 k a0_0 a0_1 a0_2 a0_3 a0_4 a0_5 a0_6 a0_7 A0_8 c0_8 l0_8 w hr0_8 hc0_8 hb hx ho
   ·exact busy_0 k a0_0 a0_1 a0_2 a0_3 a0_4 a0_5 a0_6 a0_7 A0_8 c0_8 l0_8 w hr0_8 hc0_8 hb hx ho

end Go.Proofs.Ytdbiokmlgniobaa.PL22
