/- Printed for this claim by a program of this session over the kit's print program: the Go functions as Lean functions, and proofs that the calls come to these answers. No conditions. -/
import Derived.Test.YtejljcglbkjgkaaSH
import Derived.Test.YtejljcglbkjgkaaSV
import Derived.Test.YtejljcglbkjgkaaSV2
import Derived.Test.YtejljcglbkjgkaaSV3
import Derived.LoopTactic
import Derived.StillTailTactics
import Derived.Laws.Rows
import Derived.Laws.CopyOwn
import Derived.Test.YtejljcglbkjgkaaSPL12x3
import Derived.Test.YtejljcglbkjgkaaSPL12x17
import Derived.Test.YtejljcglbkjgkaaSPL12x21
import Derived.Test.YtejljcglbkjgkaaSPL12x26
import Derived.Test.YtejljcglbkjgkaaSPL12x43
namespace Go.Proofs.Ytejljcglbkjgkaa.PL12
open Go.RowKit Go.Proofs.YtejljcglbkjgkaaW.PrintWords Go.Proofs.YtejljcglbkjgkaaW.PrintLast Go.Proofs.YtejljcglbkjgkaaW.PrintMore
attribute [local go_sem] max2_int min2_int max_two min_two max_three min_three max_four min_four   -- for this text's walks alone
set_option linter.unusedVariables false
set_option linter.unusedSimpArgs false

open Go.Proofs.YtejljcglbkjgkaaV
attribute [local go_sem high] eqA23
theorem ps_int {t : Nat} (ht : 3 ≠ t) : ∀ q, q ∈ 3 :: (Kd.int .i64).E → q ≠ t := fun q hq => by
 rcases List.mem_cons.1 hq with rfl | h
 ·exact ht
 ·exact absurd h List.not_mem_nil
mutual
def vitrinelaw12_PixelSame.j0 : Nat → List Int → Bool → Int → Int → Int → Int → Int → ByteArray → ByteArray → Bool → Int → Int → Option (Bool)
 | 0, _, _, _, _, _, _, _, _, _, _, _, _ => none
 | k + 1, x1, x28, x379000, x379001, x379002, x379003, x379004, x379005, x379006, x379007, x380000, x380001 => if x28 = true then ((vitrinelaw12_awake.f k).bind fun t381 => (some t381)) else ((vitrineref08_Samples.f k x379003).bind fun t382 => (vitrinelaw12_PixelSame.l0 k x1 (wrap64 ((wrap64 (t382 * x379000)) * x379001)) ([] : List Int) 0 x379000 x379001 x379002 x379003 x379004 x379005 x379006 x379007 x380000 x380001))
def vitrinelaw12_PixelSame.l0 : Nat → List Int → Int → List Int → Int → Int → Int → Int → Int → Int → ByteArray → ByteArray → Bool → Int → Int → Option (Bool)
 | 0, _, _, _, _, _, _, _, _, _, _, _, _, _, _ => none
 | k + 1, x1, x7, x8, x9, x379000, x379001, x379002, x379003, x379004, x379005, x379006, x379007, x380000, x380001 => if x9 < x7 then (if (x1.length : Int) = 0 then (none) else (if 0 ≤ (Int.tmod x9 (x1.length : Int)) then (if (Int.tmod x9 (x1.length : Int)) < (x1.length : Int) then (if 0 ≤ x379002 then (if x8.length < 17592186044416 then (vitrinelaw12_PixelSame.l0 k x1 x7 (x8 ++ [Go.bits .and .i64 (rd x1 (Int.tmod x9 (x1.length : Int))) (wrap64 ((shl .i64 1 x379002) - 1))]) (wrap64 (x9 + 1)) x379000 x379001 x379002 x379003 x379004 x379005 x379006 x379007 x380000 x380001) else (none)) else (none)) else (none)) else (none))) else ((vitrineref12_Pack.f k x379000 x379001 x379002 x379003 x379004 x8 (([0] : List Int))).bind fun t390 => ((pixel_Image.f k x379000 x379001 x379002 x379003 x379004 x379005 x379006 x379007 t390).bind fun bt391 => ((vitrineref12_Pack.f k x379000 x379001 x379002 x379003 x379004 x8 (([Int.tmod (wrap64 ((Int.tmod x380000 5) + 5)) 5, Int.tmod (wrap64 ((Int.tmod x380001 5) + 5)) 5, (-1)] : List Int))).bind fun t399 => ((pixel_Image.f k x379000 x379001 x379002 x379003 x379004 x379005 x379006 x379007 t399).bind fun bt400 => ((vitrineref12_Pack.f k x379000 x379001 x379002 x379003 1 x8 (([Int.tmod (wrap64 ((Int.tmod x380001 5) + 5)) 5, Int.tmod (wrap64 ((Int.tmod x380000 5) + 5)) 5] : List Int))).bind fun t408 => ((pixel_Image.f k x379000 x379001 x379002 x379003 1 x379005 x379006 x379007 t408).bind fun bt409 => (if bt391.2.2.2 = 0 then (if bt400.2.2.2 = 0 then (if bt409.2.2.2 = 0 then (if (bt391.1 == bt400.1 && (bt391.2.1 == bt400.2.1 && (bt391.2.2.1.toList == bt400.2.2.1.toList))) = true then (if (bt391.1 == bt409.1 && (bt391.2.1 == bt409.2.1 && (bt391.2.2.1.toList == bt409.2.2.1.toList))) = true then ((vitrinelaw12_awake.f k).bind fun t414 => (some t414)) else (none)) else (none)) else (none)) else (none)) else (if bt391.2.2.2 = 29 then (if x379003 = 3 then (if bt400.2.2.2 = bt391.2.2.2 then (if bt409.2.2.2 = bt391.2.2.2 then ((vitrinelaw12_awake.f k).bind fun t415 => (some t415)) else (none)) else (none)) else (none)) else (none)))))))))
end
def vitrinelaw12_PixelSame.f (k : Nat) (a0_0 : Int) (a0_1 : Int) (a0_2 : Int) (a0_3 : Int) (a0_4 : Int) (a0_5 : ByteArray) (a0_6 : ByteArray) (a0_7 : Bool) (l1 : List Int) (a2_0 : Int) (a2_1 : Int) : Option (Bool) := (vitrineref08_Right.f k a0_0 a0_1 a0_2 a0_3 0).bind fun t380 => (if t380 = 0 then (vitrinelaw12_PixelSame.j0 k l1 ((l1.length : Int) == 0) a0_0 a0_1 a0_2 a0_3 0 a0_5 a0_6 a0_7 a2_0 a2_1) else (vitrinelaw12_PixelSame.j0 k l1 true a0_0 a0_1 a0_2 a0_3 0 a0_5 a0_6 a0_7 a2_0 a2_1))
def vitrinelaw12_PixelSame.T4 : Bool × List (List Nat × List Nat) := (true, [([], []), ([0], [0]), ([1], [1]), ([2], [2]), ([], []), ([4], [4]), ([5], [5]), ([3, 6], [3, 6]), ([], []), ([8], [8]), ([9], [9]), ([7, 10], [7, 10]), ([11, 3, 0, 1, 2, 3, 4, 5, 6, 7, 8, 9, 10, 11], [11])])
def vitrinelaw12_PixelSame.B4 : List Nat := [0, 1, 3, 7, 0, 16, 48, 127, 0, 256, 768, 2047, 4095]
theorem vitrinelaw12_PixelSame.tab4 : rtab .any (opsOf Try.f7 4) = vitrinelaw12_PixelSame.T4 := by kernel_rfl
theorem vitrinelaw12_PixelSame.bits4 : waitsOk vitrinelaw12_PixelSame.T4.2 vitrinelaw12_PixelSame.B4 = true := by kernel_rfl
def vitrinelaw12_PixelSame.T9 : Bool × List (List Nat × List Nat) := (true, [([], []), ([], []), ([], []), ([], []), ([3], [3]), ([2, 4], [2, 4]), ([1, 5], [1, 5]), ([6], [6]), ([], []), ([8], [8]), ([9], [9]), ([10], [10]), ([11], [11]), ([7, 12], [7, 12]), ([13], [13]), ([0, 14], [0, 14]), ([15, 15, 0, 1, 2, 3, 4, 5, 6, 7, 8, 9, 10, 11, 12, 13, 14, 15], [0, 15])])
def vitrinelaw12_PixelSame.B9 : List Nat := [0, 0, 0, 0, 8, 28, 62, 126, 0, 256, 768, 1792, 3840, 8190, 16382, 32767, 65535]
theorem vitrinelaw12_PixelSame.tab9 : rtab .any (opsOf Try.f7 9) = vitrinelaw12_PixelSame.T9 := by kernel_rfl
theorem vitrinelaw12_PixelSame.bits9 : waitsOk vitrinelaw12_PixelSame.T9.2 vitrinelaw12_PixelSame.B9 = true := by kernel_rfl
def vitrinelaw12_PixelSame.T12 : Bool × List (List Nat × List Nat) := (true, [([], []), ([], []), ([1], [1]), ([], []), ([], []), ([2, 3, 4], [2, 3, 4]), ([0, 5, 5], [0, 5]), ([6], [6]), ([7], [7]), ([7], [7]), ([], []), ([10, 8, 6, 0, 1, 2, 3, 4, 5, 6, 7, 8, 10], [8, 10]), ([9, 11, 0, 1, 2, 3, 4, 5, 6, 7, 8, 9, 10, 11], [9])])
def vitrinelaw12_PixelSame.B12 : List Nat := [0, 0, 2, 0, 0, 30, 63, 127, 255, 255, 0, 1535, 4095]
theorem vitrinelaw12_PixelSame.tab12 : rtab .any (opsOf Try.f7 12) = vitrinelaw12_PixelSame.T12 := by kernel_rfl
theorem vitrinelaw12_PixelSame.bits12 : waitsOk vitrinelaw12_PixelSame.T12.2 vitrinelaw12_PixelSame.B12 = true := by kernel_rfl
def vitrinelaw12_PixelSame.T13 : Bool × List (List Nat × List Nat) := (true, [([], []), ([], []), ([1], [1]), ([], []), ([], []), ([], []), ([4, 5], [4, 5]), ([2, 3, 6], [2, 3, 6]), ([0, 7, 7], [0, 7]), ([8], [8]), ([9], [9]), ([9], [9]), ([], []), ([12, 10, 8, 0, 1, 2, 3, 4, 5, 6, 7, 8, 9, 10, 12], [10, 12]), ([11, 13, 0, 1, 2, 3, 4, 5, 6, 7, 8, 9, 10, 11, 12, 13], [11])])
def vitrinelaw12_PixelSame.B13 : List Nat := [0, 0, 2, 0, 0, 0, 48, 126, 255, 511, 1023, 1023, 0, 6143, 16383]
theorem vitrinelaw12_PixelSame.tab13 : rtab .any (opsOf Try.f7 13) = vitrinelaw12_PixelSame.T13 := by kernel_rfl
theorem vitrinelaw12_PixelSame.bits13 : waitsOk vitrinelaw12_PixelSame.T13.2 vitrinelaw12_PixelSame.B13 = true := by kernel_rfl
def vitrinelaw12_PixelSame.T15 : Bool × List (List Nat × List Nat) := (true, [([], []), ([], []), ([1], [1]), ([], []), ([], []), ([], []), ([4, 5], [4, 5]), ([2, 3, 6], [2, 3, 6]), ([0, 7, 7], [0, 7]), ([8], [8]), ([9], [9]), ([9], [9]), ([], []), ([12, 10, 8, 0, 1, 2, 3, 4, 5, 6, 7, 8, 9, 10, 12], [10, 12]), ([11, 13, 0, 1, 2, 3, 4, 5, 6, 7, 8, 9, 10, 11, 12, 13], [11])])
def vitrinelaw12_PixelSame.B15 : List Nat := [0, 0, 2, 0, 0, 0, 48, 126, 255, 511, 1023, 1023, 0, 6143, 16383]
theorem vitrinelaw12_PixelSame.tab15 : rtab .any (opsOf Try.f7 15) = vitrinelaw12_PixelSame.T15 := by kernel_rfl
theorem vitrinelaw12_PixelSame.bits15 : waitsOk vitrinelaw12_PixelSame.T15.2 vitrinelaw12_PixelSame.B15 = true := by kernel_rfl
set_option maxHeartbeats 40000000 in
set_option maxRecDepth 100000 in
theorem vitrinelaw12_PixelSame.calls (k : Nat) (a0_0 : Int) (a0_1 : Int) (a0_2 : Int) (a0_3 : Int) (a0_4 : Int) (a0_5 : ByteArray) (a0_6 : ByteArray) (a0_7 : Bool) (A1 : Option Addr) (c1 : Nat) (l1 : List Int) (a2_0 : Int) (a2_1 : Int) (r : Bool) (w : World) (hr1 : Kd.C (Kd.int .i64) w A1 l1.length l1) (hc1 : l1.length ≤ c1) (h : vitrinelaw12_PixelSame.f k a0_0 a0_1 a0_2 a0_3 a0_4 a0_5 a0_6 a0_7 l1 a2_0 a2_1 = some r) :
  Calls Try.prog 7 #[.agg #[.int .i64 a0_0, .int .i64 a0_1, .int .i64 a0_2, .int .i64 a0_3, .int .i64 a0_4, .string a0_5, .string a0_6, .bool a0_7], .slice A1 l1.length c1, .agg #[.int .i64 a2_0, .int .i64 a2_1]] w fun e w' => e = .returned (.bool r) ∧ Below w.heap.size w w' := by
 unfold vitrinelaw12_PixelSame.f at h
 obtain ⟨e0, h0, h1⟩ := Option.bind_eq_some_iff.1 h
 clear h
 have H0 := Aside0.mk h0
 have H1 := Aside0.mk h1
 have HR1 := Aside0.mk hr1
 have HC1 := Aside0.mk hc1
 have HS := Aside0.mk (Sv.new w)
 clear h0 h1 hr1 hc1
 go_enter Try.func7, Try.ntmps7
 go_upto_region 1 with (first | ((with_reducible refine gate_dst (N := 3) rfl ?_); refine box_event ?hg (N := 3) ?hd (cs := #[.int .i64 a0_0, .int .i64 a0_1, .int .i64 a0_2, .int .i64 a0_3, .int .i64 a0_4, .string a0_5, .string a0_6, .bool a0_7]) (t := 31) ?hr ?_; (case hd => rfl); (case hg => rfl); (case hr => first | (go_simp; done) | (go_simp; rfl)); intro gs hg w1 hbox hb; have n0_ := Aside0.mk (HS.out.box hb hg hbox); clear HS hb hg hbox; have HS := n0_; clear n0_) | ((with_reducible refine gate_dst (N := 5) rfl ?_); refine box_event ?hg (N := 5) ?hd (cs := #[.int .i64 a2_0, .int .i64 a2_1]) (t := 38) ?hr ?_; (case hd => rfl); (case hg => rfl); (case hr => first | (go_simp; done) | (go_simp; rfl)); intro gk hg w2 hbox hb; have n0_ := Aside0.mk (HS.out.box hb hg hbox); clear HS hb hg hbox; have HS := n0_; clear n0_))
 have c4 := (HS.out.cell 1 rfl 4).trans (show (#[.int .i64 a0_0, .int .i64 a0_1, .int .i64 a0_2, .int .i64 a0_3, .int .i64 a0_4, .string a0_5, .string a0_6, .bool a0_7] : Array Value)[4]? = some (.int .i64 a0_4) from rfl)
 have f4 := HS.out.fz 1 rfl 4
 go_upto_region 2 with (fail)
 have n0_ : Aside0 (Sv w [(gk, (#[.int .i64 a2_0, .int .i64 a2_1] : Array Value), 38), (gs, SHC (⟨a0_0, a0_1, a0_2, a0_3, 0, a0_5, a0_6, a0_7⟩ : PSh), 31)] (w2.setCell ⟨gs, 4, none⟩ (.int .i64 0))) := ⟨HS.out.set 1 rfl 4 (.int .i64 0)⟩
 clear HS c4 f4
 have HS := n0_
 clear n0_
 generalize w2.setCell ⟨gs, 4, none⟩ (.int .i64 0) = w3 at HS ⊢
 have y0 := (HS.out.cell 1 rfl 0).trans (show (SHC (⟨a0_0, a0_1, a0_2, a0_3, 0, a0_5, a0_6, a0_7⟩ : PSh) : Array Value)[0]? = some (.int .i64 a0_0) from rfl)
 have y1 := (HS.out.cell 1 rfl 1).trans (show (SHC (⟨a0_0, a0_1, a0_2, a0_3, 0, a0_5, a0_6, a0_7⟩ : PSh) : Array Value)[1]? = some (.int .i64 a0_1) from rfl)
 have y2 := (HS.out.cell 1 rfl 2).trans (show (SHC (⟨a0_0, a0_1, a0_2, a0_3, 0, a0_5, a0_6, a0_7⟩ : PSh) : Array Value)[2]? = some (.int .i64 a0_2) from rfl)
 have y3 := (HS.out.cell 1 rfl 3).trans (show (SHC (⟨a0_0, a0_1, a0_2, a0_3, 0, a0_5, a0_6, a0_7⟩ : PSh) : Array Value)[3]? = some (.int .i64 a0_3) from rfl)
 have y4 := (HS.out.cell 1 rfl 4).trans (show (SHC (⟨a0_0, a0_1, a0_2, a0_3, 0, a0_5, a0_6, a0_7⟩ : PSh) : Array Value)[4]? = some (.int .i64 0) from rfl)
 by_cases he : e0 = 0
 rotate_left
 ·have h3 := (if_neg he).symm.trans H1.out
  clear H1
  obtain ⟨kq, rfl⟩ : ∃ kq, k = kq + 1 := by cases k with | zero => exact absurd h3 (by simp [vitrinelaw12_PixelSame.j0]) | succ kq => exact ⟨kq, rfl⟩
  simp only [vitrinelaw12_PixelSame.j0, if_true] at h3
  obtain ⟨b_, hb_, hb2_⟩ := Option.bind_eq_some_iff.1 h3
  rw [Option.some.inj hb2_] at hb_
  have HAW := Aside0.mk hb_
  clear hb_ hb2_ h3
  have q1 : (e0 != 0) = true := bne_iff_ne.mpr he
  go_wp2_with (first | (go_at_call 15; (with_reducible refine (vitrineref08_Right.calls _ a0_0 a0_1 a0_2 a0_3 0 e0 _ H0.out).mono ?_); rintro e w_ ⟨rfl, hb⟩; have n0_ := Aside0.mk (HS.out.step hb); clear HS hb; have HS := n0_; clear n0_; clear y0 y1 y2 y3 y4) | (go_at_call 10; (with_reducible refine (vitrinelaw12_awake.calls _ r _ HAW.out).mono ?_); rintro e w_ ⟨rfl, hb⟩; have n0_ := Aside0.mk (HS.out.step hb); clear HS hb; have HS := n0_; clear n0_))
  go_ret
  exact ⟨by first | rfl | (simp; done), HS.out.below⟩
 have q1 : (e0 != 0) = false := bne_eq_false_iff_eq.mpr he
 have h3 := (if_pos he).symm.trans H1.out
 clear H1 he
 by_cases hl : l1.length = 0
 ·have q2 : ((l1.length : Int) == 0) = true := by rw [hl]; rfl
  rw [q2] at h3
  obtain ⟨kq, rfl⟩ : ∃ kq, k = kq + 1 := by cases k with | zero => exact absurd h3 (by simp [vitrinelaw12_PixelSame.j0]) | succ kq => exact ⟨kq, rfl⟩
  simp only [vitrinelaw12_PixelSame.j0, if_true] at h3
  obtain ⟨b_, hb_, hb2_⟩ := Option.bind_eq_some_iff.1 h3
  rw [Option.some.inj hb2_] at hb_
  have HAW := Aside0.mk hb_
  clear hb_ hb2_ h3
  go_wp2_with (first | (go_at_call 15; (with_reducible refine (vitrineref08_Right.calls _ a0_0 a0_1 a0_2 a0_3 0 e0 _ H0.out).mono ?_); rintro e w_ ⟨rfl, hb⟩; have n0_ := Aside0.mk (HS.out.step hb); clear HS hb; have HS := n0_; clear n0_; clear y0 y1 y2 y3 y4) | (go_at_call 10; (with_reducible refine (vitrinelaw12_awake.calls _ r _ HAW.out).mono ?_); rintro e w_ ⟨rfl, hb⟩; have n0_ := Aside0.mk (HS.out.step hb); clear HS hb; have HS := n0_; clear n0_))
  go_ret
  exact ⟨by first | rfl | (simp; done), HS.out.below⟩
 have q2 : ((l1.length : Int) == 0) = false := beq_eq_false_iff_ne.mpr (by omega)
 rw [q2] at h3
 go_wp2_with (go_at_call 15; (with_reducible refine (vitrineref08_Right.calls _ a0_0 a0_1 a0_2 a0_3 0 e0 _ H0.out).mono ?_); rintro e w_ ⟨rfl, hb⟩; have n0_ := Aside0.mk (HS.out.step hb); clear HS hb; have HS := n0_; clear n0_; clear y0 y1 y2 y3 y4)
 obtain ⟨kq, rfl⟩ : ∃ kq, k = kq + 1 := by cases k with | zero => exact absurd h3 (by simp [vitrinelaw12_PixelSame.j0]) | succ kq => exact ⟨kq, rfl⟩
 simp only [vitrinelaw12_PixelSame.j0] at h3
 rw [if_neg (by decide)] at h3
 obtain ⟨many, hm_, h4⟩ := Option.bind_eq_some_iff.1 h3
 have HM := Aside0.mk hm_
 clear h3 hm_ q1 q2
 have n0_ := Aside0.mk HS.out.drew
 clear HS
 have HS := n0_
 clear n0_
 refine start_ (n := 13) (S := fun w' => w'.cell? ⟨gs, 0, none⟩ = some (.int .i64 a0_0) ∧ w'.cell? ⟨gs, 1, none⟩ = some (.int .i64 a0_1) ∧ w'.cell? ⟨gs, 3, none⟩ = some (.int .i64 a0_3)) (ds := []) (bm 13 0) (by kernel_rfl) rfl rfl ⟨(HS.out.cell 1 rfl 0).trans rfl, (HS.out.cell 1 rfl 1).trans rfl, (HS.out.cell 1 rfl 3).trans rfl⟩ (fun hHeld => ?_)
 refine with_tabW vitrinelaw12_PixelSame.tab4 vitrinelaw12_PixelSame.bits4 (fun HT_ HW_ => ?_)
 generalize World.drew _ = w4 at HS  hHeld ⊢
 refine zp 0 30 (bm 13 1) ?_
 refine zp 1 31 (bm 13 3) ?_
 refine zt 2 32 (bm 13 7) rfl (by rintro w' ⟨s0_, s1_, s2_⟩; go_simp; with_reducible rfl) ?_
 refine zp 4 34 (bm 13 23) ?_
 refine zp 5 35 (bm 13 55) ?_
 refine zt 6 36 (bm 13 119) rfl (by rintro w' ⟨s0_, s1_, s2_⟩; go_simp; with_reducible rfl) ?_
 refine zp 8 38 (bm 13 375) ?_
 refine zp 9 39 (bm 13 887) ?_
 refine zt 10 40 (bm 13 1911) rfl (by rintro w' ⟨s0_, s1_, s2_⟩; go_simp; with_reducible rfl) ?_
 refine one_ (i := 3) (N := some 33) (bm 13 1919) rfl rfl (one_of HT_.out (by kernel_rfl)) (by decide) (fun K hK => ?_)
 refine goes_ Try.func16 (by kernel_rfl) rfl #[.int .i64 a0_3] (by rfl) rfl rfl (by (try simp only [List.map_toArray, List.map_cons, List.map_nil]); first | done | rfl) ?_
 with_reducible refine (vitrineref08_Samples.calls _ a0_3 many _ HM.out).mono ?_
 rintro e w_ ⟨rfl, hdr⟩
 have hb := hdr.below; clear hdr
 refine ⟨_, rfl, ?_⟩
 have n0_ := Aside0.mk (HS.out.step hb)
 clear HS hb
 have HS := n0_
 clear n0_
 refine hK.out _ _ ⟨(HS.out.cell 1 rfl 0).trans rfl, (HS.out.cell 1 rfl 1).trans rfl, (HS.out.cell 1 rfl 3).trans rfl⟩ (fun hHeld => ?_)
 clear hK K
 refine norm_ (a' := ?_) ?_ ?_
 rotate_left
 ·show Act.put _ (some 33) _ = _
  simp only [Act.put, zq1, zq2, zq3, i64_w, i32_w]
  rfl
 refine zp 7 37 (bm 13 2047) ?_
 refine zp 11 41 (bm 13 4095) ?_
 refine zp 12 7 (bm 13 8191) ?_
 refine done_ (done_of HT_.out (by kernel_rfl)) ?_
 clear HT_ HW_ hHeld
 obtain ⟨n, hn⟩ : ∃ z, wrap64 (wrap64 (many * a0_0) * a0_1) = z := ⟨_, rfl⟩
 rw [hn] at h4 ⊢
 have H4 := Aside0.mk h4
 clear h4 hn
 go_wp2
 go_loopg [8, 9] kq (fun kx v8 v9 w' => ∃ (acc : List Int) (i : Int), v9 = .int .i64 i ∧ Aside0 (vitrinelaw12_PixelSame.l0 kx l1 n acc i a0_0 a0_1 a0_2 a0_3 0 a0_5 a0_6 a0_7 a2_0 a2_1 = some r) ∧ Aside0 (kx ≤ kq) ∧ Aside0 (Sv w [(gk, (#[.int .i64 a2_0, .int .i64 a2_1] : Array Value), 38), (gs, SHC (⟨a0_0, a0_1, a0_2, a0_3, 0, a0_5, a0_6, a0_7⟩ : PSh), 31)] w') ∧ Aside0 (Kd.R (Kd.int .i64) 3 w' w.heap.size (fun _ => True) v8 acc))
 case atStart => exact ⟨[], 0, rfl, H4, ⟨Nat.le_refl _⟩, HS, ⟨Kd.R_nil _ _ _ _ _⟩⟩
 case round =>
  clear HS H4
  obtain ⟨acc, i, rfl, HA, HK, HS, HO⟩ := hrel
  cases gk with
  | zero => exact absurd HA.out (by simp [vitrinelaw12_PixelSame.l0])
  | succ k2 =>
   have H := HA.out
   clear HA
   simp only [vitrinelaw12_PixelSame.l0] at H
   by_cases hlt : i < n
   ·rw [if_pos hlt] at H
    have q0 : decide (i < n) = true := decide_eq_true hlt
    clear hlt
    by_cases cz : (l1.length : Int) = 0
    ·rw [if_pos cz] at H; cases H
    rw [if_neg cz] at H
    have z0 : ((l1.length : Int) == 0) = false := beq_eq_false_iff_ne.mpr cz
    have z1 : ((l1.length : Int) != 0) = true := bne_iff_ne.mpr cz
    have z2 : ¬ (l1 = []) := fun h_ => cz (by rw [h_]; rfl)
    obtain ⟨ji, hji⟩ : ∃ z, Int.tmod i (l1.length : Int) = z := ⟨_, rfl⟩
    rw [hji] at H
    by_cases a0 : 0 ≤ ji
    rotate_left
    ·rw [if_neg a0] at H; cases H
    rw [if_pos a0] at H
    by_cases a1 : ji < (l1.length : Int)
    rotate_left
    ·rw [if_neg a1] at H; cases H
    rw [if_pos a1] at H
    by_cases a2 : 0 ≤ a0_2
    rotate_left
    ·rw [if_neg a2] at H; cases H
    rw [if_pos a2] at H
    by_cases a3 : acc.length < 17592186044416
    rotate_left
    ·rw [if_neg a3] at H; cases H
    rw [if_pos a3] at H
    have g0 := eq_true a0
    have g1 := eq_true a1
    have g2 := eq_true a2
    have b0 : decide (0 ≤ ji) = true := decide_eq_true a0
    have b1 : decide (ji < (l1.length : Int)) = true := decide_eq_true a1
    have b2 : decide (0 ≤ a0_2) = true := decide_eq_true a2
    have HL3 := Aside0.mk a3
    obtain ⟨jj, hjj⟩ : ∃ z, shl .i64 1 a0_2 = z := ⟨_, rfl⟩
    rw [hjj] at H
    have HH := Aside0.mk H
    have u0 : (IntKind.i64.wrap (1 * 2 ^ min a0_2.toNat 64)) = jj := hjj
    have u1 : (IntKind.i64.wrap (2 ^ min a0_2.toNat 64)) = jj := by have h_ := u0; rw [Int.one_mul] at h_; exact h_
    have u2 : (wrap64 (1 * 2 ^ min a0_2.toNat 64)) = jj := (i64_w _).symm.trans u0
    have u3 : (wrap64 (2 ^ min a0_2.toNat 64)) = jj := (i64_w _).symm.trans u1
    obtain ⟨ad_, e_, hx0⟩ := Kd.at_int HR1.out ji a0 a1
    subst e_
    have HX := Aside0.mk hx0
    clear H a3 hx0
    go_wp2
    have n1_ := Aside0.mk (Kd.R_drew HO.out)
    clear HO
    have HO := n1_
    clear n1_
    have n0_ := Aside0.mk HS.out.drew
    clear HS
    have HS := n0_
    clear n0_
    refine start_ (n := 17) (S := fun w' => w'.cell? ⟨gs, 2, none⟩ = some (.int .i64 a0_2) ∧ w'.cell? (ad_.add ji.toNat) = some (.int .i64 (rd l1 ji))) (ds := []) (bm 17 0) (by kernel_rfl) rfl rfl ⟨((HS.out.cell 1 rfl 2).trans rfl), pw_cell_below HS.out.below HX.out⟩ (fun hHeld => ?_)
    refine with_tabW vitrinelaw12_PixelSame.tab9 vitrinelaw12_PixelSame.bits9 (fun HT_ HW_ => ?_)
    generalize World.drew _ = w9 at HS HO hHeld ⊢
    refine zp 0 47 (bm 17 1) ?_
    refine zp 1 48 (bm 17 3) ?_
    refine zp 2 49 (bm 17 7) ?_
    refine zp 3 50 (bm 17 15) ?_
    refine zp 4 51 (bm 17 31) ?_
    refine zp 5 52 (bm 17 63) ?_
    refine zp 6 53 (bm 17 127) ?_
    refine zt 7 54 (bm 17 255) rfl (by rintro w' ⟨s0_, s1_⟩; go_simp; with_reducible rfl) ?_
    refine zp 8 55 (bm 17 511) ?_
    refine zp 9 56 (bm 17 1023) ?_
    refine zt 10 57 (bm 17 2047) rfl (by rintro w' ⟨s0_, s1_⟩; go_simp; with_reducible rfl) ?_
    refine zp 11 58 (bm 17 4095) ?_
    refine zp 12 59 (bm 17 8191) ?_
    refine zp 13 60 (bm 17 16383) ?_
    refine one_ (i := 14) (N := some 61) (bm 17 32767) rfl rfl (one_of HT_.out (by kernel_rfl)) (by decide) (fun K hK => ?_)
    refine value_ (w1 := ?_) (v := ?_) (by rfl) rfl ?_ ?_
    rotate_left 2
    ·go_simp
     constructor
     ·rfl
     ·rfl
    have HSa := Aside0.mk (HS.out.alloc (.cells #[.int .i64 (Go.bits .and .i64 (rd l1 ji) (wrap64 (jj - 1)))] 3))
    refine hK.out _ _ ⟨((HSa.out.cell 1 rfl 2).trans rfl), pw_cell_below HSa.out.below HX.out⟩ (fun hHeld => ?_)
    clear hK K
    refine norm_ (a' := ?_) ?_ ?_
    rotate_left
    ·show Act.put _ (some 61) _ = _
     simp only [Act.put, zq1, zq2, zq3, i64_w, i32_w]
     rfl
    refine one_ (i := 15) (N := some 62) (bm 17 65535) rfl rfl (one_of HT_.out (by kernel_rfl)) (by decide) (fun K hK => ?_)
    refine Kd.R_append_step (Kd.int .i64) (w0 := w) w.heap.size (by rfl) (.tmp 47) (.tmp 61) 37 3 (.int .i64 0) 8 rfl Try.underlying37 info3 rfl (by decide) (by omega) u8 acc (Go.bits .and .i64 (rd l1 ji) (wrap64 (jj - 1))) [.int .i64 (Go.bits .and .i64 (rd l1 ji) (wrap64 (jj - 1)))] (fun _ => True) (fun _ => False) rfl rfl rfl (fun _ hk => hk.elim) (fun _ _ => trivial) HO.out HS.out.below HS.out.below.size (by have := HL3.out; omega) ?_
    intro v62 w10 ho hb hg hat
    have n0_ := Aside0.mk (Sv.row HS.out (Kd.own_of_R HO.out) hg (fun p hp => by simp only [List.mem_cons, List.not_mem_nil, or_false] at hp; rcases hp with rfl | rfl <;> simp))
    have n1_ := Aside0.mk ho
    clear HS HSa HO ho hb hg hat
    have HS := n0_
    have HO := n1_
    clear n0_ n1_
    refine hK.out _ _ ⟨((HS.out.cell 1 rfl 2).trans rfl), pw_cell_below HS.out.below HX.out⟩ (fun hHeld => ?_)
    clear hK K
    refine norm_ (a' := ?_) ?_ ?_
    rotate_left
    ·show Act.put _ (some 62) _ = _
     simp only [Act.put, zq1, zq2, zq3, i64_w, i32_w]
     rfl
    refine zp 16 8 (bm 17 131071) ?_
    refine done_ (done_of HT_.out (by kernel_rfl)) ?_
    clear HT_ HW_ hHeld
    go_wp2
    go_roundg k2
    case measure => have := HK.out; omega
    case rel => exact ⟨acc ++ [(Go.bits .and .i64 (rd l1 ji) (wrap64 (jj - 1)))], wrap64 (i + 1), rfl, HH, ⟨by have := HK.out; omega⟩, HS, HO⟩
   ·rw [if_neg hlt] at H
    have q0 : decide (i < n) = false := decide_eq_false hlt
    obtain ⟨p1_, hp1_, H1_⟩ := Option.bind_eq_some_iff.1 H
    obtain ⟨⟨W1_, h1_, s1_, e1_⟩, hi1_, G1_⟩ := Option.bind_eq_some_iff.1 H1_
    have HP1 := Aside0.mk hp1_
    have HI1 := Aside0.mk hi1_
    clear hp1_ hi1_ H1_
    obtain ⟨p2_, hp2_, H2_⟩ := Option.bind_eq_some_iff.1 G1_
    obtain ⟨⟨W2_, h2_, s2_, e2_⟩, hi2_, G2_⟩ := Option.bind_eq_some_iff.1 H2_
    have HP2 := Aside0.mk hp2_
    have HI2 := Aside0.mk hi2_
    clear hp2_ hi2_ H2_
    obtain ⟨p3_, hp3_, H3_⟩ := Option.bind_eq_some_iff.1 G2_
    obtain ⟨⟨W3_, h3_, s3_, e3_⟩, hi3_, G3_⟩ := Option.bind_eq_some_iff.1 H3_
    have HP3 := Aside0.mk hp3_
    have HI3 := Aside0.mk hi3_
    clear hp3_ hi3_ H3_
    have HG := Aside0.mk G3_
    clear G3_
    clear H G1_ G2_ hlt
    have k0_ := (HS.out.cell 0 rfl 0).trans (show (#[.int .i64 a2_0, .int .i64 a2_1] : Array Value)[0]? = some (.int .i64 a2_0) from rfl)
    have k1_ := (HS.out.cell 0 rfl 1).trans (show (#[.int .i64 a2_0, .int .i64 a2_1] : Array Value)[1]? = some (.int .i64 a2_1) from rfl)
    obtain ⟨ka, hka⟩ : ∃ z, (wrap64 (a2_0.tmod 5 + 5)).tmod 5 = z := ⟨_, rfl⟩
    obtain ⟨kb, hkb⟩ : ∃ z, (wrap64 (a2_1.tmod 5 + 5)).tmod 5 = z := ⟨_, rfl⟩
    rw [hka, hkb] at HP2 HP3
    go_upto_region 12 with (fail)
    try rw [hka]
    try rw [hkb]
    clear hka hkb k0_ k1_ q0
    obtain ⟨Aa, ca, rfl⟩ := Kd.R_slice HO.out
    have n1_ := Aside0.mk (Kd.R_drew HO.out)
    clear HO
    have HO := n1_
    clear n1_
    have n0_ := Aside0.mk HS.out.drew
    clear HS
    have HS := n0_
    clear n0_
    refine start_ (n := 13) (S := fun w' => w'.cell? ⟨gs, 0, none⟩ = some (.int .i64 a0_0) ∧ w'.cell? ⟨gs, 1, none⟩ = some (.int .i64 a0_1) ∧ w'.cell? ⟨gs, 2, none⟩ = some (.int .i64 a0_2) ∧ w'.cell? ⟨gs, 3, none⟩ = some (.int .i64 a0_3) ∧ w'.cell? ⟨gs, 4, none⟩ = some (.int .i64 0) ∧ w'.cell? ⟨gs, 5, none⟩ = some (.string a0_5) ∧ w'.cell? ⟨gs, 6, none⟩ = some (.string a0_6) ∧ w'.cell? ⟨gs, 7, none⟩ = some (.bool a0_7)) (ds := []) (bm 13 0) (by kernel_rfl) rfl rfl ⟨(HS.out.cell 1 rfl 0).trans rfl, (HS.out.cell 1 rfl 1).trans rfl, (HS.out.cell 1 rfl 2).trans rfl, (HS.out.cell 1 rfl 3).trans rfl, (HS.out.cell 1 rfl 4).trans rfl, (HS.out.cell 1 rfl 5).trans rfl, (HS.out.cell 1 rfl 6).trans rfl, (HS.out.cell 1 rfl 7).trans rfl⟩ (fun hHeld => ?_)
    refine with_tabW vitrinelaw12_PixelSame.tab12 vitrinelaw12_PixelSame.bits12 (fun HT_ HW_ => ?_)
    generalize World.drew _ = w12a at HS HO hHeld ⊢
    refine zt 0 74 (bm 13 1) rfl (by rintro w' ⟨s0_, s1_, s2_, s3_, s4_, s5_, s6_, s7_⟩; go_simp; with_reducible rfl) ?_
    refine zp 1 75 (bm 13 3) ?_
    refine zt 2 76 (bm 13 7) rfl (by rintro w' ⟨s0_, s1_, s2_, s3_, s4_, s5_, s6_, s7_⟩; go_simp; with_reducible rfl) ?_
    refine zp 3 77 (bm 13 15) ?_
    refine join_ (σ := Value × Nat) 2 (bm 13 2047) (fun s_ => [(78, s_.1), (79, .string p1_), (80, .tuple #[.agg #[.int .i64 W1_, .int .i64 h1_, .string s1_], .int .i64 e1_]), (12, .pointer (some ⟨s_.2, 0, none⟩)), (73, .tuple #[.agg #[.int .i64 W1_, .int .i64 h1_, .string s1_], .int .i64 e1_]), (81, .agg #[.int .i64 W1_, .int .i64 h1_, .string s1_]), (82, .int .i64 e1_)]) (fun s_ w' => (w'.cell? ⟨gs, 0, none⟩ = some (.int .i64 a0_0) ∧ w'.cell? ⟨gs, 1, none⟩ = some (.int .i64 a0_1) ∧ w'.cell? ⟨gs, 2, none⟩ = some (.int .i64 a0_2) ∧ w'.cell? ⟨gs, 3, none⟩ = some (.int .i64 a0_3) ∧ w'.cell? ⟨gs, 4, none⟩ = some (.int .i64 0) ∧ w'.cell? ⟨gs, 5, none⟩ = some (.string a0_5) ∧ w'.cell? ⟨gs, 6, none⟩ = some (.string a0_6) ∧ w'.cell? ⟨gs, 7, none⟩ = some (.bool a0_7)) ∧ Sv w [(s_.2, #[.int .i64 0, .int .i64 0, .string (⟨#[]⟩ : ByteArray)], 23), (gk, (#[.int .i64 a2_0, .int .i64 a2_1] : Array Value), 38), (gs, SHC (⟨a0_0, a0_1, a0_2, a0_3, 0, a0_5, a0_6, a0_7⟩ : PSh), 31)] w' ∧ Kd.R (Kd.int .i64) 3 w' w.heap.size (fun _ => True) (.slice Aa acc.length ca) acc) ?_ ?_
    rotate_left
    ·intro hJ
     refine two_ (i := 4) (j := 10) (Ni := some 78) (Nj := some 12) (bm 13 31) (bm 13 1039) rfl rfl rfl rfl (two_of HT_.out (by kernel_rfl)) (by decide) (by decide) (fun K hK => ?_) (fun K hK => ?_)
     ·skip
      refine Kd.R_lit_step (Kd.int .i64) _ 3 ?hg (N := 78) ?hd (xs := ([0] : List Int)) (inner := [.int .i64 0]) (ok := fun _ => True) (okp := fun _ => True) ?hr ?hp (fun _ hk => hk) trivial (Below.refl _ _) (Nat.le_refl _) (by simp) ?_; (case hd => rfl); (case hg => rfl); (case hr => first | (go_simp; done) | (go_simp; rfl)); (case hp => exact Reps.one (show Kd.M (Kd.int .i64) _ _ _ 0 [.int .i64 0] from rfl) (Reps.none _ _))
      intro vL_ wL_ ho_ hb hg_ hnew_
      have n0_ := Aside0.mk (HS.out.step hb)
      have n1_ := Aside0.mk (Kd.R_below HO.out hb)
      clear HS HO hb
      have HS := n0_; have HO := n1_
      clear n0_ n1_
      have HL := Aside0.mk ho_
      clear hg_ hnew_ ho_
      refine hK.out _ _ ⟨(HS.out.cell 1 rfl 0).trans rfl, (HS.out.cell 1 rfl 1).trans rfl, (HS.out.cell 1 rfl 2).trans rfl, (HS.out.cell 1 rfl 3).trans rfl, (HS.out.cell 1 rfl 4).trans rfl, (HS.out.cell 1 rfl 5).trans rfl, (HS.out.cell 1 rfl 6).trans rfl, (HS.out.cell 1 rfl 7).trans rfl⟩ (fun hHeld => ?_)
      clear hK K
      refine norm_ (a' := ?_) ?_ ?_
      rotate_left
      ·show Act.put _ (some 78) _ = _
       simp only [Act.put, zq1, zq2, zq3, i64_w, i32_w]
       rfl
      obtain ⟨Al, cl, rfl⟩ := Kd.R_slice HL.out
      refine two_ (i := 5) (j := 10) (Ni := some 79) (Nj := some 12) (bm 13 63) (bm 13 1055) rfl rfl rfl rfl (two_of HT_.out (by kernel_rfl)) (by decide) (by decide) (fun K hK => ?_) (fun K hK => ?_)
      ·skip
       refine goes_ Try.func17 (by kernel_rfl) rfl #[.agg #[.int .i64 a0_0, .int .i64 a0_1, .int .i64 a0_2, .int .i64 a0_3, .int .i64 0], .slice Aa acc.length ca, .slice Al ([0] : List Int).length cl] (by rfl) rfl rfl (by (try simp only [List.map_toArray, List.map_cons, List.map_nil]); first | done | rfl) ?_
       with_reducible refine (vitrineref12_Pack.calls k2 a0_0 a0_1 a0_2 a0_3 0 Aa ca acc Al cl ([0] : List Int) p1_ _ (Kd.R_reads' HO.out).2.2 (Kd.R_reads' HO.out).2.1 (Kd.R_reads' HL.out).2.2 (Kd.R_reads' HL.out).2.1 HP1.out).mono ?_
       rintro e w_ ⟨rfl, hb⟩
       refine ⟨_, rfl, ?_⟩
       clear HL
       have n0_ := Aside0.mk (HS.out.step hb)
       have n1_ := Aside0.mk (Kd.R_below HO.out hb)
       clear HS HO hb
       have HS := n0_; have HO := n1_
       clear n0_ n1_
       refine hK.out _ _ ⟨(HS.out.cell 1 rfl 0).trans rfl, (HS.out.cell 1 rfl 1).trans rfl, (HS.out.cell 1 rfl 2).trans rfl, (HS.out.cell 1 rfl 3).trans rfl, (HS.out.cell 1 rfl 4).trans rfl, (HS.out.cell 1 rfl 5).trans rfl, (HS.out.cell 1 rfl 6).trans rfl, (HS.out.cell 1 rfl 7).trans rfl⟩ (fun hHeld => ?_)
       clear hK K
       refine norm_ (a' := ?_) ?_ ?_
       rotate_left
       ·show Act.put _ (some 79) _ = _
        simp only [Act.put, zq1, zq2, zq3, i64_w, i32_w]
        rfl
       refine two_ (i := 6) (j := 10) (Ni := some 80) (Nj := some 12) (bm 13 127) (bm 13 1087) rfl rfl rfl rfl (two_of HT_.out (by kernel_rfl)) (by decide) (by decide) (fun K hK => ?_) (fun K hK => ?_)
       ·skip
        refine goes_ Try.func11 (by kernel_rfl) rfl #[.agg #[.int .i64 a0_0, .int .i64 a0_1, .int .i64 a0_2, .int .i64 a0_3, .int .i64 0, .string a0_5, .string a0_6, .bool a0_7], .string p1_] (by rfl) rfl rfl (by (try simp only [List.map_toArray, List.map_cons, List.map_nil]); first | done | rfl) ?_
        with_reducible refine (pixel_Image.calls k2 a0_0 a0_1 a0_2 a0_3 0 a0_5 a0_6 a0_7 p1_ W1_ h1_ s1_ e1_ _ HI1.out).mono ?_
        rintro e w_ ⟨rfl, hb⟩
        refine ⟨_, rfl, ?_⟩
        have n0_ := Aside0.mk (HS.out.step hb)
        have n1_ := Aside0.mk (Kd.R_below HO.out hb)
        clear HS HO hb
        have HS := n0_; have HO := n1_
        clear n0_ n1_
        refine hK.out _ _ ⟨(HS.out.cell 1 rfl 0).trans rfl, (HS.out.cell 1 rfl 1).trans rfl, (HS.out.cell 1 rfl 2).trans rfl, (HS.out.cell 1 rfl 3).trans rfl, (HS.out.cell 1 rfl 4).trans rfl, (HS.out.cell 1 rfl 5).trans rfl, (HS.out.cell 1 rfl 6).trans rfl, (HS.out.cell 1 rfl 7).trans rfl⟩ (fun hHeld => ?_)
        clear hK K
        refine norm_ (a' := ?_) ?_ ?_
        rotate_left
        ·show Act.put _ (some 80) _ = _
         simp only [Act.put, zq1, zq2, zq3, i64_w, i32_w]
         rfl
        refine zp 7 73 (bm 13 255) ?_
        refine zp 8 81 (bm 13 511) ?_
        refine zp 9 82 (bm 13 1023) ?_
        refine one_ (i := 10) (N := some 12) (bm 13 2047) rfl rfl (one_of HT_.out (by kernel_rfl)) (by decide) (fun K hK => ?_)
        refine box_step (by rfl) (N := 12) rfl (cs := #[.int .i64 0, .int .i64 0, .string (⟨#[]⟩ : ByteArray)]) (t := 23) (by first | (go_simp; done) | (go_simp; rfl)) ?_
        intro g12 hg wa_ hbox hb
        have n0_ := Aside0.mk (HS.out.box hb hg hbox)
        have n1_ := Aside0.mk (Kd.R_below HO.out hb)
        clear HS HO hb hg hbox
        have HS := n0_; have HO := n1_
        clear n0_ n1_
        refine hK.out _ _ ⟨(HS.out.cell 2 rfl 0).trans rfl, (HS.out.cell 2 rfl 1).trans rfl, (HS.out.cell 2 rfl 2).trans rfl, (HS.out.cell 2 rfl 3).trans rfl, (HS.out.cell 2 rfl 4).trans rfl, (HS.out.cell 2 rfl 5).trans rfl, (HS.out.cell 2 rfl 6).trans rfl, (HS.out.cell 2 rfl 7).trans rfl⟩ (fun hHeld => ?_)
        clear hK K
        refine norm_ (a' := ?_) ?_ ?_
        rotate_left
        ·show Act.put _ (some 12) _ = _
         simp only [Act.put, zq1, zq2, zq3, i64_w, i32_w]
         rfl
        exact norm_ (by first | (simp only [putAll, Act.put, List.setIfInBounds_toArray, List.set_cons_zero, List.set_cons_succ]; done) | (simp only [putAll, Act.put, List.setIfInBounds_toArray, List.set_cons_zero, List.set_cons_succ]; rfl)) (hJ (_, g12) _ ⟨hHeld, HS.out, HO.out⟩)
       ·skip
        refine box_step (by rfl) (N := 12) rfl (cs := #[.int .i64 0, .int .i64 0, .string (⟨#[]⟩ : ByteArray)]) (t := 23) (by first | (go_simp; done) | (go_simp; rfl)) ?_
        intro g12 hg wa_ hbox hb
        have n0_ := Aside0.mk (HS.out.box hb hg hbox)
        have n1_ := Aside0.mk (Kd.R_below HO.out hb)
        clear HS HO hb hg hbox
        have HS := n0_; have HO := n1_
        clear n0_ n1_
        refine hK.out _ _ ⟨(HS.out.cell 2 rfl 0).trans rfl, (HS.out.cell 2 rfl 1).trans rfl, (HS.out.cell 2 rfl 2).trans rfl, (HS.out.cell 2 rfl 3).trans rfl, (HS.out.cell 2 rfl 4).trans rfl, (HS.out.cell 2 rfl 5).trans rfl, (HS.out.cell 2 rfl 6).trans rfl, (HS.out.cell 2 rfl 7).trans rfl⟩ (fun hHeld => ?_)
        clear hK K
        refine norm_ (a' := ?_) ?_ ?_
        rotate_left
        ·show Act.put _ (some 12) _ = _
         simp only [Act.put, zq1, zq2, zq3, i64_w, i32_w]
         rfl
        refine one_ (i := 6) (N := some 80) (bm 13 1151) rfl rfl (one_of HT_.out (by kernel_rfl)) (by decide) (fun K hK => ?_)
        refine goes_ Try.func11 (by kernel_rfl) rfl #[.agg #[.int .i64 a0_0, .int .i64 a0_1, .int .i64 a0_2, .int .i64 a0_3, .int .i64 0, .string a0_5, .string a0_6, .bool a0_7], .string p1_] (by rfl) rfl rfl (by (try simp only [List.map_toArray, List.map_cons, List.map_nil]); first | done | rfl) ?_
        with_reducible refine (pixel_Image.calls k2 a0_0 a0_1 a0_2 a0_3 0 a0_5 a0_6 a0_7 p1_ W1_ h1_ s1_ e1_ _ HI1.out).mono ?_
        rintro e w_ ⟨rfl, hb⟩
        refine ⟨_, rfl, ?_⟩
        have n0_ := Aside0.mk (HS.out.step hb)
        have n1_ := Aside0.mk (Kd.R_below HO.out hb)
        clear HS HO hb
        have HS := n0_; have HO := n1_
        clear n0_ n1_
        refine hK.out _ _ ⟨(HS.out.cell 2 rfl 0).trans rfl, (HS.out.cell 2 rfl 1).trans rfl, (HS.out.cell 2 rfl 2).trans rfl, (HS.out.cell 2 rfl 3).trans rfl, (HS.out.cell 2 rfl 4).trans rfl, (HS.out.cell 2 rfl 5).trans rfl, (HS.out.cell 2 rfl 6).trans rfl, (HS.out.cell 2 rfl 7).trans rfl⟩ (fun hHeld => ?_)
        clear hK K
        refine norm_ (a' := ?_) ?_ ?_
        rotate_left
        ·show Act.put _ (some 80) _ = _
         simp only [Act.put, zq1, zq2, zq3, i64_w, i32_w]
         rfl
        refine zp 7 73 (bm 13 1279) ?_
        refine zp 8 81 (bm 13 1535) ?_
        refine zp 9 82 (bm 13 2047) ?_
        exact norm_ (by first | (simp only [putAll, Act.put, List.setIfInBounds_toArray, List.set_cons_zero, List.set_cons_succ]; done) | (simp only [putAll, Act.put, List.setIfInBounds_toArray, List.set_cons_zero, List.set_cons_succ]; rfl)) (hJ (_, g12) _ ⟨hHeld, HS.out, HO.out⟩)
      ·skip
       refine box_step (by rfl) (N := 12) rfl (cs := #[.int .i64 0, .int .i64 0, .string (⟨#[]⟩ : ByteArray)]) (t := 23) (by first | (go_simp; done) | (go_simp; rfl)) ?_
       intro g12 hg wa_ hbox hb
       have n0_ := Aside0.mk (HS.out.box hb hg hbox)
       have n1_ := Aside0.mk (Kd.R_below HO.out hb)
       have n2_ := Aside0.mk (Kd.R_below HL.out hb)
       clear HS HO hb hg hbox HL
       have HS := n0_; have HO := n1_; have HL := n2_
       clear n0_ n1_ n2_
       refine hK.out _ _ ⟨(HS.out.cell 2 rfl 0).trans rfl, (HS.out.cell 2 rfl 1).trans rfl, (HS.out.cell 2 rfl 2).trans rfl, (HS.out.cell 2 rfl 3).trans rfl, (HS.out.cell 2 rfl 4).trans rfl, (HS.out.cell 2 rfl 5).trans rfl, (HS.out.cell 2 rfl 6).trans rfl, (HS.out.cell 2 rfl 7).trans rfl⟩ (fun hHeld => ?_)
       clear hK K
       refine norm_ (a' := ?_) ?_ ?_
       rotate_left
       ·show Act.put _ (some 12) _ = _
        simp only [Act.put, zq1, zq2, zq3, i64_w, i32_w]
        rfl
       refine one_ (i := 5) (N := some 79) (bm 13 1087) rfl rfl (one_of HT_.out (by kernel_rfl)) (by decide) (fun K hK => ?_)
       refine goes_ Try.func17 (by kernel_rfl) rfl #[.agg #[.int .i64 a0_0, .int .i64 a0_1, .int .i64 a0_2, .int .i64 a0_3, .int .i64 0], .slice Aa acc.length ca, .slice Al ([0] : List Int).length cl] (by rfl) rfl rfl (by (try simp only [List.map_toArray, List.map_cons, List.map_nil]); first | done | rfl) ?_
       with_reducible refine (vitrineref12_Pack.calls k2 a0_0 a0_1 a0_2 a0_3 0 Aa ca acc Al cl ([0] : List Int) p1_ _ (Kd.R_reads' HO.out).2.2 (Kd.R_reads' HO.out).2.1 (Kd.R_reads' HL.out).2.2 (Kd.R_reads' HL.out).2.1 HP1.out).mono ?_
       rintro e w_ ⟨rfl, hb⟩
       refine ⟨_, rfl, ?_⟩
       clear HL
       have n0_ := Aside0.mk (HS.out.step hb)
       have n1_ := Aside0.mk (Kd.R_below HO.out hb)
       clear HS HO hb
       have HS := n0_; have HO := n1_
       clear n0_ n1_
       refine hK.out _ _ ⟨(HS.out.cell 2 rfl 0).trans rfl, (HS.out.cell 2 rfl 1).trans rfl, (HS.out.cell 2 rfl 2).trans rfl, (HS.out.cell 2 rfl 3).trans rfl, (HS.out.cell 2 rfl 4).trans rfl, (HS.out.cell 2 rfl 5).trans rfl, (HS.out.cell 2 rfl 6).trans rfl, (HS.out.cell 2 rfl 7).trans rfl⟩ (fun hHeld => ?_)
       clear hK K
       refine norm_ (a' := ?_) ?_ ?_
       rotate_left
       ·show Act.put _ (some 79) _ = _
        simp only [Act.put, zq1, zq2, zq3, i64_w, i32_w]
        rfl
       refine one_ (i := 6) (N := some 80) (bm 13 1151) rfl rfl (one_of HT_.out (by kernel_rfl)) (by decide) (fun K hK => ?_)
       refine goes_ Try.func11 (by kernel_rfl) rfl #[.agg #[.int .i64 a0_0, .int .i64 a0_1, .int .i64 a0_2, .int .i64 a0_3, .int .i64 0, .string a0_5, .string a0_6, .bool a0_7], .string p1_] (by rfl) rfl rfl (by (try simp only [List.map_toArray, List.map_cons, List.map_nil]); first | done | rfl) ?_
       with_reducible refine (pixel_Image.calls k2 a0_0 a0_1 a0_2 a0_3 0 a0_5 a0_6 a0_7 p1_ W1_ h1_ s1_ e1_ _ HI1.out).mono ?_
       rintro e w_ ⟨rfl, hb⟩
       refine ⟨_, rfl, ?_⟩
       have n0_ := Aside0.mk (HS.out.step hb)
       have n1_ := Aside0.mk (Kd.R_below HO.out hb)
       clear HS HO hb
       have HS := n0_; have HO := n1_
       clear n0_ n1_
       refine hK.out _ _ ⟨(HS.out.cell 2 rfl 0).trans rfl, (HS.out.cell 2 rfl 1).trans rfl, (HS.out.cell 2 rfl 2).trans rfl, (HS.out.cell 2 rfl 3).trans rfl, (HS.out.cell 2 rfl 4).trans rfl, (HS.out.cell 2 rfl 5).trans rfl, (HS.out.cell 2 rfl 6).trans rfl, (HS.out.cell 2 rfl 7).trans rfl⟩ (fun hHeld => ?_)
       clear hK K
       refine norm_ (a' := ?_) ?_ ?_
       rotate_left
       ·show Act.put _ (some 80) _ = _
        simp only [Act.put, zq1, zq2, zq3, i64_w, i32_w]
        rfl
       refine zp 7 73 (bm 13 1279) ?_
       refine zp 8 81 (bm 13 1535) ?_
       refine zp 9 82 (bm 13 2047) ?_
       exact norm_ (by first | (simp only [putAll, Act.put, List.setIfInBounds_toArray, List.set_cons_zero, List.set_cons_succ]; done) | (simp only [putAll, Act.put, List.setIfInBounds_toArray, List.set_cons_zero, List.set_cons_succ]; rfl)) (hJ (_, g12) _ ⟨hHeld, HS.out, HO.out⟩)
     ·skip
      refine box_step (by rfl) (N := 12) rfl (cs := #[.int .i64 0, .int .i64 0, .string (⟨#[]⟩ : ByteArray)]) (t := 23) (by first | (go_simp; done) | (go_simp; rfl)) ?_
      intro g12 hg wa_ hbox hb
      have n0_ := Aside0.mk (HS.out.box hb hg hbox)
      have n1_ := Aside0.mk (Kd.R_below HO.out hb)
      clear HS HO hb hg hbox
      have HS := n0_; have HO := n1_
      clear n0_ n1_
      refine hK.out _ _ ⟨(HS.out.cell 2 rfl 0).trans rfl, (HS.out.cell 2 rfl 1).trans rfl, (HS.out.cell 2 rfl 2).trans rfl, (HS.out.cell 2 rfl 3).trans rfl, (HS.out.cell 2 rfl 4).trans rfl, (HS.out.cell 2 rfl 5).trans rfl, (HS.out.cell 2 rfl 6).trans rfl, (HS.out.cell 2 rfl 7).trans rfl⟩ (fun hHeld => ?_)
      clear hK K
      refine norm_ (a' := ?_) ?_ ?_
      rotate_left
      ·show Act.put _ (some 12) _ = _
       simp only [Act.put, zq1, zq2, zq3, i64_w, i32_w]
       rfl
      refine one_ (i := 4) (N := some 78) (bm 13 1055) rfl rfl (one_of HT_.out (by kernel_rfl)) (by decide) (fun K hK => ?_)
      refine Kd.R_lit_step (Kd.int .i64) _ 3 ?hg (N := 78) ?hd (xs := ([0] : List Int)) (inner := [.int .i64 0]) (ok := fun _ => True) (okp := fun _ => True) ?hr ?hp (fun _ hk => hk) trivial (Below.refl _ _) (Nat.le_refl _) (by simp) ?_; (case hd => rfl); (case hg => rfl); (case hr => first | (go_simp; done) | (go_simp; rfl)); (case hp => exact Reps.one (show Kd.M (Kd.int .i64) _ _ _ 0 [.int .i64 0] from rfl) (Reps.none _ _))
      intro vL_ wL_ ho_ hb hg_ hnew_
      have n0_ := Aside0.mk (HS.out.step hb)
      have n1_ := Aside0.mk (Kd.R_below HO.out hb)
      clear HS HO hb
      have HS := n0_; have HO := n1_
      clear n0_ n1_
      have HL := Aside0.mk ho_
      clear hg_ hnew_ ho_
      refine hK.out _ _ ⟨(HS.out.cell 2 rfl 0).trans rfl, (HS.out.cell 2 rfl 1).trans rfl, (HS.out.cell 2 rfl 2).trans rfl, (HS.out.cell 2 rfl 3).trans rfl, (HS.out.cell 2 rfl 4).trans rfl, (HS.out.cell 2 rfl 5).trans rfl, (HS.out.cell 2 rfl 6).trans rfl, (HS.out.cell 2 rfl 7).trans rfl⟩ (fun hHeld => ?_)
      clear hK K
      refine norm_ (a' := ?_) ?_ ?_
      rotate_left
      ·show Act.put _ (some 78) _ = _
       simp only [Act.put, zq1, zq2, zq3, i64_w, i32_w]
       rfl
      obtain ⟨Al, cl, rfl⟩ := Kd.R_slice HL.out
      refine one_ (i := 5) (N := some 79) (bm 13 1087) rfl rfl (one_of HT_.out (by kernel_rfl)) (by decide) (fun K hK => ?_)
      refine goes_ Try.func17 (by kernel_rfl) rfl #[.agg #[.int .i64 a0_0, .int .i64 a0_1, .int .i64 a0_2, .int .i64 a0_3, .int .i64 0], .slice Aa acc.length ca, .slice Al ([0] : List Int).length cl] (by rfl) rfl rfl (by (try simp only [List.map_toArray, List.map_cons, List.map_nil]); first | done | rfl) ?_
      with_reducible refine (vitrineref12_Pack.calls k2 a0_0 a0_1 a0_2 a0_3 0 Aa ca acc Al cl ([0] : List Int) p1_ _ (Kd.R_reads' HO.out).2.2 (Kd.R_reads' HO.out).2.1 (Kd.R_reads' HL.out).2.2 (Kd.R_reads' HL.out).2.1 HP1.out).mono ?_
      rintro e w_ ⟨rfl, hb⟩
      refine ⟨_, rfl, ?_⟩
      clear HL
      have n0_ := Aside0.mk (HS.out.step hb)
      have n1_ := Aside0.mk (Kd.R_below HO.out hb)
      clear HS HO hb
      have HS := n0_; have HO := n1_
      clear n0_ n1_
      refine hK.out _ _ ⟨(HS.out.cell 2 rfl 0).trans rfl, (HS.out.cell 2 rfl 1).trans rfl, (HS.out.cell 2 rfl 2).trans rfl, (HS.out.cell 2 rfl 3).trans rfl, (HS.out.cell 2 rfl 4).trans rfl, (HS.out.cell 2 rfl 5).trans rfl, (HS.out.cell 2 rfl 6).trans rfl, (HS.out.cell 2 rfl 7).trans rfl⟩ (fun hHeld => ?_)
      clear hK K
      refine norm_ (a' := ?_) ?_ ?_
      rotate_left
      ·show Act.put _ (some 79) _ = _
       simp only [Act.put, zq1, zq2, zq3, i64_w, i32_w]
       rfl
      refine one_ (i := 6) (N := some 80) (bm 13 1151) rfl rfl (one_of HT_.out (by kernel_rfl)) (by decide) (fun K hK => ?_)
      refine goes_ Try.func11 (by kernel_rfl) rfl #[.agg #[.int .i64 a0_0, .int .i64 a0_1, .int .i64 a0_2, .int .i64 a0_3, .int .i64 0, .string a0_5, .string a0_6, .bool a0_7], .string p1_] (by rfl) rfl rfl (by (try simp only [List.map_toArray, List.map_cons, List.map_nil]); first | done | rfl) ?_
      with_reducible refine (pixel_Image.calls k2 a0_0 a0_1 a0_2 a0_3 0 a0_5 a0_6 a0_7 p1_ W1_ h1_ s1_ e1_ _ HI1.out).mono ?_
      rintro e w_ ⟨rfl, hb⟩
      refine ⟨_, rfl, ?_⟩
      have n0_ := Aside0.mk (HS.out.step hb)
      have n1_ := Aside0.mk (Kd.R_below HO.out hb)
      clear HS HO hb
      have HS := n0_; have HO := n1_
      clear n0_ n1_
      refine hK.out _ _ ⟨(HS.out.cell 2 rfl 0).trans rfl, (HS.out.cell 2 rfl 1).trans rfl, (HS.out.cell 2 rfl 2).trans rfl, (HS.out.cell 2 rfl 3).trans rfl, (HS.out.cell 2 rfl 4).trans rfl, (HS.out.cell 2 rfl 5).trans rfl, (HS.out.cell 2 rfl 6).trans rfl, (HS.out.cell 2 rfl 7).trans rfl⟩ (fun hHeld => ?_)
      clear hK K
      refine norm_ (a' := ?_) ?_ ?_
      rotate_left
      ·show Act.put _ (some 80) _ = _
       simp only [Act.put, zq1, zq2, zq3, i64_w, i32_w]
       rfl
      refine zp 7 73 (bm 13 1279) ?_
      refine zp 8 81 (bm 13 1535) ?_
      refine zp 9 82 (bm 13 2047) ?_
      exact norm_ (by first | (simp only [putAll, Act.put, List.setIfInBounds_toArray, List.set_cons_zero, List.set_cons_succ]; done) | (simp only [putAll, Act.put, List.setIfInBounds_toArray, List.set_cons_zero, List.set_cons_succ]; rfl)) (hJ (_, g12) _ ⟨hHeld, HS.out, HO.out⟩)
    rintro ⟨v_, g12⟩ wj ⟨hHeld, hS_, hO_⟩
    have n0_ : Aside0 (Sv w [(g12, #[.int .i64 0, .int .i64 0, .string (⟨#[]⟩ : ByteArray)], 23), (gk, (#[.int .i64 a2_0, .int .i64 a2_1] : Array Value), 38), (gs, SHC (⟨a0_0, a0_1, a0_2, a0_3, 0, a0_5, a0_6, a0_7⟩ : PSh), 31)] wj) := ⟨hS_⟩
    have n1_ := Aside0.mk hO_
    clear HS HO hS_ hO_
    have HS := n0_
    have HO := n1_
    clear n0_ n1_
    refine norm_ (a' := ?_) ?_ ?_
    rotate_left
    ·simp only [putAll, Act.put, List.setIfInBounds_toArray, List.set_cons_zero, List.set_cons_succ]
     rfl
    refine one_ (i := 11) (N := none) (bm 13 4095) rfl rfl (one_of HT_.out (by kernel_rfl)) (by decide) (fun K hK => ?_)
    have c0 := (HS.out.cell 0 rfl 0).trans (show (#[.int .i64 0, .int .i64 0, .string (⟨#[]⟩ : ByteArray)] : Array Value)[0]? = some (.int .i64 0) from rfl)
    have f0 := HS.out.fz 0 rfl 0
    have c1 := (HS.out.cell 0 rfl 1).trans (show (#[.int .i64 0, .int .i64 0, .string (⟨#[]⟩ : ByteArray)] : Array Value)[1]? = some (.int .i64 0) from rfl)
    have f1 := HS.out.fz 0 rfl 1
    have c2 := (HS.out.cell 0 rfl 2).trans (show (#[.int .i64 0, .int .i64 0, .string (⟨#[]⟩ : ByteArray)] : Array Value)[2]? = some (.string (⟨#[]⟩ : ByteArray)) from rfl)
    have f2 := HS.out.fz 0 rfl 2
    refine skip_ (w1 := ?_) (by rfl) rfl ?_ ?_
    rotate_left
    ·go_simp
     rfl
    have n0_ : Aside0 (Sv w [(g12, #[.int .i64 W1_, .int .i64 h1_, .string s1_], 23), (gk, (#[.int .i64 a2_0, .int .i64 a2_1] : Array Value), 38), (gs, SHC (⟨a0_0, a0_1, a0_2, a0_3, 0, a0_5, a0_6, a0_7⟩ : PSh), 31)] (World.setCell (World.setCell (World.setCell wj ⟨g12, 0, none⟩ (.int .i64 W1_)) ⟨g12, 1, none⟩ (.int .i64 h1_)) ⟨g12, 2, none⟩ (.string s1_))) := ⟨(Sv.set (Sv.set (Sv.set HS.out 0 rfl 0 (.int .i64 W1_)) 0 rfl 1 (.int .i64 h1_)) 0 rfl 2 (.string s1_))⟩
    have n1_ := Aside0.mk (Sv.keeps (Sv.set (Sv.set HS.out 0 rfl 0 (.int .i64 W1_)) 0 rfl 1 (.int .i64 h1_)) 0 rfl (ps_int (by decide)) (Sv.keeps (Sv.set HS.out 0 rfl 0 (.int .i64 W1_)) 0 rfl (ps_int (by decide)) (Sv.keeps HS.out 0 rfl (ps_int (by decide)) HO.out 0 (.int .i64 W1_)) 1 (.int .i64 h1_)) 2 (.string s1_))
    clear HS HO c0 c1 c2 f0 f1 f2
    have HS := n0_
    have HO := n1_
    clear n0_ n1_
    generalize (World.setCell (World.setCell (World.setCell wj ⟨g12, 0, none⟩ (.int .i64 W1_)) ⟨g12, 1, none⟩ (.int .i64 h1_)) ⟨g12, 2, none⟩ (.string s1_)) = w12b at HS HO ⊢
    refine hK.out _ _ ⟨(HS.out.cell 2 rfl 0).trans rfl, (HS.out.cell 2 rfl 1).trans rfl, (HS.out.cell 2 rfl 2).trans rfl, (HS.out.cell 2 rfl 3).trans rfl, (HS.out.cell 2 rfl 4).trans rfl, (HS.out.cell 2 rfl 5).trans rfl, (HS.out.cell 2 rfl 6).trans rfl, (HS.out.cell 2 rfl 7).trans rfl⟩ (fun hHeld => ?_)
    clear hK K
    refine zp 12 13 (bm 13 8191) ?_
    refine done_ (done_of HT_.out (by kernel_rfl)) ?_
    clear HT_ HW_ hHeld
    go_wp2
    have n1_ := Aside0.mk (Kd.R_drew HO.out)
    clear HO
    have HO := n1_
    clear n1_
    have n0_ := Aside0.mk HS.out.drew
    clear HS
    have HS := n0_
    clear n0_
    refine start_ (n := 15) (S := fun w' => w'.cell? ⟨gs, 0, none⟩ = some (.int .i64 a0_0) ∧ w'.cell? ⟨gs, 1, none⟩ = some (.int .i64 a0_1) ∧ w'.cell? ⟨gs, 2, none⟩ = some (.int .i64 a0_2) ∧ w'.cell? ⟨gs, 3, none⟩ = some (.int .i64 a0_3) ∧ w'.cell? ⟨gs, 4, none⟩ = some (.int .i64 0) ∧ w'.cell? ⟨gs, 5, none⟩ = some (.string a0_5) ∧ w'.cell? ⟨gs, 6, none⟩ = some (.string a0_6) ∧ w'.cell? ⟨gs, 7, none⟩ = some (.bool a0_7)) (ds := []) (bm 15 0) (by kernel_rfl) rfl rfl ⟨(HS.out.cell 2 rfl 0).trans rfl, (HS.out.cell 2 rfl 1).trans rfl, (HS.out.cell 2 rfl 2).trans rfl, (HS.out.cell 2 rfl 3).trans rfl, (HS.out.cell 2 rfl 4).trans rfl, (HS.out.cell 2 rfl 5).trans rfl, (HS.out.cell 2 rfl 6).trans rfl, (HS.out.cell 2 rfl 7).trans rfl⟩ (fun hHeld => ?_)
    refine with_tabW vitrinelaw12_PixelSame.tab13 vitrinelaw12_PixelSame.bits13 (fun HT_ HW_ => ?_)
    generalize World.drew _ = w13a at HS HO hHeld ⊢
    refine zt 0 84 (bm 15 1) rfl (by rintro w' ⟨s0_, s1_, s2_, s3_, s4_, s5_, s6_, s7_⟩; go_simp; with_reducible rfl) ?_
    refine zp 1 85 (bm 15 3) ?_
    refine zt 2 86 (bm 15 7) rfl (by rintro w' ⟨s0_, s1_, s2_, s3_, s4_, s5_, s6_, s7_⟩; go_simp; with_reducible rfl) ?_
    refine zp 3 87 (bm 15 15) ?_
    refine zp 4 88 (bm 15 31) ?_
    refine zp 5 89 (bm 15 63) ?_
    refine join_ (σ := Value × Nat) 2 (bm 15 8191) (fun s_ => [(90, s_.1), (91, .string p2_), (92, .tuple #[.agg #[.int .i64 W2_, .int .i64 h2_, .string s2_], .int .i64 e2_]), (14, .pointer (some ⟨s_.2, 0, none⟩)), (83, .tuple #[.agg #[.int .i64 W2_, .int .i64 h2_, .string s2_], .int .i64 e2_]), (93, .agg #[.int .i64 W2_, .int .i64 h2_, .string s2_]), (94, .int .i64 e2_)]) (fun s_ w' => (w'.cell? ⟨gs, 0, none⟩ = some (.int .i64 a0_0) ∧ w'.cell? ⟨gs, 1, none⟩ = some (.int .i64 a0_1) ∧ w'.cell? ⟨gs, 2, none⟩ = some (.int .i64 a0_2) ∧ w'.cell? ⟨gs, 3, none⟩ = some (.int .i64 a0_3) ∧ w'.cell? ⟨gs, 4, none⟩ = some (.int .i64 0) ∧ w'.cell? ⟨gs, 5, none⟩ = some (.string a0_5) ∧ w'.cell? ⟨gs, 6, none⟩ = some (.string a0_6) ∧ w'.cell? ⟨gs, 7, none⟩ = some (.bool a0_7)) ∧ Sv w [(s_.2, #[.int .i64 0, .int .i64 0, .string (⟨#[]⟩ : ByteArray)], 23), (g12, #[.int .i64 W1_, .int .i64 h1_, .string s1_], 23), (gk, (#[.int .i64 a2_0, .int .i64 a2_1] : Array Value), 38), (gs, SHC (⟨a0_0, a0_1, a0_2, a0_3, 0, a0_5, a0_6, a0_7⟩ : PSh), 31)] w' ∧ Kd.R (Kd.int .i64) 3 w' w.heap.size (fun _ => True) (.slice Aa acc.length ca) acc) ?_ ?_
    rotate_left
    ·intro hJ
     refine two_ (i := 6) (j := 12) (Ni := some 90) (Nj := some 14) (bm 15 127) (bm 15 4159) rfl rfl rfl rfl (two_of HT_.out (by kernel_rfl)) (by decide) (by decide) (fun K hK => ?_) (fun K hK => ?_)
     ·skip
      refine Kd.R_lit_step (Kd.int .i64) _ 3 ?hg (N := 90) ?hd (xs := ([ka, kb, (-1)] : List Int)) (inner := [.int .i64 ka, .int .i64 kb, .int .i64 (-1)]) (ok := fun _ => True) (okp := fun _ => True) ?hr ?hp (fun _ hk => hk) trivial (Below.refl _ _) (Nat.le_refl _) (by simp) ?_; (case hd => rfl); (case hg => rfl); (case hr => first | (go_simp; done) | (go_simp; rfl)); (case hp => exact Reps.one (show Kd.M (Kd.int .i64) _ _ _ ka [.int .i64 ka] from rfl) (Reps.one (show Kd.M (Kd.int .i64) _ _ _ kb [.int .i64 kb] from rfl) (Reps.one (show Kd.M (Kd.int .i64) _ _ _ (-1) [.int .i64 (-1)] from rfl) (Reps.none _ _))))
      intro vL_ wL_ ho_ hb hg_ hnew_
      have n0_ := Aside0.mk (HS.out.step hb)
      have n1_ := Aside0.mk (Kd.R_below HO.out hb)
      clear HS HO hb
      have HS := n0_; have HO := n1_
      clear n0_ n1_
      have HL := Aside0.mk ho_
      clear hg_ hnew_ ho_
      refine hK.out _ _ ⟨(HS.out.cell 2 rfl 0).trans rfl, (HS.out.cell 2 rfl 1).trans rfl, (HS.out.cell 2 rfl 2).trans rfl, (HS.out.cell 2 rfl 3).trans rfl, (HS.out.cell 2 rfl 4).trans rfl, (HS.out.cell 2 rfl 5).trans rfl, (HS.out.cell 2 rfl 6).trans rfl, (HS.out.cell 2 rfl 7).trans rfl⟩ (fun hHeld => ?_)
      clear hK K
      refine norm_ (a' := ?_) ?_ ?_
      rotate_left
      ·show Act.put _ (some 90) _ = _
       simp only [Act.put, zq1, zq2, zq3, i64_w, i32_w]
       rfl
      obtain ⟨Al, cl, rfl⟩ := Kd.R_slice HL.out
      refine two_ (i := 7) (j := 12) (Ni := some 91) (Nj := some 14) (bm 15 255) (bm 15 4223) rfl rfl rfl rfl (two_of HT_.out (by kernel_rfl)) (by decide) (by decide) (fun K hK => ?_) (fun K hK => ?_)
      ·skip
       refine goes_ Try.func17 (by kernel_rfl) rfl #[.agg #[.int .i64 a0_0, .int .i64 a0_1, .int .i64 a0_2, .int .i64 a0_3, .int .i64 0], .slice Aa acc.length ca, .slice Al ([ka, kb, (-1)] : List Int).length cl] (by rfl) rfl rfl (by (try simp only [List.map_toArray, List.map_cons, List.map_nil]); first | done | rfl) ?_
       with_reducible refine (vitrineref12_Pack.calls k2 a0_0 a0_1 a0_2 a0_3 0 Aa ca acc Al cl ([ka, kb, (-1)] : List Int) p2_ _ (Kd.R_reads' HO.out).2.2 (Kd.R_reads' HO.out).2.1 (Kd.R_reads' HL.out).2.2 (Kd.R_reads' HL.out).2.1 HP2.out).mono ?_
       rintro e w_ ⟨rfl, hb⟩
       refine ⟨_, rfl, ?_⟩
       clear HL
       have n0_ := Aside0.mk (HS.out.step hb)
       have n1_ := Aside0.mk (Kd.R_below HO.out hb)
       clear HS HO hb
       have HS := n0_; have HO := n1_
       clear n0_ n1_
       refine hK.out _ _ ⟨(HS.out.cell 2 rfl 0).trans rfl, (HS.out.cell 2 rfl 1).trans rfl, (HS.out.cell 2 rfl 2).trans rfl, (HS.out.cell 2 rfl 3).trans rfl, (HS.out.cell 2 rfl 4).trans rfl, (HS.out.cell 2 rfl 5).trans rfl, (HS.out.cell 2 rfl 6).trans rfl, (HS.out.cell 2 rfl 7).trans rfl⟩ (fun hHeld => ?_)
       clear hK K
       refine norm_ (a' := ?_) ?_ ?_
       rotate_left
       ·show Act.put _ (some 91) _ = _
        simp only [Act.put, zq1, zq2, zq3, i64_w, i32_w]
        rfl
       refine two_ (i := 8) (j := 12) (Ni := some 92) (Nj := some 14) (bm 15 511) (bm 15 4351) rfl rfl rfl rfl (two_of HT_.out (by kernel_rfl)) (by decide) (by decide) (fun K hK => ?_) (fun K hK => ?_)
       ·skip
        refine goes_ Try.func11 (by kernel_rfl) rfl #[.agg #[.int .i64 a0_0, .int .i64 a0_1, .int .i64 a0_2, .int .i64 a0_3, .int .i64 0, .string a0_5, .string a0_6, .bool a0_7], .string p2_] (by rfl) rfl rfl (by (try simp only [List.map_toArray, List.map_cons, List.map_nil]); first | done | rfl) ?_
        with_reducible refine (pixel_Image.calls k2 a0_0 a0_1 a0_2 a0_3 0 a0_5 a0_6 a0_7 p2_ W2_ h2_ s2_ e2_ _ HI2.out).mono ?_
        rintro e w_ ⟨rfl, hb⟩
        refine ⟨_, rfl, ?_⟩
        have n0_ := Aside0.mk (HS.out.step hb)
        have n1_ := Aside0.mk (Kd.R_below HO.out hb)
        clear HS HO hb
        have HS := n0_; have HO := n1_
        clear n0_ n1_
        refine hK.out _ _ ⟨(HS.out.cell 2 rfl 0).trans rfl, (HS.out.cell 2 rfl 1).trans rfl, (HS.out.cell 2 rfl 2).trans rfl, (HS.out.cell 2 rfl 3).trans rfl, (HS.out.cell 2 rfl 4).trans rfl, (HS.out.cell 2 rfl 5).trans rfl, (HS.out.cell 2 rfl 6).trans rfl, (HS.out.cell 2 rfl 7).trans rfl⟩ (fun hHeld => ?_)
        clear hK K
        refine norm_ (a' := ?_) ?_ ?_
        rotate_left
        ·show Act.put _ (some 92) _ = _
         simp only [Act.put, zq1, zq2, zq3, i64_w, i32_w]
         rfl
        refine zp 9 83 (bm 15 1023) ?_
        refine zp 10 93 (bm 15 2047) ?_
        refine zp 11 94 (bm 15 4095) ?_
        refine one_ (i := 12) (N := some 14) (bm 15 8191) rfl rfl (one_of HT_.out (by kernel_rfl)) (by decide) (fun K hK => ?_)
        refine box_step (by rfl) (N := 14) rfl (cs := #[.int .i64 0, .int .i64 0, .string (⟨#[]⟩ : ByteArray)]) (t := 23) (by first | (go_simp; done) | (go_simp; rfl)) ?_
        intro g13 hg wa_ hbox hb
        have n0_ := Aside0.mk (HS.out.box hb hg hbox)
        have n1_ := Aside0.mk (Kd.R_below HO.out hb)
        clear HS HO hb hg hbox
        have HS := n0_; have HO := n1_
        clear n0_ n1_
        refine hK.out _ _ ⟨(HS.out.cell 3 rfl 0).trans rfl, (HS.out.cell 3 rfl 1).trans rfl, (HS.out.cell 3 rfl 2).trans rfl, (HS.out.cell 3 rfl 3).trans rfl, (HS.out.cell 3 rfl 4).trans rfl, (HS.out.cell 3 rfl 5).trans rfl, (HS.out.cell 3 rfl 6).trans rfl, (HS.out.cell 3 rfl 7).trans rfl⟩ (fun hHeld => ?_)
        clear hK K
        refine norm_ (a' := ?_) ?_ ?_
        rotate_left
        ·show Act.put _ (some 14) _ = _
         simp only [Act.put, zq1, zq2, zq3, i64_w, i32_w]
         rfl
        exact norm_ (by first | (simp only [putAll, Act.put, List.setIfInBounds_toArray, List.set_cons_zero, List.set_cons_succ]; done) | (simp only [putAll, Act.put, List.setIfInBounds_toArray, List.set_cons_zero, List.set_cons_succ]; rfl)) (hJ (_, g13) _ ⟨hHeld, HS.out, HO.out⟩)
       ·skip
        refine box_step (by rfl) (N := 14) rfl (cs := #[.int .i64 0, .int .i64 0, .string (⟨#[]⟩ : ByteArray)]) (t := 23) (by first | (go_simp; done) | (go_simp; rfl)) ?_
        intro g13 hg wa_ hbox hb
        have n0_ := Aside0.mk (HS.out.box hb hg hbox)
        have n1_ := Aside0.mk (Kd.R_below HO.out hb)
        clear HS HO hb hg hbox
        have HS := n0_; have HO := n1_
        clear n0_ n1_
        refine hK.out _ _ ⟨(HS.out.cell 3 rfl 0).trans rfl, (HS.out.cell 3 rfl 1).trans rfl, (HS.out.cell 3 rfl 2).trans rfl, (HS.out.cell 3 rfl 3).trans rfl, (HS.out.cell 3 rfl 4).trans rfl, (HS.out.cell 3 rfl 5).trans rfl, (HS.out.cell 3 rfl 6).trans rfl, (HS.out.cell 3 rfl 7).trans rfl⟩ (fun hHeld => ?_)
        clear hK K
        refine norm_ (a' := ?_) ?_ ?_
        rotate_left
        ·show Act.put _ (some 14) _ = _
         simp only [Act.put, zq1, zq2, zq3, i64_w, i32_w]
         rfl
        refine one_ (i := 8) (N := some 92) (bm 15 4607) rfl rfl (one_of HT_.out (by kernel_rfl)) (by decide) (fun K hK => ?_)
        refine goes_ Try.func11 (by kernel_rfl) rfl #[.agg #[.int .i64 a0_0, .int .i64 a0_1, .int .i64 a0_2, .int .i64 a0_3, .int .i64 0, .string a0_5, .string a0_6, .bool a0_7], .string p2_] (by rfl) rfl rfl (by (try simp only [List.map_toArray, List.map_cons, List.map_nil]); first | done | rfl) ?_
        with_reducible refine (pixel_Image.calls k2 a0_0 a0_1 a0_2 a0_3 0 a0_5 a0_6 a0_7 p2_ W2_ h2_ s2_ e2_ _ HI2.out).mono ?_
        rintro e w_ ⟨rfl, hb⟩
        refine ⟨_, rfl, ?_⟩
        have n0_ := Aside0.mk (HS.out.step hb)
        have n1_ := Aside0.mk (Kd.R_below HO.out hb)
        clear HS HO hb
        have HS := n0_; have HO := n1_
        clear n0_ n1_
        refine hK.out _ _ ⟨(HS.out.cell 3 rfl 0).trans rfl, (HS.out.cell 3 rfl 1).trans rfl, (HS.out.cell 3 rfl 2).trans rfl, (HS.out.cell 3 rfl 3).trans rfl, (HS.out.cell 3 rfl 4).trans rfl, (HS.out.cell 3 rfl 5).trans rfl, (HS.out.cell 3 rfl 6).trans rfl, (HS.out.cell 3 rfl 7).trans rfl⟩ (fun hHeld => ?_)
        clear hK K
        refine norm_ (a' := ?_) ?_ ?_
        rotate_left
        ·show Act.put _ (some 92) _ = _
         simp only [Act.put, zq1, zq2, zq3, i64_w, i32_w]
         rfl
        refine zp 9 83 (bm 15 5119) ?_
        refine zp 10 93 (bm 15 6143) ?_
        refine zp 11 94 (bm 15 8191) ?_
        exact norm_ (by first | (simp only [putAll, Act.put, List.setIfInBounds_toArray, List.set_cons_zero, List.set_cons_succ]; done) | (simp only [putAll, Act.put, List.setIfInBounds_toArray, List.set_cons_zero, List.set_cons_succ]; rfl)) (hJ (_, g13) _ ⟨hHeld, HS.out, HO.out⟩)
      ·skip
       refine box_step (by rfl) (N := 14) rfl (cs := #[.int .i64 0, .int .i64 0, .string (⟨#[]⟩ : ByteArray)]) (t := 23) (by first | (go_simp; done) | (go_simp; rfl)) ?_
       intro g13 hg wa_ hbox hb
       have n0_ := Aside0.mk (HS.out.box hb hg hbox)
       have n1_ := Aside0.mk (Kd.R_below HO.out hb)
       have n2_ := Aside0.mk (Kd.R_below HL.out hb)
       clear HS HO hb hg hbox HL
       have HS := n0_; have HO := n1_; have HL := n2_
       clear n0_ n1_ n2_
       refine hK.out _ _ ⟨(HS.out.cell 3 rfl 0).trans rfl, (HS.out.cell 3 rfl 1).trans rfl, (HS.out.cell 3 rfl 2).trans rfl, (HS.out.cell 3 rfl 3).trans rfl, (HS.out.cell 3 rfl 4).trans rfl, (HS.out.cell 3 rfl 5).trans rfl, (HS.out.cell 3 rfl 6).trans rfl, (HS.out.cell 3 rfl 7).trans rfl⟩ (fun hHeld => ?_)
       clear hK K
       refine norm_ (a' := ?_) ?_ ?_
       rotate_left
       ·show Act.put _ (some 14) _ = _
        simp only [Act.put, zq1, zq2, zq3, i64_w, i32_w]
        rfl
       refine one_ (i := 7) (N := some 91) (bm 15 4351) rfl rfl (one_of HT_.out (by kernel_rfl)) (by decide) (fun K hK => ?_)
       refine goes_ Try.func17 (by kernel_rfl) rfl #[.agg #[.int .i64 a0_0, .int .i64 a0_1, .int .i64 a0_2, .int .i64 a0_3, .int .i64 0], .slice Aa acc.length ca, .slice Al ([ka, kb, (-1)] : List Int).length cl] (by rfl) rfl rfl (by (try simp only [List.map_toArray, List.map_cons, List.map_nil]); first | done | rfl) ?_
       with_reducible refine (vitrineref12_Pack.calls k2 a0_0 a0_1 a0_2 a0_3 0 Aa ca acc Al cl ([ka, kb, (-1)] : List Int) p2_ _ (Kd.R_reads' HO.out).2.2 (Kd.R_reads' HO.out).2.1 (Kd.R_reads' HL.out).2.2 (Kd.R_reads' HL.out).2.1 HP2.out).mono ?_
       rintro e w_ ⟨rfl, hb⟩
       refine ⟨_, rfl, ?_⟩
       clear HL
       have n0_ := Aside0.mk (HS.out.step hb)
       have n1_ := Aside0.mk (Kd.R_below HO.out hb)
       clear HS HO hb
       have HS := n0_; have HO := n1_
       clear n0_ n1_
       refine hK.out _ _ ⟨(HS.out.cell 3 rfl 0).trans rfl, (HS.out.cell 3 rfl 1).trans rfl, (HS.out.cell 3 rfl 2).trans rfl, (HS.out.cell 3 rfl 3).trans rfl, (HS.out.cell 3 rfl 4).trans rfl, (HS.out.cell 3 rfl 5).trans rfl, (HS.out.cell 3 rfl 6).trans rfl, (HS.out.cell 3 rfl 7).trans rfl⟩ (fun hHeld => ?_)
       clear hK K
       refine norm_ (a' := ?_) ?_ ?_
       rotate_left
       ·show Act.put _ (some 91) _ = _
        simp only [Act.put, zq1, zq2, zq3, i64_w, i32_w]
        rfl
       refine one_ (i := 8) (N := some 92) (bm 15 4607) rfl rfl (one_of HT_.out (by kernel_rfl)) (by decide) (fun K hK => ?_)
       refine goes_ Try.func11 (by kernel_rfl) rfl #[.agg #[.int .i64 a0_0, .int .i64 a0_1, .int .i64 a0_2, .int .i64 a0_3, .int .i64 0, .string a0_5, .string a0_6, .bool a0_7], .string p2_] (by rfl) rfl rfl (by (try simp only [List.map_toArray, List.map_cons, List.map_nil]); first | done | rfl) ?_
       with_reducible refine (pixel_Image.calls k2 a0_0 a0_1 a0_2 a0_3 0 a0_5 a0_6 a0_7 p2_ W2_ h2_ s2_ e2_ _ HI2.out).mono ?_
       rintro e w_ ⟨rfl, hb⟩
       refine ⟨_, rfl, ?_⟩
       have n0_ := Aside0.mk (HS.out.step hb)
       have n1_ := Aside0.mk (Kd.R_below HO.out hb)
       clear HS HO hb
       have HS := n0_; have HO := n1_
       clear n0_ n1_
       refine hK.out _ _ ⟨(HS.out.cell 3 rfl 0).trans rfl, (HS.out.cell 3 rfl 1).trans rfl, (HS.out.cell 3 rfl 2).trans rfl, (HS.out.cell 3 rfl 3).trans rfl, (HS.out.cell 3 rfl 4).trans rfl, (HS.out.cell 3 rfl 5).trans rfl, (HS.out.cell 3 rfl 6).trans rfl, (HS.out.cell 3 rfl 7).trans rfl⟩ (fun hHeld => ?_)
       clear hK K
       refine norm_ (a' := ?_) ?_ ?_
       rotate_left
       ·show Act.put _ (some 92) _ = _
        simp only [Act.put, zq1, zq2, zq3, i64_w, i32_w]
        rfl
       refine zp 9 83 (bm 15 5119) ?_
       refine zp 10 93 (bm 15 6143) ?_
       refine zp 11 94 (bm 15 8191) ?_
       exact norm_ (by first | (simp only [putAll, Act.put, List.setIfInBounds_toArray, List.set_cons_zero, List.set_cons_succ]; done) | (simp only [putAll, Act.put, List.setIfInBounds_toArray, List.set_cons_zero, List.set_cons_succ]; rfl)) (hJ (_, g13) _ ⟨hHeld, HS.out, HO.out⟩)
     ·skip
      refine box_step (by rfl) (N := 14) rfl (cs := #[.int .i64 0, .int .i64 0, .string (⟨#[]⟩ : ByteArray)]) (t := 23) (by first | (go_simp; done) | (go_simp; rfl)) ?_
      intro g13 hg wa_ hbox hb
      have n0_ := Aside0.mk (HS.out.box hb hg hbox)
      have n1_ := Aside0.mk (Kd.R_below HO.out hb)
      clear HS HO hb hg hbox
      have HS := n0_; have HO := n1_
      clear n0_ n1_
      refine hK.out _ _ ⟨(HS.out.cell 3 rfl 0).trans rfl, (HS.out.cell 3 rfl 1).trans rfl, (HS.out.cell 3 rfl 2).trans rfl, (HS.out.cell 3 rfl 3).trans rfl, (HS.out.cell 3 rfl 4).trans rfl, (HS.out.cell 3 rfl 5).trans rfl, (HS.out.cell 3 rfl 6).trans rfl, (HS.out.cell 3 rfl 7).trans rfl⟩ (fun hHeld => ?_)
      clear hK K
      refine norm_ (a' := ?_) ?_ ?_
      rotate_left
      ·show Act.put _ (some 14) _ = _
       simp only [Act.put, zq1, zq2, zq3, i64_w, i32_w]
       rfl
      refine one_ (i := 6) (N := some 90) (bm 15 4223) rfl rfl (one_of HT_.out (by kernel_rfl)) (by decide) (fun K hK => ?_)
      refine Kd.R_lit_step (Kd.int .i64) _ 3 ?hg (N := 90) ?hd (xs := ([ka, kb, (-1)] : List Int)) (inner := [.int .i64 ka, .int .i64 kb, .int .i64 (-1)]) (ok := fun _ => True) (okp := fun _ => True) ?hr ?hp (fun _ hk => hk) trivial (Below.refl _ _) (Nat.le_refl _) (by simp) ?_; (case hd => rfl); (case hg => rfl); (case hr => first | (go_simp; done) | (go_simp; rfl)); (case hp => exact Reps.one (show Kd.M (Kd.int .i64) _ _ _ ka [.int .i64 ka] from rfl) (Reps.one (show Kd.M (Kd.int .i64) _ _ _ kb [.int .i64 kb] from rfl) (Reps.one (show Kd.M (Kd.int .i64) _ _ _ (-1) [.int .i64 (-1)] from rfl) (Reps.none _ _))))
      intro vL_ wL_ ho_ hb hg_ hnew_
      have n0_ := Aside0.mk (HS.out.step hb)
      have n1_ := Aside0.mk (Kd.R_below HO.out hb)
      clear HS HO hb
      have HS := n0_; have HO := n1_
      clear n0_ n1_
      have HL := Aside0.mk ho_
      clear hg_ hnew_ ho_
      refine hK.out _ _ ⟨(HS.out.cell 3 rfl 0).trans rfl, (HS.out.cell 3 rfl 1).trans rfl, (HS.out.cell 3 rfl 2).trans rfl, (HS.out.cell 3 rfl 3).trans rfl, (HS.out.cell 3 rfl 4).trans rfl, (HS.out.cell 3 rfl 5).trans rfl, (HS.out.cell 3 rfl 6).trans rfl, (HS.out.cell 3 rfl 7).trans rfl⟩ (fun hHeld => ?_)
      clear hK K
      refine norm_ (a' := ?_) ?_ ?_
      rotate_left
      ·show Act.put _ (some 90) _ = _
       simp only [Act.put, zq1, zq2, zq3, i64_w, i32_w]
       rfl
      obtain ⟨Al, cl, rfl⟩ := Kd.R_slice HL.out
      refine one_ (i := 7) (N := some 91) (bm 15 4351) rfl rfl (one_of HT_.out (by kernel_rfl)) (by decide) (fun K hK => ?_)
      refine goes_ Try.func17 (by kernel_rfl) rfl #[.agg #[.int .i64 a0_0, .int .i64 a0_1, .int .i64 a0_2, .int .i64 a0_3, .int .i64 0], .slice Aa acc.length ca, .slice Al ([ka, kb, (-1)] : List Int).length cl] (by rfl) rfl rfl (by (try simp only [List.map_toArray, List.map_cons, List.map_nil]); first | done | rfl) ?_
      with_reducible refine (vitrineref12_Pack.calls k2 a0_0 a0_1 a0_2 a0_3 0 Aa ca acc Al cl ([ka, kb, (-1)] : List Int) p2_ _ (Kd.R_reads' HO.out).2.2 (Kd.R_reads' HO.out).2.1 (Kd.R_reads' HL.out).2.2 (Kd.R_reads' HL.out).2.1 HP2.out).mono ?_
      rintro e w_ ⟨rfl, hb⟩
      refine ⟨_, rfl, ?_⟩
      clear HL
      have n0_ := Aside0.mk (HS.out.step hb)
      have n1_ := Aside0.mk (Kd.R_below HO.out hb)
      clear HS HO hb
      have HS := n0_; have HO := n1_
      clear n0_ n1_
      refine hK.out _ _ ⟨(HS.out.cell 3 rfl 0).trans rfl, (HS.out.cell 3 rfl 1).trans rfl, (HS.out.cell 3 rfl 2).trans rfl, (HS.out.cell 3 rfl 3).trans rfl, (HS.out.cell 3 rfl 4).trans rfl, (HS.out.cell 3 rfl 5).trans rfl, (HS.out.cell 3 rfl 6).trans rfl, (HS.out.cell 3 rfl 7).trans rfl⟩ (fun hHeld => ?_)
      clear hK K
      refine norm_ (a' := ?_) ?_ ?_
      rotate_left
      ·show Act.put _ (some 91) _ = _
       simp only [Act.put, zq1, zq2, zq3, i64_w, i32_w]
       rfl
      refine one_ (i := 8) (N := some 92) (bm 15 4607) rfl rfl (one_of HT_.out (by kernel_rfl)) (by decide) (fun K hK => ?_)
      refine goes_ Try.func11 (by kernel_rfl) rfl #[.agg #[.int .i64 a0_0, .int .i64 a0_1, .int .i64 a0_2, .int .i64 a0_3, .int .i64 0, .string a0_5, .string a0_6, .bool a0_7], .string p2_] (by rfl) rfl rfl (by (try simp only [List.map_toArray, List.map_cons, List.map_nil]); first | done | rfl) ?_
      with_reducible refine (pixel_Image.calls k2 a0_0 a0_1 a0_2 a0_3 0 a0_5 a0_6 a0_7 p2_ W2_ h2_ s2_ e2_ _ HI2.out).mono ?_
      rintro e w_ ⟨rfl, hb⟩
      refine ⟨_, rfl, ?_⟩
      have n0_ := Aside0.mk (HS.out.step hb)
      have n1_ := Aside0.mk (Kd.R_below HO.out hb)
      clear HS HO hb
      have HS := n0_; have HO := n1_
      clear n0_ n1_
      refine hK.out _ _ ⟨(HS.out.cell 3 rfl 0).trans rfl, (HS.out.cell 3 rfl 1).trans rfl, (HS.out.cell 3 rfl 2).trans rfl, (HS.out.cell 3 rfl 3).trans rfl, (HS.out.cell 3 rfl 4).trans rfl, (HS.out.cell 3 rfl 5).trans rfl, (HS.out.cell 3 rfl 6).trans rfl, (HS.out.cell 3 rfl 7).trans rfl⟩ (fun hHeld => ?_)
      clear hK K
      refine norm_ (a' := ?_) ?_ ?_
      rotate_left
      ·show Act.put _ (some 92) _ = _
       simp only [Act.put, zq1, zq2, zq3, i64_w, i32_w]
       rfl
      refine zp 9 83 (bm 15 5119) ?_
      refine zp 10 93 (bm 15 6143) ?_
      refine zp 11 94 (bm 15 8191) ?_
      exact norm_ (by first | (simp only [putAll, Act.put, List.setIfInBounds_toArray, List.set_cons_zero, List.set_cons_succ]; done) | (simp only [putAll, Act.put, List.setIfInBounds_toArray, List.set_cons_zero, List.set_cons_succ]; rfl)) (hJ (_, g13) _ ⟨hHeld, HS.out, HO.out⟩)
    rintro ⟨v_, g13⟩ wj ⟨hHeld, hS_, hO_⟩
    have n0_ : Aside0 (Sv w [(g13, #[.int .i64 0, .int .i64 0, .string (⟨#[]⟩ : ByteArray)], 23), (g12, #[.int .i64 W1_, .int .i64 h1_, .string s1_], 23), (gk, (#[.int .i64 a2_0, .int .i64 a2_1] : Array Value), 38), (gs, SHC (⟨a0_0, a0_1, a0_2, a0_3, 0, a0_5, a0_6, a0_7⟩ : PSh), 31)] wj) := ⟨hS_⟩
    have n1_ := Aside0.mk hO_
    clear HS HO hS_ hO_
    have HS := n0_
    have HO := n1_
    clear n0_ n1_
    refine norm_ (a' := ?_) ?_ ?_
    rotate_left
    ·simp only [putAll, Act.put, List.setIfInBounds_toArray, List.set_cons_zero, List.set_cons_succ]
     rfl
    refine one_ (i := 13) (N := none) (bm 15 16383) rfl rfl (one_of HT_.out (by kernel_rfl)) (by decide) (fun K hK => ?_)
    have c0 := (HS.out.cell 0 rfl 0).trans (show (#[.int .i64 0, .int .i64 0, .string (⟨#[]⟩ : ByteArray)] : Array Value)[0]? = some (.int .i64 0) from rfl)
    have f0 := HS.out.fz 0 rfl 0
    have c1 := (HS.out.cell 0 rfl 1).trans (show (#[.int .i64 0, .int .i64 0, .string (⟨#[]⟩ : ByteArray)] : Array Value)[1]? = some (.int .i64 0) from rfl)
    have f1 := HS.out.fz 0 rfl 1
    have c2 := (HS.out.cell 0 rfl 2).trans (show (#[.int .i64 0, .int .i64 0, .string (⟨#[]⟩ : ByteArray)] : Array Value)[2]? = some (.string (⟨#[]⟩ : ByteArray)) from rfl)
    have f2 := HS.out.fz 0 rfl 2
    refine skip_ (w1 := ?_) (by rfl) rfl ?_ ?_
    rotate_left
    ·go_simp
     rfl
    have n0_ : Aside0 (Sv w [(g13, #[.int .i64 W2_, .int .i64 h2_, .string s2_], 23), (g12, #[.int .i64 W1_, .int .i64 h1_, .string s1_], 23), (gk, (#[.int .i64 a2_0, .int .i64 a2_1] : Array Value), 38), (gs, SHC (⟨a0_0, a0_1, a0_2, a0_3, 0, a0_5, a0_6, a0_7⟩ : PSh), 31)] (World.setCell (World.setCell (World.setCell wj ⟨g13, 0, none⟩ (.int .i64 W2_)) ⟨g13, 1, none⟩ (.int .i64 h2_)) ⟨g13, 2, none⟩ (.string s2_))) := ⟨(Sv.set (Sv.set (Sv.set HS.out 0 rfl 0 (.int .i64 W2_)) 0 rfl 1 (.int .i64 h2_)) 0 rfl 2 (.string s2_))⟩
    have n1_ := Aside0.mk (Sv.keeps (Sv.set (Sv.set HS.out 0 rfl 0 (.int .i64 W2_)) 0 rfl 1 (.int .i64 h2_)) 0 rfl (ps_int (by decide)) (Sv.keeps (Sv.set HS.out 0 rfl 0 (.int .i64 W2_)) 0 rfl (ps_int (by decide)) (Sv.keeps HS.out 0 rfl (ps_int (by decide)) HO.out 0 (.int .i64 W2_)) 1 (.int .i64 h2_)) 2 (.string s2_))
    clear HS HO c0 c1 c2 f0 f1 f2
    have HS := n0_
    have HO := n1_
    clear n0_ n1_
    generalize (World.setCell (World.setCell (World.setCell wj ⟨g13, 0, none⟩ (.int .i64 W2_)) ⟨g13, 1, none⟩ (.int .i64 h2_)) ⟨g13, 2, none⟩ (.string s2_)) = w13b at HS HO ⊢
    refine hK.out _ _ ⟨(HS.out.cell 3 rfl 0).trans rfl, (HS.out.cell 3 rfl 1).trans rfl, (HS.out.cell 3 rfl 2).trans rfl, (HS.out.cell 3 rfl 3).trans rfl, (HS.out.cell 3 rfl 4).trans rfl, (HS.out.cell 3 rfl 5).trans rfl, (HS.out.cell 3 rfl 6).trans rfl, (HS.out.cell 3 rfl 7).trans rfl⟩ (fun hHeld => ?_)
    clear hK K
    refine zp 14 15 (bm 15 32767) ?_
    refine done_ (done_of HT_.out (by kernel_rfl)) ?_
    clear HT_ HW_ hHeld
    have c4 := (HS.out.cell 3 rfl 4).trans (show (SHC (⟨a0_0, a0_1, a0_2, a0_3, 0, a0_5, a0_6, a0_7⟩ : PSh) : Array Value)[4]? = some (.int .i64 0) from rfl)
    have f4 := HS.out.fz 3 rfl 4
    go_upto_region 15 with (fail)
    have n0_ : Aside0 (Sv w [(g13, #[.int .i64 W2_, .int .i64 h2_, .string s2_], 23), (g12, #[.int .i64 W1_, .int .i64 h1_, .string s1_], 23), (gk, (#[.int .i64 a2_0, .int .i64 a2_1] : Array Value), 38), (gs, SHC (⟨a0_0, a0_1, a0_2, a0_3, 1, a0_5, a0_6, a0_7⟩ : PSh), 31)] (w13b.setCell ⟨gs, 4, none⟩ (.int .i64 1))) := ⟨HS.out.set 3 rfl 4 (.int .i64 1)⟩
    have n1_ := Aside0.mk (Sv.keeps HS.out 3 rfl (ps_int (by decide)) HO.out 4 (.int .i64 1))
    clear HS HO c4 f4
    have HS := n0_
    have HO := n1_
    clear n0_ n1_
    generalize w13b.setCell ⟨gs, 4, none⟩ (.int .i64 1) = w14 at HS HO ⊢
    have n1_ := Aside0.mk (Kd.R_drew HO.out)
    clear HO
    have HO := n1_
    clear n1_
    have n0_ := Aside0.mk HS.out.drew
    clear HS
    have HS := n0_
    clear n0_
    refine start_ (n := 15) (S := fun w' => w'.cell? ⟨gs, 0, none⟩ = some (.int .i64 a0_0) ∧ w'.cell? ⟨gs, 1, none⟩ = some (.int .i64 a0_1) ∧ w'.cell? ⟨gs, 2, none⟩ = some (.int .i64 a0_2) ∧ w'.cell? ⟨gs, 3, none⟩ = some (.int .i64 a0_3) ∧ w'.cell? ⟨gs, 4, none⟩ = some (.int .i64 1) ∧ w'.cell? ⟨gs, 5, none⟩ = some (.string a0_5) ∧ w'.cell? ⟨gs, 6, none⟩ = some (.string a0_6) ∧ w'.cell? ⟨gs, 7, none⟩ = some (.bool a0_7)) (ds := []) (bm 15 0) (by kernel_rfl) rfl rfl ⟨(HS.out.cell 3 rfl 0).trans rfl, (HS.out.cell 3 rfl 1).trans rfl, (HS.out.cell 3 rfl 2).trans rfl, (HS.out.cell 3 rfl 3).trans rfl, (HS.out.cell 3 rfl 4).trans rfl, (HS.out.cell 3 rfl 5).trans rfl, (HS.out.cell 3 rfl 6).trans rfl, (HS.out.cell 3 rfl 7).trans rfl⟩ (fun hHeld => ?_)
    refine with_tabW vitrinelaw12_PixelSame.tab15 vitrinelaw12_PixelSame.bits15 (fun HT_ HW_ => ?_)
    generalize World.drew _ = w15a at HS HO hHeld ⊢
    refine zt 0 98 (bm 15 1) rfl (by rintro w' ⟨s0_, s1_, s2_, s3_, s4_, s5_, s6_, s7_⟩; go_simp; with_reducible rfl) ?_
    refine zp 1 99 (bm 15 3) ?_
    refine zt 2 100 (bm 15 7) rfl (by rintro w' ⟨s0_, s1_, s2_, s3_, s4_, s5_, s6_, s7_⟩; go_simp; with_reducible rfl) ?_
    refine zp 3 101 (bm 15 15) ?_
    refine zp 4 102 (bm 15 31) ?_
    refine zp 5 103 (bm 15 63) ?_
    refine join_ (σ := Value × Nat) 2 (bm 15 8191) (fun s_ => [(104, s_.1), (105, .string p3_), (106, .tuple #[.agg #[.int .i64 W3_, .int .i64 h3_, .string s3_], .int .i64 e3_]), (16, .pointer (some ⟨s_.2, 0, none⟩)), (97, .tuple #[.agg #[.int .i64 W3_, .int .i64 h3_, .string s3_], .int .i64 e3_]), (107, .agg #[.int .i64 W3_, .int .i64 h3_, .string s3_]), (108, .int .i64 e3_)]) (fun s_ w' => (w'.cell? ⟨gs, 0, none⟩ = some (.int .i64 a0_0) ∧ w'.cell? ⟨gs, 1, none⟩ = some (.int .i64 a0_1) ∧ w'.cell? ⟨gs, 2, none⟩ = some (.int .i64 a0_2) ∧ w'.cell? ⟨gs, 3, none⟩ = some (.int .i64 a0_3) ∧ w'.cell? ⟨gs, 4, none⟩ = some (.int .i64 1) ∧ w'.cell? ⟨gs, 5, none⟩ = some (.string a0_5) ∧ w'.cell? ⟨gs, 6, none⟩ = some (.string a0_6) ∧ w'.cell? ⟨gs, 7, none⟩ = some (.bool a0_7)) ∧ Sv w [(s_.2, #[.int .i64 0, .int .i64 0, .string (⟨#[]⟩ : ByteArray)], 23), (g13, #[.int .i64 W2_, .int .i64 h2_, .string s2_], 23), (g12, #[.int .i64 W1_, .int .i64 h1_, .string s1_], 23), (gk, (#[.int .i64 a2_0, .int .i64 a2_1] : Array Value), 38), (gs, SHC (⟨a0_0, a0_1, a0_2, a0_3, 1, a0_5, a0_6, a0_7⟩ : PSh), 31)] w' ∧ Kd.R (Kd.int .i64) 3 w' w.heap.size (fun _ => True) (.slice Aa acc.length ca) acc) ?_ ?_
    rotate_left
    ·intro hJ
     refine two_ (i := 6) (j := 12) (Ni := some 104) (Nj := some 16) (bm 15 127) (bm 15 4159) rfl rfl rfl rfl (two_of HT_.out (by kernel_rfl)) (by decide) (by decide) (fun K hK => ?_) (fun K hK => ?_)
     ·skip
      refine Kd.R_lit_step (Kd.int .i64) _ 3 ?hg (N := 104) ?hd (xs := ([kb, ka] : List Int)) (inner := [.int .i64 kb, .int .i64 ka]) (ok := fun _ => True) (okp := fun _ => True) ?hr ?hp (fun _ hk => hk) trivial (Below.refl _ _) (Nat.le_refl _) (by simp) ?_; (case hd => rfl); (case hg => rfl); (case hr => first | (go_simp; done) | (go_simp; rfl)); (case hp => exact Reps.one (show Kd.M (Kd.int .i64) _ _ _ kb [.int .i64 kb] from rfl) (Reps.one (show Kd.M (Kd.int .i64) _ _ _ ka [.int .i64 ka] from rfl) (Reps.none _ _)))
      intro vL_ wL_ ho_ hb hg_ hnew_
      have n0_ := Aside0.mk (HS.out.step hb)
      have n1_ := Aside0.mk (Kd.R_below HO.out hb)
      clear HS HO hb
      have HS := n0_; have HO := n1_
      clear n0_ n1_
      have HL := Aside0.mk ho_
      clear hg_ hnew_ ho_
      refine hK.out _ _ ⟨(HS.out.cell 3 rfl 0).trans rfl, (HS.out.cell 3 rfl 1).trans rfl, (HS.out.cell 3 rfl 2).trans rfl, (HS.out.cell 3 rfl 3).trans rfl, (HS.out.cell 3 rfl 4).trans rfl, (HS.out.cell 3 rfl 5).trans rfl, (HS.out.cell 3 rfl 6).trans rfl, (HS.out.cell 3 rfl 7).trans rfl⟩ (fun hHeld => ?_)
      clear hK K
      refine norm_ (a' := ?_) ?_ ?_
      rotate_left
      ·show Act.put _ (some 104) _ = _
       simp only [Act.put, zq1, zq2, zq3, i64_w, i32_w]
       rfl
      obtain ⟨Al, cl, rfl⟩ := Kd.R_slice HL.out
      refine two_ (i := 7) (j := 12) (Ni := some 105) (Nj := some 16) (bm 15 255) (bm 15 4223) rfl rfl rfl rfl (two_of HT_.out (by kernel_rfl)) (by decide) (by decide) (fun K hK => ?_) (fun K hK => ?_)
      ·skip
       refine goes_ Try.func17 (by kernel_rfl) rfl #[.agg #[.int .i64 a0_0, .int .i64 a0_1, .int .i64 a0_2, .int .i64 a0_3, .int .i64 1], .slice Aa acc.length ca, .slice Al ([kb, ka] : List Int).length cl] (by rfl) rfl rfl (by (try simp only [List.map_toArray, List.map_cons, List.map_nil]); first | done | rfl) ?_
       with_reducible refine (vitrineref12_Pack.calls k2 a0_0 a0_1 a0_2 a0_3 1 Aa ca acc Al cl ([kb, ka] : List Int) p3_ _ (Kd.R_reads' HO.out).2.2 (Kd.R_reads' HO.out).2.1 (Kd.R_reads' HL.out).2.2 (Kd.R_reads' HL.out).2.1 HP3.out).mono ?_
       rintro e w_ ⟨rfl, hb⟩
       refine ⟨_, rfl, ?_⟩
       clear HL
       have n0_ := Aside0.mk (HS.out.step hb)
       have n1_ := Aside0.mk (Kd.R_below HO.out hb)
       clear HS HO hb
       have HS := n0_; have HO := n1_
       clear n0_ n1_
       refine hK.out _ _ ⟨(HS.out.cell 3 rfl 0).trans rfl, (HS.out.cell 3 rfl 1).trans rfl, (HS.out.cell 3 rfl 2).trans rfl, (HS.out.cell 3 rfl 3).trans rfl, (HS.out.cell 3 rfl 4).trans rfl, (HS.out.cell 3 rfl 5).trans rfl, (HS.out.cell 3 rfl 6).trans rfl, (HS.out.cell 3 rfl 7).trans rfl⟩ (fun hHeld => ?_)
       clear hK K
       refine norm_ (a' := ?_) ?_ ?_
       rotate_left
       ·show Act.put _ (some 105) _ = _
        simp only [Act.put, zq1, zq2, zq3, i64_w, i32_w]
        rfl
       refine two_ (i := 8) (j := 12) (Ni := some 106) (Nj := some 16) (bm 15 511) (bm 15 4351) rfl rfl rfl rfl (two_of HT_.out (by kernel_rfl)) (by decide) (by decide) (fun K hK => ?_) (fun K hK => ?_)
       ·skip
        refine goes_ Try.func11 (by kernel_rfl) rfl #[.agg #[.int .i64 a0_0, .int .i64 a0_1, .int .i64 a0_2, .int .i64 a0_3, .int .i64 1, .string a0_5, .string a0_6, .bool a0_7], .string p3_] (by rfl) rfl rfl (by (try simp only [List.map_toArray, List.map_cons, List.map_nil]); first | done | rfl) ?_
        with_reducible refine (pixel_Image.calls k2 a0_0 a0_1 a0_2 a0_3 1 a0_5 a0_6 a0_7 p3_ W3_ h3_ s3_ e3_ _ HI3.out).mono ?_
        rintro e w_ ⟨rfl, hb⟩
        refine ⟨_, rfl, ?_⟩
        have n0_ := Aside0.mk (HS.out.step hb)
        have n1_ := Aside0.mk (Kd.R_below HO.out hb)
        clear HS HO hb
        have HS := n0_; have HO := n1_
        clear n0_ n1_
        refine hK.out _ _ ⟨(HS.out.cell 3 rfl 0).trans rfl, (HS.out.cell 3 rfl 1).trans rfl, (HS.out.cell 3 rfl 2).trans rfl, (HS.out.cell 3 rfl 3).trans rfl, (HS.out.cell 3 rfl 4).trans rfl, (HS.out.cell 3 rfl 5).trans rfl, (HS.out.cell 3 rfl 6).trans rfl, (HS.out.cell 3 rfl 7).trans rfl⟩ (fun hHeld => ?_)
        clear hK K
        refine norm_ (a' := ?_) ?_ ?_
        rotate_left
        ·show Act.put _ (some 106) _ = _
         simp only [Act.put, zq1, zq2, zq3, i64_w, i32_w]
         rfl
        refine zp 9 97 (bm 15 1023) ?_
        refine zp 10 107 (bm 15 2047) ?_
        refine zp 11 108 (bm 15 4095) ?_
        refine one_ (i := 12) (N := some 16) (bm 15 8191) rfl rfl (one_of HT_.out (by kernel_rfl)) (by decide) (fun K hK => ?_)
        refine box_step (by rfl) (N := 16) rfl (cs := #[.int .i64 0, .int .i64 0, .string (⟨#[]⟩ : ByteArray)]) (t := 23) (by first | (go_simp; done) | (go_simp; rfl)) ?_
        intro g15 hg wa_ hbox hb
        have n0_ := Aside0.mk (HS.out.box hb hg hbox)
        have n1_ := Aside0.mk (Kd.R_below HO.out hb)
        clear HS HO hb hg hbox
        have HS := n0_; have HO := n1_
        clear n0_ n1_
        refine hK.out _ _ ⟨(HS.out.cell 4 rfl 0).trans rfl, (HS.out.cell 4 rfl 1).trans rfl, (HS.out.cell 4 rfl 2).trans rfl, (HS.out.cell 4 rfl 3).trans rfl, (HS.out.cell 4 rfl 4).trans rfl, (HS.out.cell 4 rfl 5).trans rfl, (HS.out.cell 4 rfl 6).trans rfl, (HS.out.cell 4 rfl 7).trans rfl⟩ (fun hHeld => ?_)
        clear hK K
        refine norm_ (a' := ?_) ?_ ?_
        rotate_left
        ·show Act.put _ (some 16) _ = _
         simp only [Act.put, zq1, zq2, zq3, i64_w, i32_w]
         rfl
        exact norm_ (by first | (simp only [putAll, Act.put, List.setIfInBounds_toArray, List.set_cons_zero, List.set_cons_succ]; done) | (simp only [putAll, Act.put, List.setIfInBounds_toArray, List.set_cons_zero, List.set_cons_succ]; rfl)) (hJ (_, g15) _ ⟨hHeld, HS.out, HO.out⟩)
       ·skip
        refine box_step (by rfl) (N := 16) rfl (cs := #[.int .i64 0, .int .i64 0, .string (⟨#[]⟩ : ByteArray)]) (t := 23) (by first | (go_simp; done) | (go_simp; rfl)) ?_
        intro g15 hg wa_ hbox hb
        have n0_ := Aside0.mk (HS.out.box hb hg hbox)
        have n1_ := Aside0.mk (Kd.R_below HO.out hb)
        clear HS HO hb hg hbox
        have HS := n0_; have HO := n1_
        clear n0_ n1_
        refine hK.out _ _ ⟨(HS.out.cell 4 rfl 0).trans rfl, (HS.out.cell 4 rfl 1).trans rfl, (HS.out.cell 4 rfl 2).trans rfl, (HS.out.cell 4 rfl 3).trans rfl, (HS.out.cell 4 rfl 4).trans rfl, (HS.out.cell 4 rfl 5).trans rfl, (HS.out.cell 4 rfl 6).trans rfl, (HS.out.cell 4 rfl 7).trans rfl⟩ (fun hHeld => ?_)
        clear hK K
        refine norm_ (a' := ?_) ?_ ?_
        rotate_left
        ·show Act.put _ (some 16) _ = _
         simp only [Act.put, zq1, zq2, zq3, i64_w, i32_w]
         rfl
        refine one_ (i := 8) (N := some 106) (bm 15 4607) rfl rfl (one_of HT_.out (by kernel_rfl)) (by decide) (fun K hK => ?_)
        refine goes_ Try.func11 (by kernel_rfl) rfl #[.agg #[.int .i64 a0_0, .int .i64 a0_1, .int .i64 a0_2, .int .i64 a0_3, .int .i64 1, .string a0_5, .string a0_6, .bool a0_7], .string p3_] (by rfl) rfl rfl (by (try simp only [List.map_toArray, List.map_cons, List.map_nil]); first | done | rfl) ?_
        with_reducible refine (pixel_Image.calls k2 a0_0 a0_1 a0_2 a0_3 1 a0_5 a0_6 a0_7 p3_ W3_ h3_ s3_ e3_ _ HI3.out).mono ?_
        rintro e w_ ⟨rfl, hb⟩
        refine ⟨_, rfl, ?_⟩
        have n0_ := Aside0.mk (HS.out.step hb)
        have n1_ := Aside0.mk (Kd.R_below HO.out hb)
        clear HS HO hb
        have HS := n0_; have HO := n1_
        clear n0_ n1_
        refine hK.out _ _ ⟨(HS.out.cell 4 rfl 0).trans rfl, (HS.out.cell 4 rfl 1).trans rfl, (HS.out.cell 4 rfl 2).trans rfl, (HS.out.cell 4 rfl 3).trans rfl, (HS.out.cell 4 rfl 4).trans rfl, (HS.out.cell 4 rfl 5).trans rfl, (HS.out.cell 4 rfl 6).trans rfl, (HS.out.cell 4 rfl 7).trans rfl⟩ (fun hHeld => ?_)
        clear hK K
        refine norm_ (a' := ?_) ?_ ?_
        rotate_left
        ·show Act.put _ (some 106) _ = _
         simp only [Act.put, zq1, zq2, zq3, i64_w, i32_w]
         rfl
        refine zp 9 97 (bm 15 5119) ?_
        refine zp 10 107 (bm 15 6143) ?_
        refine zp 11 108 (bm 15 8191) ?_
        exact norm_ (by first | (simp only [putAll, Act.put, List.setIfInBounds_toArray, List.set_cons_zero, List.set_cons_succ]; done) | (simp only [putAll, Act.put, List.setIfInBounds_toArray, List.set_cons_zero, List.set_cons_succ]; rfl)) (hJ (_, g15) _ ⟨hHeld, HS.out, HO.out⟩)
      ·skip
       refine box_step (by rfl) (N := 16) rfl (cs := #[.int .i64 0, .int .i64 0, .string (⟨#[]⟩ : ByteArray)]) (t := 23) (by first | (go_simp; done) | (go_simp; rfl)) ?_
       intro g15 hg wa_ hbox hb
       have n0_ := Aside0.mk (HS.out.box hb hg hbox)
       have n1_ := Aside0.mk (Kd.R_below HO.out hb)
       have n2_ := Aside0.mk (Kd.R_below HL.out hb)
       clear HS HO hb hg hbox HL
       have HS := n0_; have HO := n1_; have HL := n2_
       clear n0_ n1_ n2_
       refine hK.out _ _ ⟨(HS.out.cell 4 rfl 0).trans rfl, (HS.out.cell 4 rfl 1).trans rfl, (HS.out.cell 4 rfl 2).trans rfl, (HS.out.cell 4 rfl 3).trans rfl, (HS.out.cell 4 rfl 4).trans rfl, (HS.out.cell 4 rfl 5).trans rfl, (HS.out.cell 4 rfl 6).trans rfl, (HS.out.cell 4 rfl 7).trans rfl⟩ (fun hHeld => ?_)
       clear hK K
       refine norm_ (a' := ?_) ?_ ?_
       rotate_left
       ·show Act.put _ (some 16) _ = _
        simp only [Act.put, zq1, zq2, zq3, i64_w, i32_w]
        rfl
       refine one_ (i := 7) (N := some 105) (bm 15 4351) rfl rfl (one_of HT_.out (by kernel_rfl)) (by decide) (fun K hK => ?_)
       refine goes_ Try.func17 (by kernel_rfl) rfl #[.agg #[.int .i64 a0_0, .int .i64 a0_1, .int .i64 a0_2, .int .i64 a0_3, .int .i64 1], .slice Aa acc.length ca, .slice Al ([kb, ka] : List Int).length cl] (by rfl) rfl rfl (by (try simp only [List.map_toArray, List.map_cons, List.map_nil]); first | done | rfl) ?_
       with_reducible refine (vitrineref12_Pack.calls k2 a0_0 a0_1 a0_2 a0_3 1 Aa ca acc Al cl ([kb, ka] : List Int) p3_ _ (Kd.R_reads' HO.out).2.2 (Kd.R_reads' HO.out).2.1 (Kd.R_reads' HL.out).2.2 (Kd.R_reads' HL.out).2.1 HP3.out).mono ?_
       rintro e w_ ⟨rfl, hb⟩
       refine ⟨_, rfl, ?_⟩
       clear HL
       have n0_ := Aside0.mk (HS.out.step hb)
       have n1_ := Aside0.mk (Kd.R_below HO.out hb)
       clear HS HO hb
       have HS := n0_; have HO := n1_
       clear n0_ n1_
       refine hK.out _ _ ⟨(HS.out.cell 4 rfl 0).trans rfl, (HS.out.cell 4 rfl 1).trans rfl, (HS.out.cell 4 rfl 2).trans rfl, (HS.out.cell 4 rfl 3).trans rfl, (HS.out.cell 4 rfl 4).trans rfl, (HS.out.cell 4 rfl 5).trans rfl, (HS.out.cell 4 rfl 6).trans rfl, (HS.out.cell 4 rfl 7).trans rfl⟩ (fun hHeld => ?_)
       clear hK K
       refine norm_ (a' := ?_) ?_ ?_
       rotate_left
       ·show Act.put _ (some 105) _ = _
        simp only [Act.put, zq1, zq2, zq3, i64_w, i32_w]
        rfl
       refine one_ (i := 8) (N := some 106) (bm 15 4607) rfl rfl (one_of HT_.out (by kernel_rfl)) (by decide) (fun K hK => ?_)
       refine goes_ Try.func11 (by kernel_rfl) rfl #[.agg #[.int .i64 a0_0, .int .i64 a0_1, .int .i64 a0_2, .int .i64 a0_3, .int .i64 1, .string a0_5, .string a0_6, .bool a0_7], .string p3_] (by rfl) rfl rfl (by (try simp only [List.map_toArray, List.map_cons, List.map_nil]); first | done | rfl) ?_
       with_reducible refine (pixel_Image.calls k2 a0_0 a0_1 a0_2 a0_3 1 a0_5 a0_6 a0_7 p3_ W3_ h3_ s3_ e3_ _ HI3.out).mono ?_
       rintro e w_ ⟨rfl, hb⟩
       refine ⟨_, rfl, ?_⟩
       have n0_ := Aside0.mk (HS.out.step hb)
       have n1_ := Aside0.mk (Kd.R_below HO.out hb)
       clear HS HO hb
       have HS := n0_; have HO := n1_
       clear n0_ n1_
       refine hK.out _ _ ⟨(HS.out.cell 4 rfl 0).trans rfl, (HS.out.cell 4 rfl 1).trans rfl, (HS.out.cell 4 rfl 2).trans rfl, (HS.out.cell 4 rfl 3).trans rfl, (HS.out.cell 4 rfl 4).trans rfl, (HS.out.cell 4 rfl 5).trans rfl, (HS.out.cell 4 rfl 6).trans rfl, (HS.out.cell 4 rfl 7).trans rfl⟩ (fun hHeld => ?_)
       clear hK K
       refine norm_ (a' := ?_) ?_ ?_
       rotate_left
       ·show Act.put _ (some 106) _ = _
        simp only [Act.put, zq1, zq2, zq3, i64_w, i32_w]
        rfl
       refine zp 9 97 (bm 15 5119) ?_
       refine zp 10 107 (bm 15 6143) ?_
       refine zp 11 108 (bm 15 8191) ?_
       exact norm_ (by first | (simp only [putAll, Act.put, List.setIfInBounds_toArray, List.set_cons_zero, List.set_cons_succ]; done) | (simp only [putAll, Act.put, List.setIfInBounds_toArray, List.set_cons_zero, List.set_cons_succ]; rfl)) (hJ (_, g15) _ ⟨hHeld, HS.out, HO.out⟩)
     ·skip
      refine box_step (by rfl) (N := 16) rfl (cs := #[.int .i64 0, .int .i64 0, .string (⟨#[]⟩ : ByteArray)]) (t := 23) (by first | (go_simp; done) | (go_simp; rfl)) ?_
      intro g15 hg wa_ hbox hb
      have n0_ := Aside0.mk (HS.out.box hb hg hbox)
      have n1_ := Aside0.mk (Kd.R_below HO.out hb)
      clear HS HO hb hg hbox
      have HS := n0_; have HO := n1_
      clear n0_ n1_
      refine hK.out _ _ ⟨(HS.out.cell 4 rfl 0).trans rfl, (HS.out.cell 4 rfl 1).trans rfl, (HS.out.cell 4 rfl 2).trans rfl, (HS.out.cell 4 rfl 3).trans rfl, (HS.out.cell 4 rfl 4).trans rfl, (HS.out.cell 4 rfl 5).trans rfl, (HS.out.cell 4 rfl 6).trans rfl, (HS.out.cell 4 rfl 7).trans rfl⟩ (fun hHeld => ?_)
      clear hK K
      refine norm_ (a' := ?_) ?_ ?_
      rotate_left
      ·show Act.put _ (some 16) _ = _
       simp only [Act.put, zq1, zq2, zq3, i64_w, i32_w]
       rfl
      refine one_ (i := 6) (N := some 104) (bm 15 4223) rfl rfl (one_of HT_.out (by kernel_rfl)) (by decide) (fun K hK => ?_)
      refine Kd.R_lit_step (Kd.int .i64) _ 3 ?hg (N := 104) ?hd (xs := ([kb, ka] : List Int)) (inner := [.int .i64 kb, .int .i64 ka]) (ok := fun _ => True) (okp := fun _ => True) ?hr ?hp (fun _ hk => hk) trivial (Below.refl _ _) (Nat.le_refl _) (by simp) ?_; (case hd => rfl); (case hg => rfl); (case hr => first | (go_simp; done) | (go_simp; rfl)); (case hp => exact Reps.one (show Kd.M (Kd.int .i64) _ _ _ kb [.int .i64 kb] from rfl) (Reps.one (show Kd.M (Kd.int .i64) _ _ _ ka [.int .i64 ka] from rfl) (Reps.none _ _)))
      intro vL_ wL_ ho_ hb hg_ hnew_
      have n0_ := Aside0.mk (HS.out.step hb)
      have n1_ := Aside0.mk (Kd.R_below HO.out hb)
      clear HS HO hb
      have HS := n0_; have HO := n1_
      clear n0_ n1_
      have HL := Aside0.mk ho_
      clear hg_ hnew_ ho_
      refine hK.out _ _ ⟨(HS.out.cell 4 rfl 0).trans rfl, (HS.out.cell 4 rfl 1).trans rfl, (HS.out.cell 4 rfl 2).trans rfl, (HS.out.cell 4 rfl 3).trans rfl, (HS.out.cell 4 rfl 4).trans rfl, (HS.out.cell 4 rfl 5).trans rfl, (HS.out.cell 4 rfl 6).trans rfl, (HS.out.cell 4 rfl 7).trans rfl⟩ (fun hHeld => ?_)
      clear hK K
      refine norm_ (a' := ?_) ?_ ?_
      rotate_left
      ·show Act.put _ (some 104) _ = _
       simp only [Act.put, zq1, zq2, zq3, i64_w, i32_w]
       rfl
      obtain ⟨Al, cl, rfl⟩ := Kd.R_slice HL.out
      refine one_ (i := 7) (N := some 105) (bm 15 4351) rfl rfl (one_of HT_.out (by kernel_rfl)) (by decide) (fun K hK => ?_)
      refine goes_ Try.func17 (by kernel_rfl) rfl #[.agg #[.int .i64 a0_0, .int .i64 a0_1, .int .i64 a0_2, .int .i64 a0_3, .int .i64 1], .slice Aa acc.length ca, .slice Al ([kb, ka] : List Int).length cl] (by rfl) rfl rfl (by (try simp only [List.map_toArray, List.map_cons, List.map_nil]); first | done | rfl) ?_
      with_reducible refine (vitrineref12_Pack.calls k2 a0_0 a0_1 a0_2 a0_3 1 Aa ca acc Al cl ([kb, ka] : List Int) p3_ _ (Kd.R_reads' HO.out).2.2 (Kd.R_reads' HO.out).2.1 (Kd.R_reads' HL.out).2.2 (Kd.R_reads' HL.out).2.1 HP3.out).mono ?_
      rintro e w_ ⟨rfl, hb⟩
      refine ⟨_, rfl, ?_⟩
      clear HL
      have n0_ := Aside0.mk (HS.out.step hb)
      have n1_ := Aside0.mk (Kd.R_below HO.out hb)
      clear HS HO hb
      have HS := n0_; have HO := n1_
      clear n0_ n1_
      refine hK.out _ _ ⟨(HS.out.cell 4 rfl 0).trans rfl, (HS.out.cell 4 rfl 1).trans rfl, (HS.out.cell 4 rfl 2).trans rfl, (HS.out.cell 4 rfl 3).trans rfl, (HS.out.cell 4 rfl 4).trans rfl, (HS.out.cell 4 rfl 5).trans rfl, (HS.out.cell 4 rfl 6).trans rfl, (HS.out.cell 4 rfl 7).trans rfl⟩ (fun hHeld => ?_)
      clear hK K
      refine norm_ (a' := ?_) ?_ ?_
      rotate_left
      ·show Act.put _ (some 105) _ = _
       simp only [Act.put, zq1, zq2, zq3, i64_w, i32_w]
       rfl
      refine one_ (i := 8) (N := some 106) (bm 15 4607) rfl rfl (one_of HT_.out (by kernel_rfl)) (by decide) (fun K hK => ?_)
      refine goes_ Try.func11 (by kernel_rfl) rfl #[.agg #[.int .i64 a0_0, .int .i64 a0_1, .int .i64 a0_2, .int .i64 a0_3, .int .i64 1, .string a0_5, .string a0_6, .bool a0_7], .string p3_] (by rfl) rfl rfl (by (try simp only [List.map_toArray, List.map_cons, List.map_nil]); first | done | rfl) ?_
      with_reducible refine (pixel_Image.calls k2 a0_0 a0_1 a0_2 a0_3 1 a0_5 a0_6 a0_7 p3_ W3_ h3_ s3_ e3_ _ HI3.out).mono ?_
      rintro e w_ ⟨rfl, hb⟩
      refine ⟨_, rfl, ?_⟩
      have n0_ := Aside0.mk (HS.out.step hb)
      have n1_ := Aside0.mk (Kd.R_below HO.out hb)
      clear HS HO hb
      have HS := n0_; have HO := n1_
      clear n0_ n1_
      refine hK.out _ _ ⟨(HS.out.cell 4 rfl 0).trans rfl, (HS.out.cell 4 rfl 1).trans rfl, (HS.out.cell 4 rfl 2).trans rfl, (HS.out.cell 4 rfl 3).trans rfl, (HS.out.cell 4 rfl 4).trans rfl, (HS.out.cell 4 rfl 5).trans rfl, (HS.out.cell 4 rfl 6).trans rfl, (HS.out.cell 4 rfl 7).trans rfl⟩ (fun hHeld => ?_)
      clear hK K
      refine norm_ (a' := ?_) ?_ ?_
      rotate_left
      ·show Act.put _ (some 106) _ = _
       simp only [Act.put, zq1, zq2, zq3, i64_w, i32_w]
       rfl
      refine zp 9 97 (bm 15 5119) ?_
      refine zp 10 107 (bm 15 6143) ?_
      refine zp 11 108 (bm 15 8191) ?_
      exact norm_ (by first | (simp only [putAll, Act.put, List.setIfInBounds_toArray, List.set_cons_zero, List.set_cons_succ]; done) | (simp only [putAll, Act.put, List.setIfInBounds_toArray, List.set_cons_zero, List.set_cons_succ]; rfl)) (hJ (_, g15) _ ⟨hHeld, HS.out, HO.out⟩)
    rintro ⟨v_, g15⟩ wj ⟨hHeld, hS_, hO_⟩
    have n0_ : Aside0 (Sv w [(g15, #[.int .i64 0, .int .i64 0, .string (⟨#[]⟩ : ByteArray)], 23), (g13, #[.int .i64 W2_, .int .i64 h2_, .string s2_], 23), (g12, #[.int .i64 W1_, .int .i64 h1_, .string s1_], 23), (gk, (#[.int .i64 a2_0, .int .i64 a2_1] : Array Value), 38), (gs, SHC (⟨a0_0, a0_1, a0_2, a0_3, 1, a0_5, a0_6, a0_7⟩ : PSh), 31)] wj) := ⟨hS_⟩
    have n1_ := Aside0.mk hO_
    clear HS HO hS_ hO_
    have HS := n0_
    have HO := n1_
    clear n0_ n1_
    refine norm_ (a' := ?_) ?_ ?_
    rotate_left
    ·simp only [putAll, Act.put, List.setIfInBounds_toArray, List.set_cons_zero, List.set_cons_succ]
     rfl
    refine one_ (i := 13) (N := none) (bm 15 16383) rfl rfl (one_of HT_.out (by kernel_rfl)) (by decide) (fun K hK => ?_)
    have c0 := (HS.out.cell 0 rfl 0).trans (show (#[.int .i64 0, .int .i64 0, .string (⟨#[]⟩ : ByteArray)] : Array Value)[0]? = some (.int .i64 0) from rfl)
    have f0 := HS.out.fz 0 rfl 0
    have c1 := (HS.out.cell 0 rfl 1).trans (show (#[.int .i64 0, .int .i64 0, .string (⟨#[]⟩ : ByteArray)] : Array Value)[1]? = some (.int .i64 0) from rfl)
    have f1 := HS.out.fz 0 rfl 1
    have c2 := (HS.out.cell 0 rfl 2).trans (show (#[.int .i64 0, .int .i64 0, .string (⟨#[]⟩ : ByteArray)] : Array Value)[2]? = some (.string (⟨#[]⟩ : ByteArray)) from rfl)
    have f2 := HS.out.fz 0 rfl 2
    refine skip_ (w1 := ?_) (by rfl) rfl ?_ ?_
    rotate_left
    ·go_simp
     rfl
    have n0_ : Aside0 (Sv w [(g15, #[.int .i64 W3_, .int .i64 h3_, .string s3_], 23), (g13, #[.int .i64 W2_, .int .i64 h2_, .string s2_], 23), (g12, #[.int .i64 W1_, .int .i64 h1_, .string s1_], 23), (gk, (#[.int .i64 a2_0, .int .i64 a2_1] : Array Value), 38), (gs, SHC (⟨a0_0, a0_1, a0_2, a0_3, 1, a0_5, a0_6, a0_7⟩ : PSh), 31)] (World.setCell (World.setCell (World.setCell wj ⟨g15, 0, none⟩ (.int .i64 W3_)) ⟨g15, 1, none⟩ (.int .i64 h3_)) ⟨g15, 2, none⟩ (.string s3_))) := ⟨(Sv.set (Sv.set (Sv.set HS.out 0 rfl 0 (.int .i64 W3_)) 0 rfl 1 (.int .i64 h3_)) 0 rfl 2 (.string s3_))⟩
    have n1_ := Aside0.mk (Sv.keeps (Sv.set (Sv.set HS.out 0 rfl 0 (.int .i64 W3_)) 0 rfl 1 (.int .i64 h3_)) 0 rfl (ps_int (by decide)) (Sv.keeps (Sv.set HS.out 0 rfl 0 (.int .i64 W3_)) 0 rfl (ps_int (by decide)) (Sv.keeps HS.out 0 rfl (ps_int (by decide)) HO.out 0 (.int .i64 W3_)) 1 (.int .i64 h3_)) 2 (.string s3_))
    clear HS HO c0 c1 c2 f0 f1 f2
    have HS := n0_
    have HO := n1_
    clear n0_ n1_
    generalize (World.setCell (World.setCell (World.setCell wj ⟨g15, 0, none⟩ (.int .i64 W3_)) ⟨g15, 1, none⟩ (.int .i64 h3_)) ⟨g15, 2, none⟩ (.string s3_)) = w15b at HS HO ⊢
    refine hK.out _ _ ⟨(HS.out.cell 4 rfl 0).trans rfl, (HS.out.cell 4 rfl 1).trans rfl, (HS.out.cell 4 rfl 2).trans rfl, (HS.out.cell 4 rfl 3).trans rfl, (HS.out.cell 4 rfl 4).trans rfl, (HS.out.cell 4 rfl 5).trans rfl, (HS.out.cell 4 rfl 6).trans rfl, (HS.out.cell 4 rfl 7).trans rfl⟩ (fun hHeld => ?_)
    clear hK K
    refine zp 14 17 (bm 15 32767) ?_
    refine done_ (done_of HT_.out (by kernel_rfl)) ?_
    clear HT_ HW_ hHeld
    clear HO
    have HG := Aside0.mk (show (if e1_ = 0 then (if e2_ = 0 then (if e3_ = 0 then (if (W1_ == W2_ && (h1_ == h2_ && (s1_.toList == s2_.toList))) = true then (if (W1_ == W3_ && (h1_ == h3_ && (s1_.toList == s3_.toList))) = true then ((vitrinelaw12_awake.f k2).bind fun t414 => (some t414)) else (none)) else (none)) else (none)) else (none)) else (if e1_ = 29 then (if a0_3 = 3 then (if e2_ = e1_ then (if e3_ = e1_ then ((vitrinelaw12_awake.f k2).bind fun t415 => (some t415)) else (none)) else (none)) else (none)) else (none))) = some r from HG.out)
    have H := HG.out
    clear HG
    by_cases t0_ : e1_ = 0
    ·rw [if_pos t0_] at H
     by_cases t_ : e2_ = 0
     rotate_left
     ·rw [if_neg t_] at H; cases H
     rw [if_pos t_] at H
     have z2 := t_; clear t_
     by_cases t_ : e3_ = 0
     rotate_left
     ·rw [if_neg t_] at H; cases H
     rw [if_pos t_] at H
     have z3 := t_; clear t_
     by_cases t_ : (W1_ == W2_ && (h1_ == h2_ && (s1_.toList == s2_.toList))) = true
     rotate_left
     ·rw [if_neg t_] at H; cases H
     rw [if_pos t_] at H
     have q4 := t_; clear t_
     by_cases t_ : (W1_ == W3_ && (h1_ == h3_ && (s1_.toList == s3_.toList))) = true
     rotate_left
     ·rw [if_neg t_] at H; cases H
     rw [if_pos t_] at H
     have q5 := t_; clear t_
     have q1 : (e1_ != 0) = false := bne_eq_false_iff_eq.mpr t0_
     have q2 : (e2_ == 0) = true := beq_iff_eq.mpr z2
     have q3 : (e3_ == 0) = true := beq_iff_eq.mpr z3
     clear t0_ z2 z3
     obtain ⟨b_, hb_, hb2_⟩ := Option.bind_eq_some_iff.1 H
     rw [Option.some.inj hb2_] at hb_
     have HAW := Aside0.mk hb_
     clear hb_ hb2_ H
     have v10 := (HS.out.cell 2 rfl 0).trans (show (#[.int .i64 W1_, .int .i64 h1_, .string s1_] : Array Value)[0]? = some (.int .i64 W1_) from rfl)
     have v11 := (HS.out.cell 2 rfl 1).trans (show (#[.int .i64 W1_, .int .i64 h1_, .string s1_] : Array Value)[1]? = some (.int .i64 h1_) from rfl)
     have v12 := (HS.out.cell 2 rfl 2).trans (show (#[.int .i64 W1_, .int .i64 h1_, .string s1_] : Array Value)[2]? = some (.string s1_) from rfl)
     have v20 := (HS.out.cell 1 rfl 0).trans (show (#[.int .i64 W2_, .int .i64 h2_, .string s2_] : Array Value)[0]? = some (.int .i64 W2_) from rfl)
     have v21 := (HS.out.cell 1 rfl 1).trans (show (#[.int .i64 W2_, .int .i64 h2_, .string s2_] : Array Value)[1]? = some (.int .i64 h2_) from rfl)
     have v22 := (HS.out.cell 1 rfl 2).trans (show (#[.int .i64 W2_, .int .i64 h2_, .string s2_] : Array Value)[2]? = some (.string s2_) from rfl)
     have v30 := (HS.out.cell 0 rfl 0).trans (show (#[.int .i64 W3_, .int .i64 h3_, .string s3_] : Array Value)[0]? = some (.int .i64 W3_) from rfl)
     have v31 := (HS.out.cell 0 rfl 1).trans (show (#[.int .i64 W3_, .int .i64 h3_, .string s3_] : Array Value)[1]? = some (.int .i64 h3_) from rfl)
     have v32 := (HS.out.cell 0 rfl 2).trans (show (#[.int .i64 W3_, .int .i64 h3_, .string s3_] : Array Value)[2]? = some (.string s3_) from rfl)
     go_wp2_with (go_at_call 10; (with_reducible refine (vitrinelaw12_awake.calls _ r _ HAW.out).mono ?_); rintro e w_ ⟨rfl, hb⟩; have n0_ := Aside0.mk (HS.out.step hb); clear HS hb; have HS := n0_; clear n0_)
     go_ret
     exact ⟨by first | rfl | (simp; done), HS.out.below⟩
    ·rw [if_neg t0_] at H
     by_cases t_ : e1_ = 29
     rotate_left
     ·rw [if_neg t_] at H; cases H
     rw [if_pos t_] at H
     have z0 := t_; clear t_
     by_cases t_ : a0_3 = 3
     rotate_left
     ·rw [if_neg t_] at H; cases H
     rw [if_pos t_] at H
     have z1 := t_; clear t_
     by_cases t_ : e2_ = e1_
     rotate_left
     ·rw [if_neg t_] at H; cases H
     rw [if_pos t_] at H
     have z2 := t_; clear t_
     by_cases t_ : e3_ = e1_
     rotate_left
     ·rw [if_neg t_] at H; cases H
     rw [if_pos t_] at H
     have z3 := t_; clear t_
     have y3 := (HS.out.cell 4 rfl 3).trans (show (SHC (⟨a0_0, a0_1, a0_2, a0_3, 1, a0_5, a0_6, a0_7⟩ : PSh) : Array Value)[3]? = some (.int .i64 a0_3) from rfl)
     have q1 : (e1_ != 0) = true := bne_iff_ne.mpr t0_
     have q2 : (e1_ == 29) = true := beq_iff_eq.mpr z0
     have q3 : (a0_3 == 3) = true := beq_iff_eq.mpr z1
     have q4 : (e2_ == e1_) = true := beq_iff_eq.mpr z2
     have q5 : (e3_ == e1_) = true := beq_iff_eq.mpr z3
     clear t0_ z0 z1 z2 z3
     obtain ⟨b_, hb_, hb2_⟩ := Option.bind_eq_some_iff.1 H
     rw [Option.some.inj hb2_] at hb_
     have HAW := Aside0.mk hb_
     clear hb_ hb2_ H
     go_wp2_with (go_at_call 10; (with_reducible refine (vitrinelaw12_awake.calls _ r _ HAW.out).mono ?_); rintro e w_ ⟨rfl, hb⟩; have n0_ := Aside0.mk (HS.out.step hb); clear HS hb; have HS := n0_; clear n0_)
     go_ret
     exact ⟨by first | rfl | (simp; done), HS.out.below⟩

end Go.Proofs.Ytejljcglbkjgkaa.PL12
