/- Printed for this claim by a program of this session over the kit's print program: the Go functions as Lean functions, and proofs that the calls come to these answers. No conditions. -/
import Derived.Test.YtejljcglbkjgkaaSH
import Derived.Test.YtejljcglbkjgkaaSPL12x3
import Derived.Test.YtejljcglbkjgkaaSPL12x8
import Derived.Test.YtejljcglbkjgkaaSPL12x10
import Derived.Test.YtejljcglbkjgkaaSPL12x12
import Derived.Test.YtejljcglbkjgkaaSPL12x14
namespace Go.Proofs.Ytejljcglbkjgkaa.PL12
open Go.RowKit Go.Proofs.YtejljcglbkjgkaaW.PrintWords Go.Proofs.YtejljcglbkjgkaaW.PrintLast Go.Proofs.YtejljcglbkjgkaaW.PrintMore
attribute [local go_sem] max2_int min2_int max_two min_two max_three min_three max_four min_four   -- for this text's walks alone
set_option linter.unusedVariables false
set_option linter.unusedSimpArgs false

mutual
def samples_Pixel.j0 : Nat → List Int → Int → Bool → Int → Int → Int → Int → Int → ByteArray → ByteArray → Bool → Option (ByteArray × Int)
 | 0, _, _, _, _, _, _, _, _, _, _, _ => none
 | k + 1, x1, x6, x34, x188000, x188001, x188002, x188003, x188004, x188005, x188006, x188007 => if x34 = true then (some ((⟨#[]⟩ : ByteArray), 1)) else (if x188003 = 3 then (if 0 < (x1.length : Int) then ((samples_listed.f k x188000 x188001 x188002 x188003 x188004 x188005 x188006 x188007 (rd x1 0)).bind fun bt192 => (some (bt192.1, bt192.2))) else (none)) else (samples_Pixel.l0 k x1 x6 ([] : List Int) x1 (x1.length : Int) 0 x188000 x188001 x188002 x188003 x188004 x188005 x188006 x188007))
def samples_Pixel.l0 : Nat → List Int → Int → List Int → List Int → Int → Int → Int → Int → Int → Int → Int → ByteArray → ByteArray → Bool → Option (ByteArray × Int)
 | 0, _, _, _, _, _, _, _, _, _, _, _, _, _, _ => none
 | k + 1, x1, x6, x7, x46, x47, x48, x188000, x188001, x188002, x188003, x188004, x188005, x188006, x188007 => if x48 < x47 then (if 0 ≤ x48 then (if x48 < (x46.length : Int) then ((samples_Wide.f k (rd x46 x48) x188002).bind fun t195 => (if x7.length < 17592186044416 then (samples_Pixel.l0 k x1 x6 (x7 ++ [t195]) x46 x47 (wrap64 (x48 + 1)) x188000 x188001 x188002 x188003 x188004 x188005 x188006 x188007) else (none))) else (none)) else (none)) else (if (Int.tmod x6 2) = 0 then (if 0 ≤ (wrap64 (x6 - 1)) then (if (wrap64 (x6 - 1)) < (x7.length : Int) then (samples_Pixel.j2 k x6 x7 (rd x7 (wrap64 (x6 - 1)))) else (none)) else (none)) else ((samples_glassy.f k x188000 x188001 x188002 x188003 x188004 x188005 x188006 x188007 x1).bind fun t200 => (if t200 = true then (samples_Pixel.j2 k x6 x7 0) else (samples_Pixel.j2 k x6 x7 65535))))
def samples_Pixel.j2 : Nat → Int → List Int → Int → Option (ByteArray × Int)
 | 0, _, _, _ => none
 | k + 1, x6, x7, x10 => if x6 < 3 then (if 0 < (x7.length : Int) then ((samples_pairs.f k (([rd x7 0, rd x7 0, rd x7 0, x10] : List Int))).bind fun t207 => (some (t207, 0))) else (none)) else (if 0 < (x7.length : Int) then (if 1 < (x7.length : Int) then (if 2 < (x7.length : Int) then ((samples_pairs.f k (([rd x7 0, rd x7 1, rd x7 2, x10] : List Int))).bind fun t214 => (some (t214, 0))) else (none)) else (none)) else (none))
end
def samples_Pixel.f (k : Nat) (a0_0 : Int) (a0_1 : Int) (a0_2 : Int) (a0_3 : Int) (a0_4 : Int) (a0_5 : ByteArray) (a0_6 : ByteArray) (a0_7 : Bool) (l1 : List Int) : Option (ByteArray × Int) := (head_Samples.f k a0_3).bind fun t188 => (if t188 = 0 then (samples_Pixel.j0 k l1 t188 true a0_0 a0_1 a0_2 a0_3 a0_4 a0_5 a0_6 a0_7) else (if (l1.length : Int) = t188 then ((samples_known.f k a0_2).bind fun t189 => (if t189 = true then ((slices_ContainsFunc_int_int.f k l1 a0_0 a0_1 a0_2 a0_3 a0_4 a0_5 a0_6 a0_7).bind fun t190 => (samples_Pixel.j0 k l1 t188 t190 a0_0 a0_1 a0_2 a0_3 a0_4 a0_5 a0_6 a0_7)) else (samples_Pixel.j0 k l1 t188 true a0_0 a0_1 a0_2 a0_3 a0_4 a0_5 a0_6 a0_7))) else (samples_Pixel.j0 k l1 t188 true a0_0 a0_1 a0_2 a0_3 a0_4 a0_5 a0_6 a0_7)))
theorem samples_Pixel.mono_l : ∀ k, (∀ y0 y1 y2 y3 y4 y5 y6 y7 y8 y9 y10, LeO (samples_Pixel.j0 k y0 y1 y2 y3 y4 y5 y6 y7 y8 y9 y10) (samples_Pixel.j0 (k + 1) y0 y1 y2 y3 y4 y5 y6 y7 y8 y9 y10)) ∧ (∀ y0 y1 y2 y3 y4 y5 y6 y7 y8 y9 y10 y11 y12 y13, LeO (samples_Pixel.l0 k y0 y1 y2 y3 y4 y5 y6 y7 y8 y9 y10 y11 y12 y13) (samples_Pixel.l0 (k + 1) y0 y1 y2 y3 y4 y5 y6 y7 y8 y9 y10 y11 y12 y13)) ∧ (∀ y0 y1 y2, LeO (samples_Pixel.j2 k y0 y1 y2) (samples_Pixel.j2 (k + 1) y0 y1 y2))
 | 0 => ⟨fun _ _ _ _ _ _ _ _ _ _ _ r h => by simp [samples_Pixel.j0] at h, fun _ _ _ _ _ _ _ _ _ _ _ _ _ _ r h => by simp [samples_Pixel.l0] at h, fun _ _ _ r h => by simp [samples_Pixel.j2] at h⟩
 | k + 1 => by
  obtain ⟨ih0, ih1, ih2⟩ := samples_Pixel.mono_l k
  refine ⟨?_, ?_, ?_⟩
  ·intro y0 y1 y2 y3 y4 y5 y6 y7 y8 y9 y10
   unfold samples_Pixel.j0
   repeat' first
   | (with_reducible exact ih0 _ _ _ _ _ _ _ _ _ _ _)
   | (with_reducible exact ih1 _ _ _ _ _ _ _ _ _ _ _ _ _ _)
   | (with_reducible exact ih2 _ _ _)
   | (with_reducible exact head_Samples.mono _ _)
   | (with_reducible exact samples_Wide.mono _ _ _)
   | (with_reducible exact samples_glassy.mono _ _ _ _ _ _ _ _ _ _)
   | (with_reducible exact samples_known.mono _ _)
   | (with_reducible exact samples_listed.mono _ _ _ _ _ _ _ _ _ _)
   | (with_reducible exact samples_pairs.mono _ _)
   | (with_reducible exact slices_ContainsFunc_int_int.mono _ _ _ _ _ _ _ _ _ _)
   | (with_reducible exact LeO.refl _)
   | (with_reducible exact LeO.none _)
   | (with_reducible refine LeO.ite ?_ ?_)
   | (with_reducible refine LeO.bind ?_ (fun _ => ?_))
   | exact ih0 _ _ _ _ _ _ _ _ _ _ _
   | exact ih1 _ _ _ _ _ _ _ _ _ _ _ _ _ _
   | exact ih2 _ _ _
   | exact head_Samples.mono _ _
   | exact samples_Wide.mono _ _ _
   | exact samples_glassy.mono _ _ _ _ _ _ _ _ _ _
   | exact samples_known.mono _ _
   | exact samples_listed.mono _ _ _ _ _ _ _ _ _ _
   | exact samples_pairs.mono _ _
   | exact slices_ContainsFunc_int_int.mono _ _ _ _ _ _ _ _ _ _
   | exact LeO.none _
   | refine LeO.ite ?_ ?_
   | refine LeO.bind ?_ (fun _ => ?_)
  ·intro y0 y1 y2 y3 y4 y5 y6 y7 y8 y9 y10 y11 y12 y13
   unfold samples_Pixel.l0
   repeat' first
   | (with_reducible exact ih0 _ _ _ _ _ _ _ _ _ _ _)
   | (with_reducible exact ih1 _ _ _ _ _ _ _ _ _ _ _ _ _ _)
   | (with_reducible exact ih2 _ _ _)
   | (with_reducible exact head_Samples.mono _ _)
   | (with_reducible exact samples_Wide.mono _ _ _)
   | (with_reducible exact samples_glassy.mono _ _ _ _ _ _ _ _ _ _)
   | (with_reducible exact samples_known.mono _ _)
   | (with_reducible exact samples_listed.mono _ _ _ _ _ _ _ _ _ _)
   | (with_reducible exact samples_pairs.mono _ _)
   | (with_reducible exact slices_ContainsFunc_int_int.mono _ _ _ _ _ _ _ _ _ _)
   | (with_reducible exact LeO.refl _)
   | (with_reducible exact LeO.none _)
   | (with_reducible refine LeO.ite ?_ ?_)
   | (with_reducible refine LeO.bind ?_ (fun _ => ?_))
   | exact ih0 _ _ _ _ _ _ _ _ _ _ _
   | exact ih1 _ _ _ _ _ _ _ _ _ _ _ _ _ _
   | exact ih2 _ _ _
   | exact head_Samples.mono _ _
   | exact samples_Wide.mono _ _ _
   | exact samples_glassy.mono _ _ _ _ _ _ _ _ _ _
   | exact samples_known.mono _ _
   | exact samples_listed.mono _ _ _ _ _ _ _ _ _ _
   | exact samples_pairs.mono _ _
   | exact slices_ContainsFunc_int_int.mono _ _ _ _ _ _ _ _ _ _
   | exact LeO.none _
   | refine LeO.ite ?_ ?_
   | refine LeO.bind ?_ (fun _ => ?_)
  ·intro y0 y1 y2
   unfold samples_Pixel.j2
   repeat' first
   | (with_reducible exact ih0 _ _ _ _ _ _ _ _ _ _ _)
   | (with_reducible exact ih1 _ _ _ _ _ _ _ _ _ _ _ _ _ _)
   | (with_reducible exact ih2 _ _ _)
   | (with_reducible exact head_Samples.mono _ _)
   | (with_reducible exact samples_Wide.mono _ _ _)
   | (with_reducible exact samples_glassy.mono _ _ _ _ _ _ _ _ _ _)
   | (with_reducible exact samples_known.mono _ _)
   | (with_reducible exact samples_listed.mono _ _ _ _ _ _ _ _ _ _)
   | (with_reducible exact samples_pairs.mono _ _)
   | (with_reducible exact slices_ContainsFunc_int_int.mono _ _ _ _ _ _ _ _ _ _)
   | (with_reducible exact LeO.refl _)
   | (with_reducible exact LeO.none _)
   | (with_reducible refine LeO.ite ?_ ?_)
   | (with_reducible refine LeO.bind ?_ (fun _ => ?_))
   | exact ih0 _ _ _ _ _ _ _ _ _ _ _
   | exact ih1 _ _ _ _ _ _ _ _ _ _ _ _ _ _
   | exact ih2 _ _ _
   | exact head_Samples.mono _ _
   | exact samples_Wide.mono _ _ _
   | exact samples_glassy.mono _ _ _ _ _ _ _ _ _ _
   | exact samples_known.mono _ _
   | exact samples_listed.mono _ _ _ _ _ _ _ _ _ _
   | exact samples_pairs.mono _ _
   | exact slices_ContainsFunc_int_int.mono _ _ _ _ _ _ _ _ _ _
   | exact LeO.none _
   | refine LeO.ite ?_ ?_
   | refine LeO.bind ?_ (fun _ => ?_)
theorem samples_Pixel.mono : ∀ a0 a1 a2 a3 a4 a5 a6 a7 a8 k, LeO (samples_Pixel.f k a0 a1 a2 a3 a4 a5 a6 a7 a8) (samples_Pixel.f (k + 1) a0 a1 a2 a3 a4 a5 a6 a7 a8) := by
 intro a0 a1 a2 a3 a4 a5 a6 a7 a8 k
 obtain ⟨ih0, ih1, ih2⟩ := samples_Pixel.mono_l k
 unfold samples_Pixel.f
 repeat' first
   | (with_reducible exact ih0 _ _ _ _ _ _ _ _ _ _ _)
   | (with_reducible exact ih1 _ _ _ _ _ _ _ _ _ _ _ _ _ _)
   | (with_reducible exact ih2 _ _ _)
   | (with_reducible exact head_Samples.mono _ _)
   | (with_reducible exact samples_Wide.mono _ _ _)
   | (with_reducible exact samples_glassy.mono _ _ _ _ _ _ _ _ _ _)
   | (with_reducible exact samples_known.mono _ _)
   | (with_reducible exact samples_listed.mono _ _ _ _ _ _ _ _ _ _)
   | (with_reducible exact samples_pairs.mono _ _)
   | (with_reducible exact slices_ContainsFunc_int_int.mono _ _ _ _ _ _ _ _ _ _)
   | (with_reducible exact LeO.refl _)
   | (with_reducible exact LeO.none _)
   | (with_reducible refine LeO.ite ?_ ?_)
   | (with_reducible refine LeO.bind ?_ (fun _ => ?_))
   | exact ih0 _ _ _ _ _ _ _ _ _ _ _
   | exact ih1 _ _ _ _ _ _ _ _ _ _ _ _ _ _
   | exact ih2 _ _ _
   | exact head_Samples.mono _ _
   | exact samples_Wide.mono _ _ _
   | exact samples_glassy.mono _ _ _ _ _ _ _ _ _ _
   | exact samples_known.mono _ _
   | exact samples_listed.mono _ _ _ _ _ _ _ _ _ _
   | exact samples_pairs.mono _ _
   | exact slices_ContainsFunc_int_int.mono _ _ _ _ _ _ _ _ _ _
   | exact LeO.none _
   | refine LeO.ite ?_ ?_
   | refine LeO.bind ?_ (fun _ => ?_)
def samples_Pixel.T5 : Bool × List (List Nat × List Nat) := (true, [([], []), ([], []), ([1], [1]), ([2], [2]), ([0, 3], [0, 3]), ([4], [4]), ([4], [4]), ([5, 4, 0, 1, 2, 3, 4, 5, 6], [5]), ([6, 7, 0, 1, 2, 3, 4, 5, 6, 7], [6])])
def samples_Pixel.B5 : List Nat := [0, 0, 2, 6, 15, 31, 31, 127, 255]
theorem samples_Pixel.tab5 : rtab .any (opsOf Try.f59 5) = samples_Pixel.T5 := by kernel_rfl
theorem samples_Pixel.bits5 : waitsOk samples_Pixel.T5.2 samples_Pixel.B5 = true := by kernel_rfl
def samples_Pixel.T18 : Bool × List (List Nat × List Nat) := (true, [([], []), ([0], [0]), ([1], [1]), ([], []), ([3], [3]), ([4], [4]), ([], []), ([6], [6]), ([7], [7]), ([], []), ([2, 5, 8, 9], [2, 5, 8, 9]), ([10], [10]), ([11, 11, 0, 1, 2, 3, 4, 5, 6, 7, 8, 9, 10, 11], [11]), ([12, 0, 1, 2, 3, 4, 5, 6, 7, 8, 9, 10, 11, 12], [])])
def samples_Pixel.B18 : List Nat := [0, 1, 3, 0, 8, 24, 0, 64, 192, 0, 1023, 2047, 4095, 8191]
theorem samples_Pixel.tab18 : rtab .any (opsOf Try.f59 18) = samples_Pixel.T18 := by kernel_rfl
theorem samples_Pixel.bits18 : waitsOk samples_Pixel.T18.2 samples_Pixel.B18 = true := by kernel_rfl
def samples_Pixel.T19 : Bool × List (List Nat × List Nat) := (true, [([], []), ([0], [0]), ([1], [1]), ([], []), ([3], [3]), ([4], [4]), ([], []), ([6], [6]), ([7], [7]), ([], []), ([2, 5, 8, 9], [2, 5, 8, 9]), ([10], [10]), ([11, 11, 0, 1, 2, 3, 4, 5, 6, 7, 8, 9, 10, 11], [11]), ([12, 0, 1, 2, 3, 4, 5, 6, 7, 8, 9, 10, 11, 12], [])])
def samples_Pixel.B19 : List Nat := [0, 1, 3, 0, 8, 24, 0, 64, 192, 0, 1023, 2047, 4095, 8191]
theorem samples_Pixel.tab19 : rtab .any (opsOf Try.f59 19) = samples_Pixel.T19 := by kernel_rfl
theorem samples_Pixel.bits19 : waitsOk samples_Pixel.T19.2 samples_Pixel.B19 = true := by kernel_rfl
set_option maxHeartbeats 40000000 in
set_option maxRecDepth 100000 in
theorem samples_Pixel.calls (k : Nat) (a0_0 : Int) (a0_1 : Int) (a0_2 : Int) (a0_3 : Int) (a0_4 : Int) (a0_5 : ByteArray) (a0_6 : ByteArray) (a0_7 : Bool) (A1 : Option Addr) (c1 : Nat) (l1 : List Int) (r1 : ByteArray) (r2 : Int) (w : World) (hr1 : Kd.C (Kd.int .i64) w A1 l1.length l1) (hc1 : l1.length ≤ c1) (h : samples_Pixel.f k a0_0 a0_1 a0_2 a0_3 a0_4 a0_5 a0_6 a0_7 l1 = some (r1, r2)) :
  Calls Try.prog 59 #[.agg #[.int .i64 a0_0, .int .i64 a0_1, .int .i64 a0_2, .int .i64 a0_3, .int .i64 a0_4, .string a0_5, .string a0_6, .bool a0_7], .slice A1 l1.length c1] w fun e w' => e = .returned (.tuple #[.string r1, .int .i64 r2]) ∧ Below w.heap.size w w' := by
 have hu31 := Try.underlying31
 have HR1 := Aside0.mk hr1
 have HC1 := Aside0.mk hc1
 clear hr1 hc1
 have HB := Aside0.mk (Below.refl w.heap.size w)
 have H : ((head_Samples.f k a0_3).bind fun t188 => (if t188 = 0 then (samples_Pixel.j0 k l1 t188 true a0_0 a0_1 a0_2 a0_3 a0_4 a0_5 a0_6 a0_7) else (if (l1.length : Int) = t188 then ((samples_known.f k a0_2).bind fun t189 => (if t189 = true then ((slices_ContainsFunc_int_int.f k l1 a0_0 a0_1 a0_2 a0_3 a0_4 a0_5 a0_6 a0_7).bind fun t190 => (samples_Pixel.j0 k l1 t188 t190 a0_0 a0_1 a0_2 a0_3 a0_4 a0_5 a0_6 a0_7)) else (samples_Pixel.j0 k l1 t188 true a0_0 a0_1 a0_2 a0_3 a0_4 a0_5 a0_6 a0_7))) else (samples_Pixel.j0 k l1 t188 true a0_0 a0_1 a0_2 a0_3 a0_4 a0_5 a0_6 a0_7)))) = some (r1, r2) := h
 clear h
 replace H := Option.bind_eq_some_iff.mp H
 obtain ⟨t188, A30, H⟩ := H
 replace H : (if t188 = 0 then (samples_Pixel.j0 k l1 t188 true a0_0 a0_1 a0_2 a0_3 a0_4 a0_5 a0_6 a0_7) else (if (l1.length : Int) = t188 then ((samples_known.f k a0_2).bind fun t189 => (if t189 = true then ((slices_ContainsFunc_int_int.f k l1 a0_0 a0_1 a0_2 a0_3 a0_4 a0_5 a0_6 a0_7).bind fun t190 => (samples_Pixel.j0 k l1 t188 t190 a0_0 a0_1 a0_2 a0_3 a0_4 a0_5 a0_6 a0_7)) else (samples_Pixel.j0 k l1 t188 true a0_0 a0_1 a0_2 a0_3 a0_4 a0_5 a0_6 a0_7))) else (samples_Pixel.j0 k l1 t188 true a0_0 a0_1 a0_2 a0_3 a0_4 a0_5 a0_6 a0_7))) = some (r1, r2) := H
 have A3 := Aside0.mk A30
 clear A30
 have HC4 := Aside0.mk H
 clear H
 go_enter Try.func59, Try.ntmps59
 go_upto_region 2 with (first | ((with_reducible refine gate_dst (N := 2) rfl ?_); (try (refine gate_guard (by rfl) ?_; dsimp only)); refine box_event ?hg (N := 2) ?hd (cs := #[.int .i64 a0_0, .int .i64 a0_1, .int .i64 a0_2, .int .i64 a0_3, .int .i64 a0_4, .string a0_5, .string a0_6, .bool a0_7]) (t := 31) ?hr ?_; (case hd => rfl); (case hg => rfl); (case hr => first | (go_simp; done) | (go_simp; rfl)); intro gb187 hg w5 hbox hb; have n0_ := Aside0.mk (below_step (hz HB) hb); have n1_ := Aside0.mk (hbox); have n2_ := Aside0.mk ((by rw [hg]; exact (below_size (hz HB)) : w.heap.size ≤ gb187)); have n3_ := Aside0.mk ((by rw [hg]; exact (below_size (hz HB)) : w.heap.size ≤ gb187)); clear HB; have HB := n0_; have BK187 := n1_; have GW187 := n2_; have GE187 := n3_; clear n0_ n1_ n2_ n3_; clear hb hbox hg; have hcz6_0 : w5.cell? ⟨gb187, 0, none⟩ = some (.int .i64 a0_0) := (blk_cell BK187.out 0).trans rfl; have hcz6_1 : w5.cell? ⟨gb187, 1, none⟩ = some (.int .i64 a0_1) := (blk_cell BK187.out 1).trans rfl; have hcz6_2 : w5.cell? ⟨gb187, 2, none⟩ = some (.int .i64 a0_2) := (blk_cell BK187.out 2).trans rfl; have hcz6_3 : w5.cell? ⟨gb187, 3, none⟩ = some (.int .i64 a0_3) := (blk_cell BK187.out 3).trans rfl; have hcz6_4 : w5.cell? ⟨gb187, 4, none⟩ = some (.int .i64 a0_4) := (blk_cell BK187.out 4).trans rfl; have hcz6_5 : w5.cell? ⟨gb187, 5, none⟩ = some (.string a0_5) := (blk_cell BK187.out 5).trans rfl; have hcz6_6 : w5.cell? ⟨gb187, 6, none⟩ = some (.string a0_6) := (blk_cell BK187.out 6).trans rfl; have hcz6_7 : w5.cell? ⟨gb187, 7, none⟩ = some (.bool a0_7) := (blk_cell BK187.out 7).trans rfl; have hfz6_0 := blk_frozen BK187.out 0; have hfz6_1 := blk_frozen BK187.out 1; have hfz6_2 := blk_frozen BK187.out 2; have hfz6_3 := blk_frozen BK187.out 3; have hfz6_4 := blk_frozen BK187.out 4; have hfz6_5 := blk_frozen BK187.out 5; have hfz6_6 := blk_frozen BK187.out 6; have hfz6_7 := blk_frozen BK187.out 7) | ((with_reducible refine gate_callee (f := 54) rfl ?_); refine gz 14 Try.func54 #[.int .i64 a0_3] ?_; (with_reducible refine (head_Samples.calls k a0_3 t188 _ A3.out).mono ?_); rintro e w7 ⟨rfl, hb⟩; refine ⟨_, rfl, ?_⟩; have n0_ := Aside0.mk (blk_below (g := gb187) (o := .cells #[.int .i64 a0_0, .int .i64 a0_1, .int .i64 a0_2, .int .i64 a0_3, .int .i64 a0_4, .string a0_5, .string a0_6, .bool a0_7] 31 (0, 0)) (kz BK187) hb); have n1_ := Aside0.mk (below_step (hz HB) hb); clear BK187; clear HB; have BK187 := n0_; have HB := n1_; clear n0_ n1_; (try clear hb); (try clear hb2); (try clear hk); (try clear hi)))
 (try simp only [Act.put, List.setIfInBounds_toArray, List.set_cons_zero, List.set_cons_succ])
 go_cut [34] (fun v34 wc => ∃ (kq : Nat) (x34_3 : Bool), v34 = .bool x34_3 ∧ Aside0 (samples_Pixel.j0 kq l1 t188 x34_3 a0_0 a0_1 a0_2 a0_3 a0_4 a0_5 a0_6 a0_7 = some (r1, r2)) ∧ Aside0 (kq ≤ k) ∧ Aside0 (wc.heap[gb187]? = some (.cells #[.int .i64 a0_0, .int .i64 a0_1, .int .i64 a0_2, .int .i64 a0_3, .int .i64 a0_4, .string a0_5, .string a0_6, .bool a0_7] 31 (0, 0))) ∧ Aside0 (Below w.heap.size w wc))
 case first =>
  have H := HC4.out
  clear HC4
  by_cases c8 : t188 = 0
  ·rw [if_pos c8] at H
   have c8b0 : (t188 == 0) = true := beq_iff_eq.mpr c8
   have c8b1 : (t188 != 0) = false := bne_eq_false_iff_eq.mpr c8
   clear c8
   (first | rw [c8b0] | (simp only [i64_w, i32_w]; rw [c8b0]) | skip)
   have H' := Aside0.mk H
   clear H
   go_wp2
   go_meet
   case rel => exact ⟨_, (true), (by first | rfl | (simp; done) | (simp [*]; done)), H', ⟨by first | omega | exact Nat.le_refl _⟩, ⟨kz BK187⟩, ⟨hz HB⟩⟩
  ·rw [if_neg c8] at H
   have c8b0 : (t188 == 0) = false := beq_eq_false_iff_ne.mpr c8
   have c8b1 : (t188 != 0) = true := bne_iff_ne.mpr c8
   (first | rw [c8b0] | (simp only [i64_w, i32_w]; rw [c8b0]) | skip)
   by_cases c9 : (l1.length : Int) = t188
   ·rw [if_pos c9] at H
    have c9b0 : ((l1.length : Int) == t188) = true := beq_iff_eq.mpr c9
    have c9b1 : ((l1.length : Int) != t188) = false := bne_eq_false_iff_eq.mpr c9
    clear c9
    replace H := Option.bind_eq_some_iff.mp H
    obtain ⟨t189, A100, H⟩ := H
    replace H : (if t189 = true then ((slices_ContainsFunc_int_int.f k l1 a0_0 a0_1 a0_2 a0_3 a0_4 a0_5 a0_6 a0_7).bind fun t190 => (samples_Pixel.j0 k l1 t188 t190 a0_0 a0_1 a0_2 a0_3 a0_4 a0_5 a0_6 a0_7)) else (samples_Pixel.j0 k l1 t188 true a0_0 a0_1 a0_2 a0_3 a0_4 a0_5 a0_6 a0_7)) = some (r1, r2) := H
    have A10 := Aside0.mk A100
    clear A100
    by_cases c11 : t189 = true
    ·subst c11
     have H1 : ((slices_ContainsFunc_int_int.f k l1 a0_0 a0_1 a0_2 a0_3 a0_4 a0_5 a0_6 a0_7).bind fun t190 => (samples_Pixel.j0 k l1 t188 t190 a0_0 a0_1 a0_2 a0_3 a0_4 a0_5 a0_6 a0_7)) = some (r1, r2) := by rw [if_pos rfl] at H; exact H
     clear H
     have H := H1
     clear H1
     replace H := Option.bind_eq_some_iff.mp H
     obtain ⟨t190, A120, H⟩ := H
     replace H : (samples_Pixel.j0 k l1 t188 t190 a0_0 a0_1 a0_2 a0_3 a0_4 a0_5 a0_6 a0_7) = some (r1, r2) := H
     have A12 := Aside0.mk A120
     clear A120
     have H' := Aside0.mk H
     clear H
     have hcz13_0 : w7.cell? ⟨gb187, 0, none⟩ = some (.int .i64 a0_0) := (blk_cell BK187.out 0).trans rfl
     have hcz13_1 : w7.cell? ⟨gb187, 1, none⟩ = some (.int .i64 a0_1) := (blk_cell BK187.out 1).trans rfl
     have hcz13_2 : w7.cell? ⟨gb187, 2, none⟩ = some (.int .i64 a0_2) := (blk_cell BK187.out 2).trans rfl
     have hcz13_3 : w7.cell? ⟨gb187, 3, none⟩ = some (.int .i64 a0_3) := (blk_cell BK187.out 3).trans rfl
     have hcz13_4 : w7.cell? ⟨gb187, 4, none⟩ = some (.int .i64 a0_4) := (blk_cell BK187.out 4).trans rfl
     have hcz13_5 : w7.cell? ⟨gb187, 5, none⟩ = some (.string a0_5) := (blk_cell BK187.out 5).trans rfl
     have hcz13_6 : w7.cell? ⟨gb187, 6, none⟩ = some (.string a0_6) := (blk_cell BK187.out 6).trans rfl
     have hcz13_7 : w7.cell? ⟨gb187, 7, none⟩ = some (.bool a0_7) := (blk_cell BK187.out 7).trans rfl
     have hfz13_0 := blk_frozen BK187.out 0
     have hfz13_1 := blk_frozen BK187.out 1
     have hfz13_2 := blk_frozen BK187.out 2
     have hfz13_3 := blk_frozen BK187.out 3
     have hfz13_4 := blk_frozen BK187.out 4
     have hfz13_5 := blk_frozen BK187.out 5
     have hfz13_6 := blk_frozen BK187.out 6
     have hfz13_7 := blk_frozen BK187.out 7
     go_wp2_with (first | (go_at_call 63; (with_reducible refine (samples_known.calls k a0_2 true _ A10.out).mono ?_); rintro e w14 ⟨rfl, hb⟩; have n0_ := Aside0.mk (blk_below (g := gb187) (o := .cells #[.int .i64 a0_0, .int .i64 a0_1, .int .i64 a0_2, .int .i64 a0_3, .int .i64 a0_4, .string a0_5, .string a0_6, .bool a0_7] 31 (0, 0)) (kz BK187) hb); have n1_ := Aside0.mk (below_step (hz HB) hb); clear BK187; clear HB; have BK187 := n0_; have HB := n1_; clear n0_ n1_; (try clear hb); (try clear hb2); (try clear hk); (try clear hi)) | (go_at_call 64; (with_reducible refine (slices_ContainsFunc_int_int.calls k _ _ l1 _ _ _ _ _ _ _ _ _ t190 _ ?side1 ?side2 ?side3 A12.out).mono ?_); (case side1 => repeat (first | exact (Kd.C_below HR1.out HB.out) | (with_reducible refine Kd.C_alloc ?_ _) | (with_reducible refine Kd.C_drewN ?_ _) | (with_reducible refine Kd.C_drew ?_))); (case side2 => exact HC1.out); (case side3 => (with_reducible repeat (first | refine blk_drewN ?_ _ | refine blk_drew ?_ | refine blk_alloc ?_ _)); exact BK187.out); rintro e w' ⟨rfl, ⟨nd, rfl⟩⟩))
     go_meet
     case rel => exact ⟨_, (t190), (by first | rfl | (simp; done) | (simp [*]; done)), H', ⟨by first | omega | exact Nat.le_refl _⟩, ⟨kz BK187⟩, ⟨hz HB⟩⟩
    ·replace c11 := Bool.eq_false_iff.mpr c11
     subst c11
     have H1 : (samples_Pixel.j0 k l1 t188 true a0_0 a0_1 a0_2 a0_3 a0_4 a0_5 a0_6 a0_7) = some (r1, r2) := by rw [if_neg (show ¬ (false = true) by decide)] at H; exact H
     clear H
     have H := H1
     clear H1
     have H' := Aside0.mk H
     clear H
     have hcz15_0 : w7.cell? ⟨gb187, 0, none⟩ = some (.int .i64 a0_0) := (blk_cell BK187.out 0).trans rfl
     have hcz15_1 : w7.cell? ⟨gb187, 1, none⟩ = some (.int .i64 a0_1) := (blk_cell BK187.out 1).trans rfl
     have hcz15_2 : w7.cell? ⟨gb187, 2, none⟩ = some (.int .i64 a0_2) := (blk_cell BK187.out 2).trans rfl
     have hcz15_3 : w7.cell? ⟨gb187, 3, none⟩ = some (.int .i64 a0_3) := (blk_cell BK187.out 3).trans rfl
     have hcz15_4 : w7.cell? ⟨gb187, 4, none⟩ = some (.int .i64 a0_4) := (blk_cell BK187.out 4).trans rfl
     have hcz15_5 : w7.cell? ⟨gb187, 5, none⟩ = some (.string a0_5) := (blk_cell BK187.out 5).trans rfl
     have hcz15_6 : w7.cell? ⟨gb187, 6, none⟩ = some (.string a0_6) := (blk_cell BK187.out 6).trans rfl
     have hcz15_7 : w7.cell? ⟨gb187, 7, none⟩ = some (.bool a0_7) := (blk_cell BK187.out 7).trans rfl
     have hfz15_0 := blk_frozen BK187.out 0
     have hfz15_1 := blk_frozen BK187.out 1
     have hfz15_2 := blk_frozen BK187.out 2
     have hfz15_3 := blk_frozen BK187.out 3
     have hfz15_4 := blk_frozen BK187.out 4
     have hfz15_5 := blk_frozen BK187.out 5
     have hfz15_6 := blk_frozen BK187.out 6
     have hfz15_7 := blk_frozen BK187.out 7
     go_wp2_with (first | (go_at_call 63; (with_reducible refine (samples_known.calls k a0_2 false _ A10.out).mono ?_); rintro e w16 ⟨rfl, hb⟩; have n0_ := Aside0.mk (blk_below (g := gb187) (o := .cells #[.int .i64 a0_0, .int .i64 a0_1, .int .i64 a0_2, .int .i64 a0_3, .int .i64 a0_4, .string a0_5, .string a0_6, .bool a0_7] 31 (0, 0)) (kz BK187) hb); have n1_ := Aside0.mk (below_step (hz HB) hb); clear BK187; clear HB; have BK187 := n0_; have HB := n1_; clear n0_ n1_; (try clear hb); (try clear hb2); (try clear hk); (try clear hi)))
     go_meet
     case rel => exact ⟨_, (true), (by first | rfl | (simp; done) | (simp [*]; done)), H', ⟨by first | omega | exact Nat.le_refl _⟩, ⟨kz BK187⟩, ⟨hz HB⟩⟩
   ·rw [if_neg c9] at H
    have c9b0 : ((l1.length : Int) == t188) = false := beq_eq_false_iff_ne.mpr c9
    have c9b1 : ((l1.length : Int) != t188) = true := bne_iff_ne.mpr c9
    have H' := Aside0.mk H
    clear H
    go_wp2
    go_meet
    case rel => exact ⟨_, (true), (by first | rfl | (simp; done) | (simp [*]; done)), H', ⟨by first | omega | exact Nat.le_refl _⟩, ⟨kz BK187⟩, ⟨hz HB⟩⟩
 case rest =>
  clear HC4
  try clear hcz6_0
  try clear hcz6_1
  try clear hcz6_2
  try clear hcz6_3
  try clear hcz6_4
  try clear hcz6_5
  try clear hcz6_6
  try clear hcz6_7
  try clear hfz6_0
  try clear hfz6_1
  try clear hfz6_2
  try clear hfz6_3
  try clear hfz6_4
  try clear hfz6_5
  try clear hfz6_6
  try clear hfz6_7
  obtain ⟨kq, x34_3, rfl, HA, HJ3, BK187, HB⟩ := hcut
  cases kq with
  | zero => exact absurd HA.out (by simp [samples_Pixel.j0])
  | succ kj3 =>
   have H := HA.out
   clear HA
   simp only [samples_Pixel.j0] at H
   by_cases c17 : x34_3 = true
   ·subst c17
    have H1 : (some ((⟨#[]⟩ : ByteArray), 1)) = some (r1, r2) := by rw [if_pos rfl] at H; exact H
    clear H
    have H := H1
    clear H1
    simp only [Option.some.injEq, Prod.mk.injEq] at H
    obtain ⟨rfl, rfl⟩ := H
    go_wp2
    go_ret2
    exact ⟨by first | rfl | (simp [errW_none, errW_some] <;> rfl) | (simp [*, errW_none, errW_some] <;> rfl), by repeat (first | (with_reducible first | exact HB.out | apply below_alloc | apply pw_below_drewN | apply below_drew1 | refine below_set ?_ GE187.out) | exact HB.out)⟩
   ·replace c17 := Bool.eq_false_iff.mpr c17
    subst c17
    have H1 : (if a0_3 = 3 then (if 0 < (l1.length : Int) then ((samples_listed.f kj3 a0_0 a0_1 a0_2 a0_3 a0_4 a0_5 a0_6 a0_7 (rd l1 0)).bind fun bt192 => (some (bt192.1, bt192.2))) else (none)) else (samples_Pixel.l0 kj3 l1 t188 ([] : List Int) l1 (l1.length : Int) 0 a0_0 a0_1 a0_2 a0_3 a0_4 a0_5 a0_6 a0_7)) = some (r1, r2) := by rw [if_neg (show ¬ (false = true) by decide)] at H; exact H
    clear H
    have H := H1
    clear H1
    by_cases c18 : a0_3 = 3
    ·rw [if_pos c18] at H
     have c18b0 : (a0_3 == 3) = true := beq_iff_eq.mpr c18
     have c18b1 : (a0_3 != 3) = false := bne_eq_false_iff_eq.mpr c18
     clear c18
     by_cases c19 : 0 < (l1.length : Int)
     ·rw [if_pos c19] at H
      have c19b0 : decide (0 < (l1.length : Int)) = true := decide_eq_true c19
      have c19b1 : decide (0 < l1.length) = true := decide_eq_true (by omega)
      clear c19
      replace H := Option.bind_eq_some_iff.mp H
      obtain ⟨⟨t192, t193⟩, A200, H⟩ := H
      replace H : (some (t192, t193)) = some (r1, r2) := H
      have A20 := Aside0.mk A200
      clear A200
      simp only [Option.some.injEq, Prod.mk.injEq] at H
      obtain ⟨rfl, rfl⟩ := H
      have hcz21_0 : wc.cell? ⟨gb187, 0, none⟩ = some (.int .i64 a0_0) := (blk_cell BK187.out 0).trans rfl
      have hcz21_1 : wc.cell? ⟨gb187, 1, none⟩ = some (.int .i64 a0_1) := (blk_cell BK187.out 1).trans rfl
      have hcz21_2 : wc.cell? ⟨gb187, 2, none⟩ = some (.int .i64 a0_2) := (blk_cell BK187.out 2).trans rfl
      have hcz21_3 : wc.cell? ⟨gb187, 3, none⟩ = some (.int .i64 a0_3) := (blk_cell BK187.out 3).trans rfl
      have hcz21_4 : wc.cell? ⟨gb187, 4, none⟩ = some (.int .i64 a0_4) := (blk_cell BK187.out 4).trans rfl
      have hcz21_5 : wc.cell? ⟨gb187, 5, none⟩ = some (.string a0_5) := (blk_cell BK187.out 5).trans rfl
      have hcz21_6 : wc.cell? ⟨gb187, 6, none⟩ = some (.string a0_6) := (blk_cell BK187.out 6).trans rfl
      have hcz21_7 : wc.cell? ⟨gb187, 7, none⟩ = some (.bool a0_7) := (blk_cell BK187.out 7).trans rfl
      have hfz21_0 := blk_frozen BK187.out 0
      have hfz21_1 := blk_frozen BK187.out 1
      have hfz21_2 := blk_frozen BK187.out 2
      have hfz21_3 := blk_frozen BK187.out 3
      have hfz21_4 := blk_frozen BK187.out 4
      have hfz21_5 := blk_frozen BK187.out 5
      have hfz21_6 := blk_frozen BK187.out 6
      have hfz21_7 := blk_frozen BK187.out 7
      try go_wp2
      have n0_ := Aside0.mk (blk_drew BK187.out)
      have n1_ := Aside0.mk (below_drew1 HB.out)
      clear BK187
      clear HB
      have BK187 := n0_
      have HB := n1_
      clear n0_ n1_
      have p191 : 0 ≤ (0 : Int) := (by omega)
      have q191 : 0 < (l1.length : Int) := of_decide_eq_true (by first | (with_reducible assumption) | assumption)
      obtain ⟨ad191, e191, hx191_0⟩ := Kd.at_int HR1.out 0 p191 q191
      have hw191_0 := hx191_0
      (try rw [show ((0 : Int)).toNat = 0 from rfl] at hw191_0)
      (try rw [show 0 * 1 = 0 from rfl] at hw191_0)
      (try rw [Addr.add_zero'] at hw191_0)
      cases e191
      have qi191 : (0 < l1.length) = True := eq_true (by omega)
      (try rw [show ((0 : Int)).toNat = 0 from rfl] at hx191_0)
      (try rw [Addr.add_zero'] at hx191_0)
      replace hx191_0 := (HB.out.cell (World.block_lt_of_cell? w _ hx191_0)).trans hx191_0
      replace p191 := eq_true p191
      replace q191 := eq_true q191
      refine start_ (n := 9) (S := fun w' => w'.cell? ⟨gb187, 0, none⟩ = some (.int .i64 a0_0) ∧ w'.cell? ⟨gb187, 1, none⟩ = some (.int .i64 a0_1) ∧ w'.cell? ⟨gb187, 2, none⟩ = some (.int .i64 a0_2) ∧ w'.cell? ⟨gb187, 3, none⟩ = some (.int .i64 a0_3) ∧ w'.cell? ⟨gb187, 4, none⟩ = some (.int .i64 a0_4) ∧ w'.cell? ⟨gb187, 5, none⟩ = some (.string a0_5) ∧ w'.cell? ⟨gb187, 6, none⟩ = some (.string a0_6) ∧ w'.cell? ⟨gb187, 7, none⟩ = some (.bool a0_7) ∧ w'.cell? ad191 = some (.int .i64 (rd l1 0))) (ds := []) (bm 9 0) (by kernel_rfl) rfl rfl ⟨(blk_cell BK187.out 0).trans rfl, (blk_cell BK187.out 1).trans rfl, (blk_cell BK187.out 2).trans rfl, (blk_cell BK187.out 3).trans rfl, (blk_cell BK187.out 4).trans rfl, (blk_cell BK187.out 5).trans rfl, (blk_cell BK187.out 6).trans rfl, (blk_cell BK187.out 7).trans rfl, ((HB.out.cell (World.block_lt_of_cell? w _ hw191_0)).trans hw191_0)⟩ (fun hHeld => ?_); refine with_tabW samples_Pixel.tab5 samples_Pixel.bits5 (fun HT_ HW_ => ?_)
      generalize wc.drew = w22 at BK187 HB hx191_0 hHeld ⊢
      refine zp 1 40 (bm 9 2) ?_
      refine zp 2 41 (bm 9 6) ?_
      refine zt 0 39 (bm 9 7) rfl (by rintro w' ⟨s0, s1, s2, s3, s4, s5, s6, s7, s8⟩; go_simp; with_reducible rfl) ?_
      refine zt 3 42 (bm 9 15) rfl (by rintro w' ⟨s0, s1, s2, s3, s4, s5, s6, s7, s8⟩; go_simp; with_reducible rfl) ?_
      refine one_ (i := 4) (N := some 43) (bm 9 31) rfl rfl (one_of HT_.out (by kernel_rfl)) (by decide) (fun K hK => ?_)
      refine goes_ Try.func66 (by kernel_rfl) rfl #[.agg #[.int .i64 a0_0, .int .i64 a0_1, .int .i64 a0_2, .int .i64 a0_3, .int .i64 a0_4, .string a0_5, .string a0_6, .bool a0_7], .int .i64 (rd l1 0)] (by rfl) rfl rfl (by (try simp only [List.map_toArray, List.map_cons, List.map_nil]); first | done | rfl | (simp only [List.length_drop, List.length_take]; rfl) | (simp only [ByteArray.size_extract, Nat.min_self]; done) | (simp only [ByteArray.size_extract, Nat.min_self]; rfl)) ?_
      with_reducible refine (samples_listed.calls kj3 a0_0 a0_1 a0_2 a0_3 a0_4 a0_5 a0_6 a0_7 (rd l1 0) t192 t193 _ A20.out).mono ?_
      rintro e w23 ⟨rfl, hb⟩
      refine ⟨_, rfl, ?_⟩
      have n0_ := Aside0.mk (blk_below (g := gb187) (o := .cells #[.int .i64 a0_0, .int .i64 a0_1, .int .i64 a0_2, .int .i64 a0_3, .int .i64 a0_4, .string a0_5, .string a0_6, .bool a0_7] 31 (0, 0)) (kz BK187) hb)
      have n1_ := Aside0.mk (below_step (hz HB) hb)
      clear BK187
      clear HB
      have BK187 := n0_
      have HB := n1_
      clear n0_ n1_
      (try clear hb)
      refine hK.out _ _ ⟨(blk_cell BK187.out 0).trans rfl, (blk_cell BK187.out 1).trans rfl, (blk_cell BK187.out 2).trans rfl, (blk_cell BK187.out 3).trans rfl, (blk_cell BK187.out 4).trans rfl, (blk_cell BK187.out 5).trans rfl, (blk_cell BK187.out 6).trans rfl, (blk_cell BK187.out 7).trans rfl, ((HB.out.cell (World.block_lt_of_cell? w _ hw191_0)).trans hw191_0)⟩ (fun hHeld => ?_)
      clear hK K
      refine norm_ (a' := ?_) ?_ ?_
      rotate_left
      ·show Act.put _ (some 43) _ = _
       simp only [Act.put, zq1, zq2, zq3, i64_w, i32_w]
       rfl
      refine zp 5 44 (bm 9 63) ?_
      refine zp 6 45 (bm 9 127) ?_
      refine zp 7 4 (bm 9 255) ?_
      refine zp 8 5 (bm 9 511) ?_
      refine done_ (done_of HT_.out (by kernel_rfl)) ?_
      try go_wp2
      go_ret2
      exact ⟨by first | rfl | (simp [errW_none, errW_some] <;> rfl) | (simp [*, errW_none, errW_some] <;> rfl), by repeat (first | (with_reducible first | exact HB.out | apply below_alloc | apply pw_below_drewN | apply below_drew1 | refine below_set ?_ GE187.out) | exact HB.out)⟩
     ·rw [if_neg c19] at H
      exact absurd H (by simp)
    ·rw [if_neg c18] at H
     have c18b0 : (a0_3 == 3) = false := beq_eq_false_iff_ne.mpr c18
     have c18b1 : (a0_3 != 3) = true := bne_iff_ne.mpr c18
     have H' := Aside0.mk H
     clear H
     have hcz24_0 : wc.cell? ⟨gb187, 0, none⟩ = some (.int .i64 a0_0) := (blk_cell BK187.out 0).trans rfl
     have hcz24_1 : wc.cell? ⟨gb187, 1, none⟩ = some (.int .i64 a0_1) := (blk_cell BK187.out 1).trans rfl
     have hcz24_2 : wc.cell? ⟨gb187, 2, none⟩ = some (.int .i64 a0_2) := (blk_cell BK187.out 2).trans rfl
     have hcz24_3 : wc.cell? ⟨gb187, 3, none⟩ = some (.int .i64 a0_3) := (blk_cell BK187.out 3).trans rfl
     have hcz24_4 : wc.cell? ⟨gb187, 4, none⟩ = some (.int .i64 a0_4) := (blk_cell BK187.out 4).trans rfl
     have hcz24_5 : wc.cell? ⟨gb187, 5, none⟩ = some (.string a0_5) := (blk_cell BK187.out 5).trans rfl
     have hcz24_6 : wc.cell? ⟨gb187, 6, none⟩ = some (.string a0_6) := (blk_cell BK187.out 6).trans rfl
     have hcz24_7 : wc.cell? ⟨gb187, 7, none⟩ = some (.bool a0_7) := (blk_cell BK187.out 7).trans rfl
     have hfz24_0 := blk_frozen BK187.out 0
     have hfz24_1 := blk_frozen BK187.out 1
     have hfz24_2 := blk_frozen BK187.out 2
     have hfz24_3 := blk_frozen BK187.out 3
     have hfz24_4 := blk_frozen BK187.out 4
     have hfz24_5 := blk_frozen BK187.out 5
     have hfz24_6 := blk_frozen BK187.out 6
     have hfz24_7 := blk_frozen BK187.out 7
     go_wp2
     go_loopg [7, 48] kj3 (fun kq v7 v48 w' => ∃ (x7_2 : List Int) (x48_2 : Int), v48 = .int .i64 x48_2 ∧ Aside0 (samples_Pixel.l0 kq l1 t188 x7_2 l1 (l1.length : Int) x48_2 a0_0 a0_1 a0_2 a0_3 a0_4 a0_5 a0_6 a0_7 = some (r1, r2)) ∧ Aside0 (kq ≤ kj3) ∧ Aside0 (Kd.R (Kd.int .i64) 3 w' w.heap.size (fun _ => True) v7 x7_2) ∧ Aside0 (w'.heap[gb187]? = some (.cells #[.int .i64 a0_0, .int .i64 a0_1, .int .i64 a0_2, .int .i64 a0_3, .int .i64 a0_4, .string a0_5, .string a0_6, .bool a0_7] 31 (0, 0))) ∧ Aside0 (Below w.heap.size w w'))
     case atStart => exact ⟨(([] : List Int)), (0), (by first | rfl | (simp; done) | (simp [*]; done)), H', ⟨Nat.le_refl _⟩, ⟨by first | exact Kd.R_nil _ _ _ _ _ | exact Kd.N_nil _ _ _ _ _ | exact Kd.V_nil _ _ _ _ _ | exact Kd.Q_nil _ _ _ _ _ | exact Kd.S_nil _ _ _ _ _⟩, ⟨kz BK187⟩, ⟨hz HB⟩⟩
     case round =>
      clear H'
      try clear c17
      try clear c18
      try clear c18b0
      try clear c18b1
      try clear hcz24_0
      try clear hcz24_1
      try clear hcz24_2
      try clear hcz24_3
      try clear hcz24_4
      try clear hcz24_5
      try clear hcz24_6
      try clear hcz24_7
      try clear hcz6_0
      try clear hcz6_1
      try clear hcz6_2
      try clear hcz6_3
      try clear hcz6_4
      try clear hcz6_5
      try clear hcz6_6
      try clear hcz6_7
      try clear hfz24_0
      try clear hfz24_1
      try clear hfz24_2
      try clear hfz24_3
      try clear hfz24_4
      try clear hfz24_5
      try clear hfz24_6
      try clear hfz24_7
      try clear hfz6_0
      try clear hfz6_1
      try clear hfz6_2
      try clear hfz6_3
      try clear hfz6_4
      try clear hfz6_5
      try clear hfz6_6
      try clear hfz6_7
      obtain ⟨x7_2, x48_2, rfl, HA, HK2, HO_7, BK187, HB⟩ := hrel
      cases gk with
      | zero => exact absurd HA.out (by simp [samples_Pixel.l0])
      | succ k2 =>
       have H := HA.out
       clear HA
       simp only [samples_Pixel.l0] at H
       by_cases c25 : x48_2 < (l1.length : Int)
       ·rw [if_pos c25] at H
        have c25b0 : decide (x48_2 < (l1.length : Int)) = true := decide_eq_true c25
        clear c25
        by_cases c26 : 0 ≤ x48_2
        ·rw [if_pos c26] at H
         have c26b0 : decide (0 ≤ x48_2) = true := decide_eq_true c26
         clear c26
         by_cases c27 : x48_2 < (l1.length : Int)
         ·rw [if_pos c27] at H
          have c27b0 : decide (x48_2 < (l1.length : Int)) = true := decide_eq_true c27
          clear c27
          replace H := Option.bind_eq_some_iff.mp H
          obtain ⟨t195, A280, H⟩ := H
          replace H : (if x7_2.length < 17592186044416 then (samples_Pixel.l0 k2 l1 t188 (x7_2 ++ [t195]) l1 (l1.length : Int) (wrap64 (x48_2 + 1)) a0_0 a0_1 a0_2 a0_3 a0_4 a0_5 a0_6 a0_7) else (none)) = some (r1, r2) := H
          have A28 := Aside0.mk A280
          clear A280
          by_cases c29 : x7_2.length < 17592186044416
          ·rw [if_pos c29] at H
           have LMc29 := Aside0.mk c29
           clear c29
           obtain ⟨y196, hy196⟩ : ∃ y_ : List Int, y_ = (x7_2 ++ [t195]) := ⟨_, rfl⟩
           replace H : (samples_Pixel.l0 k2 l1 t188 y196 l1 (l1.length : Int) (wrap64 (x48_2 + 1)) a0_0 a0_1 a0_2 a0_3 a0_4 a0_5 a0_6 a0_7) = some (r1, r2) := by first | (rw [hy196]; with_reducible exact H) | (have H2_ := (Option.bind_some _ _).symm.trans H; rw [hy196]; with_reducible exact H2_) | (have H2_ := (Option.bind_some _ _).symm.trans H; with_reducible exact H2_) | with_reducible exact H | (rw [hy196]; exact H) | exact H
           have Ny196 := Aside0.mk hy196
           clear hy196
           have H' := Aside0.mk H
           clear H
           have p194 : 0 ≤ (x48_2 : Int) := of_decide_eq_true (by first | (with_reducible assumption) | assumption)
           have q194 : x48_2 < (l1.length : Int) := of_decide_eq_true (by first | (with_reducible assumption) | assumption)
           obtain ⟨ad194, e194, hx194_0⟩ := Kd.at_int HR1.out x48_2 p194 q194
           cases e194
           replace hx194_0 := (HB.out.cell (World.block_lt_of_cell? w _ hx194_0)).trans hx194_0
           replace p194 := eq_true p194
           replace q194 := eq_true q194
           have hcz30_0 : wr.cell? ⟨gb187, 0, none⟩ = some (.int .i64 a0_0) := (blk_cell BK187.out 0).trans rfl
           have hcz30_1 : wr.cell? ⟨gb187, 1, none⟩ = some (.int .i64 a0_1) := (blk_cell BK187.out 1).trans rfl
           have hcz30_2 : wr.cell? ⟨gb187, 2, none⟩ = some (.int .i64 a0_2) := (blk_cell BK187.out 2).trans rfl
           have hcz30_3 : wr.cell? ⟨gb187, 3, none⟩ = some (.int .i64 a0_3) := (blk_cell BK187.out 3).trans rfl
           have hcz30_4 : wr.cell? ⟨gb187, 4, none⟩ = some (.int .i64 a0_4) := (blk_cell BK187.out 4).trans rfl
           have hcz30_5 : wr.cell? ⟨gb187, 5, none⟩ = some (.string a0_5) := (blk_cell BK187.out 5).trans rfl
           have hcz30_6 : wr.cell? ⟨gb187, 6, none⟩ = some (.string a0_6) := (blk_cell BK187.out 6).trans rfl
           have hcz30_7 : wr.cell? ⟨gb187, 7, none⟩ = some (.bool a0_7) := (blk_cell BK187.out 7).trans rfl
           have hfz30_0 := blk_frozen BK187.out 0
           have hfz30_1 := blk_frozen BK187.out 1
           have hfz30_2 := blk_frozen BK187.out 2
           have hfz30_3 := blk_frozen BK187.out 3
           have hfz30_4 := blk_frozen BK187.out 4
           have hfz30_5 := blk_frozen BK187.out 5
           have hfz30_6 := blk_frozen BK187.out 6
           have hfz30_7 := blk_frozen BK187.out 7
           go_wp2_with (first | ((with_reducible refine gate_callee (f := 67) rfl ?_); refine gz 57 Try.func67 #[.int .i64 (rd l1 x48_2), .int .i64 a0_2] ?_; (with_reducible refine (samples_Wide.calls k2 (rd l1 x48_2) a0_2 t195 _ A28.out).mono ?_); rintro e w31 ⟨rfl, hb⟩; refine ⟨_, rfl, ?_⟩; have n0_ := Aside0.mk (Kd.R_below (oz HO_7) hb); have n1_ := Aside0.mk (blk_below (g := gb187) (o := .cells #[.int .i64 a0_0, .int .i64 a0_1, .int .i64 a0_2, .int .i64 a0_3, .int .i64 a0_4, .string a0_5, .string a0_6, .bool a0_7] 31 (0, 0)) (kz BK187) hb); have n2_ := Aside0.mk (below_step (hz HB) hb); clear HO_7; clear BK187; clear HB; have HO_7 := n0_; have BK187 := n1_; have HB := n2_; clear n0_ n1_ n2_; (try clear hb); (try clear hb2); (try clear hk); (try clear hi)) | ((with_reducible refine gate_builtin (b := .append) (xs := #[.tmp 52, .tmp 58]) rfl ?_); (try (refine gate_guard (by rfl) ?_; dsimp only)); at_builtin; refine Kd.R_append (Kd.int .i64) (w0 := w) w.heap.size rfl (.tmp 52) (.tmp 58) 37 3 (.int .i64 0) 8 rfl Try.underlying37 info3 rfl (by decide) (by omega) u7 x7_2 t195 [.int .i64 t195] (fun _ => True) (fun _ => False) rfl rfl ?aP (fun _ hk => hk.elim) ?aF ?aO ?aB ?aS ?aL ?_; (case aP => exact rfl); (case aB => exact (hz HB)); (case aF => exact (fun _ _ => trivial)); (case aO => exact (oz HO_7)); (case aS => exact (below_size (hz HB))); (case aL => have := LMc29.out; omega); intro v197 w32 ho hb hg hat; rw [← Ny196.out] at ho; have n0_ := Aside0.mk (blk_grown (g := gb187) (o := .cells #[.int .i64 a0_0, .int .i64 a0_1, .int .i64 a0_2, .int .i64 a0_3, .int .i64 a0_4, .string a0_5, .string a0_6, .bool a0_7] 31 (0, 0)) (kz BK187) hg (Kd.R_ne HO_7.out BK187.out (by decide))); have n1_ := Aside0.mk (hb); have n2_ := Aside0.mk (ho); clear BK187; clear HB; clear HO_7; have BK187 := n0_; have HB := n1_; have HO198 := n2_; clear n0_ n1_ n2_; clear ho hb hg hat))
           go_roundg k2
           case measure => have := HJ3.out; have := HK2.out; omega
           case rel => exact ⟨(y196), (wrap64 (x48_2 + 1)), (by first | rfl | (simp; done) | (simp [*]; done)), H', ⟨by have := HJ3.out; have := HK2.out; omega⟩, ⟨oz HO198⟩, ⟨kz BK187⟩, ⟨hz HB⟩⟩
          ·rw [if_neg c29] at H
           exact absurd H (by simp)
         ·rw [if_neg c27] at H
          exact absurd H (by simp)
        ·rw [if_neg c26] at H
         exact absurd H (by simp)
       ·rw [if_neg c25] at H
        have c25b0 : decide (x48_2 < (l1.length : Int)) = false := decide_eq_false c25
        clear c25
        have HC33 := Aside0.mk H
        clear H
        go_upto_if 63 with (fail)
        go_cut [10] (fun v10 wc => ∃ (kq : Nat) (x10_32 : Int), v10 = .int .i64 x10_32 ∧ Aside0 (samples_Pixel.j2 kq t188 x7_2 x10_32 = some (r1, r2)) ∧ Aside0 (kq ≤ k2) ∧ Aside0 (Kd.R (Kd.int .i64) 3 wc w.heap.size (fun _ => True) u7 x7_2) ∧ Aside0 (wc.heap[gb187]? = some (.cells #[.int .i64 a0_0, .int .i64 a0_1, .int .i64 a0_2, .int .i64 a0_3, .int .i64 a0_4, .string a0_5, .string a0_6, .bool a0_7] 31 (0, 0))) ∧ Aside0 (Below w.heap.size w wc))
        case first =>
         have H := HC33.out
         clear HC33
         by_cases c34 : (Int.tmod t188 2) = 0
         ·rw [if_pos c34] at H
          have c34b0 : ((Int.tmod t188 2) == 0) = true := beq_iff_eq.mpr c34
          have c34b1 : ((Int.tmod t188 2) != 0) = false := bne_eq_false_iff_eq.mpr c34
          clear c34
          (first | rw [c34b0] | (simp only [i64_w, i32_w]; rw [c34b0]) | skip)
          obtain ⟨ji35, hji35⟩ : ∃ j_ : Int, (wrap64 (t188 - 1)) = j_ := ⟨_, rfl⟩
          replace H : (if 0 ≤ (ji35) then (if (ji35) < (x7_2.length : Int) then (samples_Pixel.j2 k2 t188 x7_2 (rd x7_2 (ji35))) else (none)) else (none)) = some (r1, r2) := by first | (rw [hji35] at H; exact H) | (simp only [hji35] at H ⊢; exact H)
          have hji35w : (IntKind.i64.wrap (t188 - 1)) = ji35 := (i64_w _).trans hji35
          by_cases c36 : 0 ≤ (ji35)
          ·rw [if_pos c36] at H
           have c36b0 : decide (0 ≤ (ji35)) = true := decide_eq_true c36
           clear c36
           by_cases c37 : (ji35) < (x7_2.length : Int)
           ·rw [if_pos c37] at H
            have c37b0 : decide ((ji35) < (x7_2.length : Int)) = true := decide_eq_true c37
            clear c37
            have H' := Aside0.mk H
            clear H
            obtain ⟨Ao38, co38, eo38⟩ := Kd.R_slice HO_7.out
            subst eo38
            have p199 : 0 ≤ ((ji35) : Int) := of_decide_eq_true (by first | (with_reducible assumption) | assumption)
            have q199 : (ji35) < (x7_2.length : Int) := of_decide_eq_true (by first | (with_reducible assumption) | assumption)
            obtain ⟨ad199, e199, hx199_0⟩ := Kd.at_int (Kd.R_reads' HO_7.out).2.2 (ji35) p199 q199
            cases e199
            replace p199 := eq_true p199
            replace q199 := eq_true q199
            go_wp2
            go_meet
            case rel => exact ⟨_, (rd x7_2 (ji35)), (by first | rfl | (simp; done) | (simp only [← hji35] <;> (first | rfl | simp)) | (simp [*]; done)), H', ⟨by have := HJ3.out; have := HK2.out; first | omega | exact Nat.le_refl _⟩, ⟨oz HO_7⟩, ⟨kz BK187⟩, ⟨hz HB⟩⟩
           ·rw [if_neg c37] at H
            exact absurd H (by simp)
          ·rw [if_neg c36] at H
           exact absurd H (by simp)
         ·rw [if_neg c34] at H
          have c34b0 : ((Int.tmod t188 2) == 0) = false := beq_eq_false_iff_ne.mpr c34
          have c34b1 : ((Int.tmod t188 2) != 0) = true := bne_iff_ne.mpr c34
          (first | rw [c34b0] | (simp only [i64_w, i32_w]; rw [c34b0]) | skip)
          replace H := Option.bind_eq_some_iff.mp H
          obtain ⟨t200, A390, H⟩ := H
          replace H : (if t200 = true then (samples_Pixel.j2 k2 t188 x7_2 0) else (samples_Pixel.j2 k2 t188 x7_2 65535)) = some (r1, r2) := H
          have A39 := Aside0.mk A390
          clear A390
          by_cases c40 : t200 = true
          ·subst c40
           have H1 : (samples_Pixel.j2 k2 t188 x7_2 0) = some (r1, r2) := by rw [if_pos rfl] at H; exact H
           clear H
           have H := H1
           clear H1
           have H' := Aside0.mk H
           clear H
           have hcz41_0 : wr.cell? ⟨gb187, 0, none⟩ = some (.int .i64 a0_0) := (blk_cell BK187.out 0).trans rfl
           have hcz41_1 : wr.cell? ⟨gb187, 1, none⟩ = some (.int .i64 a0_1) := (blk_cell BK187.out 1).trans rfl
           have hcz41_2 : wr.cell? ⟨gb187, 2, none⟩ = some (.int .i64 a0_2) := (blk_cell BK187.out 2).trans rfl
           have hcz41_3 : wr.cell? ⟨gb187, 3, none⟩ = some (.int .i64 a0_3) := (blk_cell BK187.out 3).trans rfl
           have hcz41_4 : wr.cell? ⟨gb187, 4, none⟩ = some (.int .i64 a0_4) := (blk_cell BK187.out 4).trans rfl
           have hcz41_5 : wr.cell? ⟨gb187, 5, none⟩ = some (.string a0_5) := (blk_cell BK187.out 5).trans rfl
           have hcz41_6 : wr.cell? ⟨gb187, 6, none⟩ = some (.string a0_6) := (blk_cell BK187.out 6).trans rfl
           have hcz41_7 : wr.cell? ⟨gb187, 7, none⟩ = some (.bool a0_7) := (blk_cell BK187.out 7).trans rfl
           have hfz41_0 := blk_frozen BK187.out 0
           have hfz41_1 := blk_frozen BK187.out 1
           have hfz41_2 := blk_frozen BK187.out 2
           have hfz41_3 := blk_frozen BK187.out 3
           have hfz41_4 := blk_frozen BK187.out 4
           have hfz41_5 := blk_frozen BK187.out 5
           have hfz41_6 := blk_frozen BK187.out 6
           have hfz41_7 := blk_frozen BK187.out 7
           go_wp2_with (first | ((with_reducible refine gate_callee (f := 68) rfl ?_); refine gz 71 Try.func68 #[.agg #[.int .i64 a0_0, .int .i64 a0_1, .int .i64 a0_2, .int .i64 a0_3, .int .i64 a0_4, .string a0_5, .string a0_6, .bool a0_7], .slice A1 l1.length c1] ?_; (with_reducible refine (samples_glassy.calls k2 a0_0 a0_1 a0_2 a0_3 a0_4 a0_5 a0_6 a0_7 _ _ l1 true _ ?side1 ?side2 A39.out).mono ?_); (case side1 => repeat (first | exact (Kd.C_below HR1.out HB.out) | (with_reducible refine Kd.C_alloc ?_ _) | (with_reducible refine Kd.C_drewN ?_ _) | (with_reducible refine Kd.C_drew ?_))); (case side2 => exact HC1.out); rintro e w42 ⟨rfl, hb⟩; refine ⟨_, rfl, ?_⟩; have n0_ := Aside0.mk (Kd.R_below (oz HO_7) hb); have n1_ := Aside0.mk (blk_below (g := gb187) (o := .cells #[.int .i64 a0_0, .int .i64 a0_1, .int .i64 a0_2, .int .i64 a0_3, .int .i64 a0_4, .string a0_5, .string a0_6, .bool a0_7] 31 (0, 0)) (kz BK187) hb); have n2_ := Aside0.mk (below_step (hz HB) hb); clear HO_7; clear BK187; clear HB; have HO_7 := n0_; have BK187 := n1_; have HB := n2_; clear n0_ n1_ n2_; (try clear hb); (try clear hb2); (try clear hk); (try clear hi)))
           go_meet
           case rel => exact ⟨_, (0), (by first | rfl | (simp; done) | (simp [*]; done)), H', ⟨by have := HJ3.out; have := HK2.out; first | omega | exact Nat.le_refl _⟩, ⟨oz HO_7⟩, ⟨kz BK187⟩, ⟨hz HB⟩⟩
          ·replace c40 := Bool.eq_false_iff.mpr c40
           subst c40
           have H1 : (samples_Pixel.j2 k2 t188 x7_2 65535) = some (r1, r2) := by rw [if_neg (show ¬ (false = true) by decide)] at H; exact H
           clear H
           have H := H1
           clear H1
           have H' := Aside0.mk H
           clear H
           have hcz43_0 : wr.cell? ⟨gb187, 0, none⟩ = some (.int .i64 a0_0) := (blk_cell BK187.out 0).trans rfl
           have hcz43_1 : wr.cell? ⟨gb187, 1, none⟩ = some (.int .i64 a0_1) := (blk_cell BK187.out 1).trans rfl
           have hcz43_2 : wr.cell? ⟨gb187, 2, none⟩ = some (.int .i64 a0_2) := (blk_cell BK187.out 2).trans rfl
           have hcz43_3 : wr.cell? ⟨gb187, 3, none⟩ = some (.int .i64 a0_3) := (blk_cell BK187.out 3).trans rfl
           have hcz43_4 : wr.cell? ⟨gb187, 4, none⟩ = some (.int .i64 a0_4) := (blk_cell BK187.out 4).trans rfl
           have hcz43_5 : wr.cell? ⟨gb187, 5, none⟩ = some (.string a0_5) := (blk_cell BK187.out 5).trans rfl
           have hcz43_6 : wr.cell? ⟨gb187, 6, none⟩ = some (.string a0_6) := (blk_cell BK187.out 6).trans rfl
           have hcz43_7 : wr.cell? ⟨gb187, 7, none⟩ = some (.bool a0_7) := (blk_cell BK187.out 7).trans rfl
           have hfz43_0 := blk_frozen BK187.out 0
           have hfz43_1 := blk_frozen BK187.out 1
           have hfz43_2 := blk_frozen BK187.out 2
           have hfz43_3 := blk_frozen BK187.out 3
           have hfz43_4 := blk_frozen BK187.out 4
           have hfz43_5 := blk_frozen BK187.out 5
           have hfz43_6 := blk_frozen BK187.out 6
           have hfz43_7 := blk_frozen BK187.out 7
           go_wp2_with (first | ((with_reducible refine gate_callee (f := 68) rfl ?_); refine gz 71 Try.func68 #[.agg #[.int .i64 a0_0, .int .i64 a0_1, .int .i64 a0_2, .int .i64 a0_3, .int .i64 a0_4, .string a0_5, .string a0_6, .bool a0_7], .slice A1 l1.length c1] ?_; (with_reducible refine (samples_glassy.calls k2 a0_0 a0_1 a0_2 a0_3 a0_4 a0_5 a0_6 a0_7 _ _ l1 false _ ?side1 ?side2 A39.out).mono ?_); (case side1 => repeat (first | exact (Kd.C_below HR1.out HB.out) | (with_reducible refine Kd.C_alloc ?_ _) | (with_reducible refine Kd.C_drewN ?_ _) | (with_reducible refine Kd.C_drew ?_))); (case side2 => exact HC1.out); rintro e w44 ⟨rfl, hb⟩; refine ⟨_, rfl, ?_⟩; have n0_ := Aside0.mk (Kd.R_below (oz HO_7) hb); have n1_ := Aside0.mk (blk_below (g := gb187) (o := .cells #[.int .i64 a0_0, .int .i64 a0_1, .int .i64 a0_2, .int .i64 a0_3, .int .i64 a0_4, .string a0_5, .string a0_6, .bool a0_7] 31 (0, 0)) (kz BK187) hb); have n2_ := Aside0.mk (below_step (hz HB) hb); clear HO_7; clear BK187; clear HB; have HO_7 := n0_; have BK187 := n1_; have HB := n2_; clear n0_ n1_ n2_; (try clear hb); (try clear hb2); (try clear hk); (try clear hi)))
           go_meet
           case rel => exact ⟨_, (65535), (by first | rfl | (simp; done) | (simp [*]; done)), H', ⟨by have := HJ3.out; have := HK2.out; first | omega | exact Nat.le_refl _⟩, ⟨oz HO_7⟩, ⟨kz BK187⟩, ⟨hz HB⟩⟩
        case rest =>
         clear HC33
         try clear c17
         try clear c18
         try clear c18b0
         try clear c18b1
         try clear c25
         try clear c25b0
         try clear hcz24_0
         try clear hcz24_1
         try clear hcz24_2
         try clear hcz24_3
         try clear hcz24_4
         try clear hcz24_5
         try clear hcz24_6
         try clear hcz24_7
         try clear hcz6_0
         try clear hcz6_1
         try clear hcz6_2
         try clear hcz6_3
         try clear hcz6_4
         try clear hcz6_5
         try clear hcz6_6
         try clear hcz6_7
         try clear hfz24_0
         try clear hfz24_1
         try clear hfz24_2
         try clear hfz24_3
         try clear hfz24_4
         try clear hfz24_5
         try clear hfz24_6
         try clear hfz24_7
         try clear hfz6_0
         try clear hfz6_1
         try clear hfz6_2
         try clear hfz6_3
         try clear hfz6_4
         try clear hfz6_5
         try clear hfz6_6
         try clear hfz6_7
         obtain ⟨kq, x10_32, rfl, HA, HJ32, HO_7, BK187, HB⟩ := hcut
         cases kq with
         | zero => exact absurd HA.out (by simp [samples_Pixel.j2])
         | succ kj32 =>
          have H := HA.out
          clear HA
          simp only [samples_Pixel.j2] at H
          by_cases c45 : t188 < 3
          ·rw [if_pos c45] at H
           have c45b0 : decide (t188 < 3) = true := decide_eq_true c45
           clear c45
           by_cases c46 : 0 < (x7_2.length : Int)
           ·rw [if_pos c46] at H
            have c46b0 : decide (0 < (x7_2.length : Int)) = true := decide_eq_true c46
            have c46b1 : decide (0 < x7_2.length) = true := decide_eq_true (by omega)
            clear c46
            obtain ⟨y204, hy204⟩ : ∃ y_ : List Int, y_ = (([rd x7_2 0, rd x7_2 0, rd x7_2 0, x10_32] : List Int)) := ⟨_, rfl⟩
            replace H : ((samples_pairs.f kj32 y204).bind fun t207 => (some (t207, 0))) = some (r1, r2) := by first | (rw [hy204]; with_reducible exact H) | (have H2_ := (Option.bind_some _ _).symm.trans H; rw [hy204]; with_reducible exact H2_) | (have H2_ := (Option.bind_some _ _).symm.trans H; with_reducible exact H2_) | with_reducible exact H | (rw [hy204]; exact H) | exact H
            have Ny204 := Aside0.mk hy204
            clear hy204
            replace H := Option.bind_eq_some_iff.mp H
            obtain ⟨t207, A470, H⟩ := H
            replace H : (some (t207, 0)) = some (r1, r2) := H
            have A47 := Aside0.mk A470
            clear A470
            simp only [Option.some.injEq, Prod.mk.injEq] at H
            obtain ⟨rfl, rfl⟩ := H
            try go_wp2
            have n0_ := Aside0.mk (Kd.R_drew HO_7.out)
            have n1_ := Aside0.mk (blk_drew BK187.out)
            have n2_ := Aside0.mk (below_drew1 HB.out)
            clear HO_7
            clear BK187
            clear HB
            have HO_7 := n0_
            have BK187 := n1_
            have HB := n2_
            clear n0_ n1_ n2_
            obtain ⟨Ao49, co49, eo49⟩ := Kd.R_slice HO_7.out
            (first | subst eo49 | (injection eo49 with f1_ f2_ f3_; have f4_ := f1_.symm; have f5_ := f3_.symm; clear f1_ f2_ f3_; subst f4_; subst f5_))
            have p201 : 0 ≤ (0 : Int) := (by omega)
            have q201 : 0 < (x7_2.length : Int) := of_decide_eq_true (by first | (with_reducible assumption) | assumption)
            obtain ⟨ad201, e201, hx201_0⟩ := Kd.at_int (Kd.R_reads' HO_7.out).2.2 0 p201 q201
            cases e201
            have qi201 : (0 < x7_2.length) = True := eq_true (by omega)
            (try rw [show ((0 : Int)).toNat = 0 from rfl] at hx201_0)
            (try rw [Addr.add_zero'] at hx201_0)
            replace p201 := eq_true p201
            replace q201 := eq_true q201
            have p202 : 0 ≤ (0 : Int) := (by omega)
            have q202 : 0 < (x7_2.length : Int) := of_decide_eq_true (by first | (with_reducible assumption) | assumption)
            obtain ⟨ad202, e202, hx202_0⟩ := Kd.at_int (Kd.R_reads' HO_7.out).2.2 0 p202 q202
            obtain rfl : ad201 = ad202 := (by injection e202)
            have qi202 : (0 < x7_2.length) = True := eq_true (by omega)
            (try rw [show ((0 : Int)).toNat = 0 from rfl] at hx202_0)
            (try rw [Addr.add_zero'] at hx202_0)
            replace p202 := eq_true p202
            replace q202 := eq_true q202
            have p203 : 0 ≤ (0 : Int) := (by omega)
            have q203 : 0 < (x7_2.length : Int) := of_decide_eq_true (by first | (with_reducible assumption) | assumption)
            obtain ⟨ad203, e203, hx203_0⟩ := Kd.at_int (Kd.R_reads' HO_7.out).2.2 0 p203 q203
            obtain rfl : ad201 = ad203 := (by injection e203)
            have qi203 : (0 < x7_2.length) = True := eq_true (by omega)
            (try rw [show ((0 : Int)).toNat = 0 from rfl] at hx203_0)
            (try rw [Addr.add_zero'] at hx203_0)
            replace p203 := eq_true p203
            replace q203 := eq_true q203
            refine start_ (n := 14) (S := fun w' => w'.cell? ad201 = some (.int .i64 (rd x7_2 0)) ∧ w'.cell? ad201 = some (.int .i64 (rd x7_2 0)) ∧ w'.cell? ad201 = some (.int .i64 (rd x7_2 0))) (ds := []) (bm 14 0) (by kernel_rfl) rfl rfl ⟨hx201_0, hx202_0, hx203_0⟩ (fun hHeld => ?_); refine with_tabW samples_Pixel.tab18 samples_Pixel.bits18 (fun HT_ HW_ => ?_)
            generalize wc.drew = w48 at HO_7 BK187 HB hx201_0 hx202_0 hx203_0 hHeld ⊢
            refine zp 0 74 (bm 14 1) ?_
            refine zp 1 75 (bm 14 3) ?_
            refine zp 3 77 (bm 14 11) ?_
            refine zp 4 78 (bm 14 27) ?_
            refine zp 6 80 (bm 14 91) ?_
            refine zp 7 81 (bm 14 219) ?_
            refine zp 9 83 (bm 14 731) ?_
            refine zt 2 76 (bm 14 735) rfl (by rintro w' ⟨s0, s1, s2⟩; go_simp; with_reducible rfl) ?_
            refine zt 5 79 (bm 14 767) rfl (by rintro w' ⟨s0, s1, s2⟩; go_simp; with_reducible rfl) ?_
            refine zt 8 82 (bm 14 1023) rfl (by rintro w' ⟨s0, s1, s2⟩; go_simp; with_reducible rfl) ?_
            refine one_ (i := 10) (N := some 84) (bm 14 2047) rfl rfl (one_of HT_.out (by kernel_rfl)) (by decide) (fun K hK => ?_)
            refine Kd.R_lit_step (Kd.int .i64) _ 3 ?hg (N := 84) ?hd (xs := ([rd x7_2 0, rd x7_2 0, rd x7_2 0, x10_32] : List Int)) (inner := [.int .i64 (rd x7_2 0), .int .i64 (rd x7_2 0), .int .i64 (rd x7_2 0), .int .i64 x10_32]) (ok := fun _ => True) (okp := fun _ => True) ?hr ?hp (fun _ hk => hk) trivial (Below.refl _ _) (Nat.le_refl _) (by simp) ?_; (case hd => rfl); (case hg => rfl); (case hr => first | (go_simp; done) | (go_simp; rfl)); (case hp => exact (Reps.one (show Kd.M (Kd.int .i64) _ _ _ (rd x7_2 0) [.int .i64 (rd x7_2 0)] from rfl) (Reps.one (show Kd.M (Kd.int .i64) _ _ _ (rd x7_2 0) [.int .i64 (rd x7_2 0)] from rfl) (Reps.one (show Kd.M (Kd.int .i64) _ _ _ (rd x7_2 0) [.int .i64 (rd x7_2 0)] from rfl) (Reps.one (show Kd.M (Kd.int .i64) _ _ _ x10_32 [.int .i64 x10_32] from rfl) (Reps.none _ _))))))
            intro v205 w50 ho51 hb hg_ hnew_
            have HS0_ := (hb.cell (World.block_lt_of_cell? _ _ (hHeld.1))).trans (hHeld.1)
            have HS1_ := (hb.cell (World.block_lt_of_cell? _ _ (hHeld.2.1))).trans (hHeld.2.1)
            have HS2_ := (hb.cell (World.block_lt_of_cell? _ _ (hHeld.2.2))).trans (hHeld.2.2)
            clear hg_ hnew_
            (first | rw [← Ny204.out] at ho51 | (simp only [Int.reduceToNat] at ho51; rw [← Ny204.out] at ho51))
            have n0_ := Aside0.mk (Kd.R_elder' (oz HO_7) (Kd.R_base ho51) hb)
            have n1_ := Aside0.mk (Kd.R_lower (Kd.R_new' ho51 (Kd.R_lt (oz HO_7))) (below_size (hz HB)))
            have n2_ := Aside0.mk (blk_below (g := gb187) (o := .cells #[.int .i64 a0_0, .int .i64 a0_1, .int .i64 a0_2, .int .i64 a0_3, .int .i64 a0_4, .string a0_5, .string a0_6, .bool a0_7] 31 (0, 0)) (kz BK187) hb)
            have n3_ := Aside0.mk (below_step (hz HB) hb)
            clear HO_7
            clear BK187
            clear HB
            have HO_7 := n0_
            have HO206 := n1_
            have BK187 := n2_
            have HB := n3_
            clear n0_ n1_ n2_ n3_
            clear hb ho51
            obtain ⟨Ao52, co52, eo52⟩ := Kd.R_slice HO206.out
            (first | subst eo52 | (injection eo52 with f1_ f2_ f3_; have f4_ := f1_.symm; have f5_ := f3_.symm; clear f1_ f2_ f3_; subst f4_; subst f5_))
            refine hK.out _ _ ⟨HS0_, HS1_, HS2_⟩ (fun hHeld => ?_)
            clear hK K
            refine norm_ (a' := ?_) ?_ ?_
            rotate_left
            ·show Act.put _ (some 84) _ = _
             simp only [Act.put, zq1, zq2, zq3, i64_w, i32_w]
             rfl
            refine one_ (i := 11) (N := some 85) (bm 14 4095) rfl rfl (one_of HT_.out (by kernel_rfl)) (by decide) (fun K hK => ?_)
            refine goes_ Try.func69 (by kernel_rfl) rfl #[.slice Ao52 y204.length co52] (by rfl) rfl rfl (by (try simp only [List.map_toArray, List.map_cons, List.map_nil]); first | done | rfl | (simp only [List.length_drop, List.length_take]; rfl) | (simp only [ByteArray.size_extract, Nat.min_self]; done) | (simp only [ByteArray.size_extract, Nat.min_self]; rfl)) ?_
            with_reducible refine (samples_pairs.calls kj32 _ _ y204 t207 _ ?side1 ?side2 A47.out).mono ?_
            (case side1 => repeat (first | exact (Kd.R_reads' HO206.out).2.2 | (with_reducible refine Kd.C_alloc ?_ _) | (with_reducible refine Kd.C_drewN ?_ _) | (with_reducible refine Kd.C_drew ?_)))
            (case side2 => exact (Kd.R_reads' HO206.out).2.1)
            rintro e w53 ⟨rfl, hb⟩
            have HS0_ := (hb.cell (World.block_lt_of_cell? _ _ (hHeld.1))).trans (hHeld.1)
            have HS1_ := (hb.cell (World.block_lt_of_cell? _ _ (hHeld.2.1))).trans (hHeld.2.1)
            have HS2_ := (hb.cell (World.block_lt_of_cell? _ _ (hHeld.2.2))).trans (hHeld.2.2)
            refine ⟨_, rfl, ?_⟩
            have n0_ := Aside0.mk (Kd.R_below (oz HO_7) hb)
            have n1_ := Aside0.mk (Kd.R_below (oz HO206) hb)
            have n2_ := Aside0.mk (blk_below (g := gb187) (o := .cells #[.int .i64 a0_0, .int .i64 a0_1, .int .i64 a0_2, .int .i64 a0_3, .int .i64 a0_4, .string a0_5, .string a0_6, .bool a0_7] 31 (0, 0)) (kz BK187) hb)
            have n3_ := Aside0.mk (below_step (hz HB) hb)
            clear HO_7
            clear HO206
            clear BK187
            clear HB
            have HO_7 := n0_
            have HO206 := n1_
            have BK187 := n2_
            have HB := n3_
            clear n0_ n1_ n2_ n3_
            (try clear hb)
            refine hK.out _ _ ⟨HS0_, HS1_, HS2_⟩ (fun hHeld => ?_)
            clear hK K
            refine norm_ (a' := ?_) ?_ ?_
            rotate_left
            ·show Act.put _ (some 85) _ = _
             simp only [Act.put, zq1, zq2, zq3, i64_w, i32_w]
             rfl
            refine zp 12 4 (bm 14 8191) ?_
            refine zp 13 5 (bm 14 16383) ?_
            refine done_ (done_of HT_.out (by kernel_rfl)) ?_
            try go_wp2
            go_ret2
            exact ⟨by first | rfl | (simp [errW_none, errW_some] <;> rfl) | (simp [*, errW_none, errW_some] <;> rfl), by repeat (first | (with_reducible first | exact HB.out | apply below_alloc | apply pw_below_drewN | apply below_drew1 | refine below_set ?_ GE187.out) | exact HB.out)⟩
           ·rw [if_neg c46] at H
            exact absurd H (by simp)
          ·rw [if_neg c45] at H
           have c45b0 : decide (t188 < 3) = false := decide_eq_false c45
           clear c45
           by_cases c54 : 0 < (x7_2.length : Int)
           ·rw [if_pos c54] at H
            have c54b0 : decide (0 < (x7_2.length : Int)) = true := decide_eq_true c54
            have c54b1 : decide (0 < x7_2.length) = true := decide_eq_true (by omega)
            clear c54
            by_cases c55 : 1 < (x7_2.length : Int)
            ·rw [if_pos c55] at H
             have c55b0 : decide (1 < (x7_2.length : Int)) = true := decide_eq_true c55
             have c55b1 : decide (1 < x7_2.length) = true := decide_eq_true (by omega)
             clear c55
             by_cases c56 : 2 < (x7_2.length : Int)
             ·rw [if_pos c56] at H
              have c56b0 : decide (2 < (x7_2.length : Int)) = true := decide_eq_true c56
              have c56b1 : decide (2 < x7_2.length) = true := decide_eq_true (by omega)
              clear c56
              obtain ⟨y211, hy211⟩ : ∃ y_ : List Int, y_ = (([rd x7_2 0, rd x7_2 1, rd x7_2 2, x10_32] : List Int)) := ⟨_, rfl⟩
              replace H : ((samples_pairs.f kj32 y211).bind fun t214 => (some (t214, 0))) = some (r1, r2) := by first | (rw [hy211]; with_reducible exact H) | (have H2_ := (Option.bind_some _ _).symm.trans H; rw [hy211]; with_reducible exact H2_) | (have H2_ := (Option.bind_some _ _).symm.trans H; with_reducible exact H2_) | with_reducible exact H | (rw [hy211]; exact H) | exact H
              have Ny211 := Aside0.mk hy211
              clear hy211
              replace H := Option.bind_eq_some_iff.mp H
              obtain ⟨t214, A570, H⟩ := H
              replace H : (some (t214, 0)) = some (r1, r2) := H
              have A57 := Aside0.mk A570
              clear A570
              simp only [Option.some.injEq, Prod.mk.injEq] at H
              obtain ⟨rfl, rfl⟩ := H
              try go_wp2
              have n0_ := Aside0.mk (Kd.R_drew HO_7.out)
              have n1_ := Aside0.mk (blk_drew BK187.out)
              have n2_ := Aside0.mk (below_drew1 HB.out)
              clear HO_7
              clear BK187
              clear HB
              have HO_7 := n0_
              have BK187 := n1_
              have HB := n2_
              clear n0_ n1_ n2_
              obtain ⟨Ao59, co59, eo59⟩ := Kd.R_slice HO_7.out
              (first | subst eo59 | (injection eo59 with f1_ f2_ f3_; have f4_ := f1_.symm; have f5_ := f3_.symm; clear f1_ f2_ f3_; subst f4_; subst f5_))
              have p208 : 0 ≤ (0 : Int) := (by omega)
              have q208 : 0 < (x7_2.length : Int) := of_decide_eq_true (by first | (with_reducible assumption) | assumption)
              obtain ⟨ad208, e208, hx208_0⟩ := Kd.at_int (Kd.R_reads' HO_7.out).2.2 0 p208 q208
              cases e208
              have qi208 : (0 < x7_2.length) = True := eq_true (by omega)
              (try rw [show ((0 : Int)).toNat = 0 from rfl] at hx208_0)
              (try rw [Addr.add_zero'] at hx208_0)
              replace p208 := eq_true p208
              replace q208 := eq_true q208
              have p209 : 0 ≤ (1 : Int) := (by omega)
              have q209 : 1 < (x7_2.length : Int) := of_decide_eq_true (by first | (with_reducible assumption) | assumption)
              obtain ⟨ad209, e209, hx209_0⟩ := Kd.at_int (Kd.R_reads' HO_7.out).2.2 1 p209 q209
              obtain rfl : ad208 = ad209 := (by injection e209)
              (try simp only [show (1 : Int).toNat = 1 from rfl, Nat.reduceMul, Nat.reduceEqDiff, Go.Addr.add, ↓reduceIte] at hx209_0)
              have qi209 : (1 < x7_2.length) = True := eq_true (by omega)
              (try rw [show ((1 : Int)).toNat = 1 from rfl] at hx209_0)
              replace p209 := eq_true p209
              replace q209 := eq_true q209
              have p210 : 0 ≤ (2 : Int) := (by omega)
              have q210 : 2 < (x7_2.length : Int) := of_decide_eq_true (by first | (with_reducible assumption) | assumption)
              obtain ⟨ad210, e210, hx210_0⟩ := Kd.at_int (Kd.R_reads' HO_7.out).2.2 2 p210 q210
              obtain rfl : ad208 = ad210 := (by injection e210)
              (try simp only [show (2 : Int).toNat = 2 from rfl, Nat.reduceMul, Nat.reduceEqDiff, Go.Addr.add, ↓reduceIte] at hx210_0)
              have qi210 : (2 < x7_2.length) = True := eq_true (by omega)
              (try rw [show ((2 : Int)).toNat = 2 from rfl] at hx210_0)
              replace p210 := eq_true p210
              replace q210 := eq_true q210
              refine start_ (n := 14) (S := fun w' => w'.cell? ad208 = some (.int .i64 (rd x7_2 0)) ∧ w'.cell? ⟨ad208.block, ad208.off + 1, none⟩ = some (.int .i64 (rd x7_2 1)) ∧ w'.cell? ⟨ad208.block, ad208.off + 2, none⟩ = some (.int .i64 (rd x7_2 2))) (ds := []) (bm 14 0) (by kernel_rfl) rfl rfl ⟨hx208_0, hx209_0, hx210_0⟩ (fun hHeld => ?_); refine with_tabW samples_Pixel.tab19 samples_Pixel.bits19 (fun HT_ HW_ => ?_)
              generalize wc.drew = w58 at HO_7 BK187 HB hx208_0 hx209_0 hx210_0 hHeld ⊢
              refine zp 0 86 (bm 14 1) ?_
              refine zp 1 87 (bm 14 3) ?_
              refine zp 3 89 (bm 14 11) ?_
              refine zp 4 90 (bm 14 27) ?_
              refine zp 6 92 (bm 14 91) ?_
              refine zp 7 93 (bm 14 219) ?_
              refine zp 9 95 (bm 14 731) ?_
              refine zt 2 88 (bm 14 735) rfl (by rintro w' ⟨s0, s1, s2⟩; go_simp; with_reducible rfl) ?_
              refine zt 5 91 (bm 14 767) rfl (by rintro w' ⟨s0, s1, s2⟩; go_simp; with_reducible rfl) ?_
              refine zt 8 94 (bm 14 1023) rfl (by rintro w' ⟨s0, s1, s2⟩; go_simp; with_reducible rfl) ?_
              refine one_ (i := 10) (N := some 96) (bm 14 2047) rfl rfl (one_of HT_.out (by kernel_rfl)) (by decide) (fun K hK => ?_)
              refine Kd.R_lit_step (Kd.int .i64) _ 3 ?hg (N := 96) ?hd (xs := ([rd x7_2 0, rd x7_2 1, rd x7_2 2, x10_32] : List Int)) (inner := [.int .i64 (rd x7_2 0), .int .i64 (rd x7_2 1), .int .i64 (rd x7_2 2), .int .i64 x10_32]) (ok := fun _ => True) (okp := fun _ => True) ?hr ?hp (fun _ hk => hk) trivial (Below.refl _ _) (Nat.le_refl _) (by simp) ?_; (case hd => rfl); (case hg => rfl); (case hr => first | (go_simp; done) | (go_simp; rfl)); (case hp => exact (Reps.one (show Kd.M (Kd.int .i64) _ _ _ (rd x7_2 0) [.int .i64 (rd x7_2 0)] from rfl) (Reps.one (show Kd.M (Kd.int .i64) _ _ _ (rd x7_2 1) [.int .i64 (rd x7_2 1)] from rfl) (Reps.one (show Kd.M (Kd.int .i64) _ _ _ (rd x7_2 2) [.int .i64 (rd x7_2 2)] from rfl) (Reps.one (show Kd.M (Kd.int .i64) _ _ _ x10_32 [.int .i64 x10_32] from rfl) (Reps.none _ _))))))
              intro v212 w60 ho61 hb hg_ hnew_
              have HS0_ := (hb.cell (World.block_lt_of_cell? _ _ (hHeld.1))).trans (hHeld.1)
              have HS1_ := (hb.cell (World.block_lt_of_cell? _ _ (hHeld.2.1))).trans (hHeld.2.1)
              have HS2_ := (hb.cell (World.block_lt_of_cell? _ _ (hHeld.2.2))).trans (hHeld.2.2)
              clear hg_ hnew_
              (first | rw [← Ny211.out] at ho61 | (simp only [Int.reduceToNat] at ho61; rw [← Ny211.out] at ho61))
              have n0_ := Aside0.mk (Kd.R_elder' (oz HO_7) (Kd.R_base ho61) hb)
              have n1_ := Aside0.mk (Kd.R_lower (Kd.R_new' ho61 (Kd.R_lt (oz HO_7))) (below_size (hz HB)))
              have n2_ := Aside0.mk (blk_below (g := gb187) (o := .cells #[.int .i64 a0_0, .int .i64 a0_1, .int .i64 a0_2, .int .i64 a0_3, .int .i64 a0_4, .string a0_5, .string a0_6, .bool a0_7] 31 (0, 0)) (kz BK187) hb)
              have n3_ := Aside0.mk (below_step (hz HB) hb)
              clear HO_7
              clear BK187
              clear HB
              have HO_7 := n0_
              have HO213 := n1_
              have BK187 := n2_
              have HB := n3_
              clear n0_ n1_ n2_ n3_
              clear hb ho61
              obtain ⟨Ao62, co62, eo62⟩ := Kd.R_slice HO213.out
              (first | subst eo62 | (injection eo62 with f1_ f2_ f3_; have f4_ := f1_.symm; have f5_ := f3_.symm; clear f1_ f2_ f3_; subst f4_; subst f5_))
              refine hK.out _ _ ⟨HS0_, HS1_, HS2_⟩ (fun hHeld => ?_)
              clear hK K
              refine norm_ (a' := ?_) ?_ ?_
              rotate_left
              ·show Act.put _ (some 96) _ = _
               simp only [Act.put, zq1, zq2, zq3, i64_w, i32_w]
               rfl
              refine one_ (i := 11) (N := some 97) (bm 14 4095) rfl rfl (one_of HT_.out (by kernel_rfl)) (by decide) (fun K hK => ?_)
              refine goes_ Try.func69 (by kernel_rfl) rfl #[.slice Ao62 y211.length co62] (by rfl) rfl rfl (by (try simp only [List.map_toArray, List.map_cons, List.map_nil]); first | done | rfl | (simp only [List.length_drop, List.length_take]; rfl) | (simp only [ByteArray.size_extract, Nat.min_self]; done) | (simp only [ByteArray.size_extract, Nat.min_self]; rfl)) ?_
              with_reducible refine (samples_pairs.calls kj32 _ _ y211 t214 _ ?side1 ?side2 A57.out).mono ?_
              (case side1 => repeat (first | exact (Kd.R_reads' HO213.out).2.2 | (with_reducible refine Kd.C_alloc ?_ _) | (with_reducible refine Kd.C_drewN ?_ _) | (with_reducible refine Kd.C_drew ?_)))
              (case side2 => exact (Kd.R_reads' HO213.out).2.1)
              rintro e w63 ⟨rfl, hb⟩
              have HS0_ := (hb.cell (World.block_lt_of_cell? _ _ (hHeld.1))).trans (hHeld.1)
              have HS1_ := (hb.cell (World.block_lt_of_cell? _ _ (hHeld.2.1))).trans (hHeld.2.1)
              have HS2_ := (hb.cell (World.block_lt_of_cell? _ _ (hHeld.2.2))).trans (hHeld.2.2)
              refine ⟨_, rfl, ?_⟩
              have n0_ := Aside0.mk (Kd.R_below (oz HO_7) hb)
              have n1_ := Aside0.mk (Kd.R_below (oz HO213) hb)
              have n2_ := Aside0.mk (blk_below (g := gb187) (o := .cells #[.int .i64 a0_0, .int .i64 a0_1, .int .i64 a0_2, .int .i64 a0_3, .int .i64 a0_4, .string a0_5, .string a0_6, .bool a0_7] 31 (0, 0)) (kz BK187) hb)
              have n3_ := Aside0.mk (below_step (hz HB) hb)
              clear HO_7
              clear HO213
              clear BK187
              clear HB
              have HO_7 := n0_
              have HO213 := n1_
              have BK187 := n2_
              have HB := n3_
              clear n0_ n1_ n2_ n3_
              (try clear hb)
              refine hK.out _ _ ⟨HS0_, HS1_, HS2_⟩ (fun hHeld => ?_)
              clear hK K
              refine norm_ (a' := ?_) ?_ ?_
              rotate_left
              ·show Act.put _ (some 97) _ = _
               simp only [Act.put, zq1, zq2, zq3, i64_w, i32_w]
               rfl
              refine zp 12 4 (bm 14 8191) ?_
              refine zp 13 5 (bm 14 16383) ?_
              refine done_ (done_of HT_.out (by kernel_rfl)) ?_
              try go_wp2
              go_ret2
              exact ⟨by first | rfl | (simp [errW_none, errW_some] <;> rfl) | (simp [*, errW_none, errW_some] <;> rfl), by repeat (first | (with_reducible first | exact HB.out | apply below_alloc | apply pw_below_drewN | apply below_drew1 | refine below_set ?_ GE187.out) | exact HB.out)⟩
             ·rw [if_neg c56] at H
              exact absurd H (by simp)
            ·rw [if_neg c55] at H
             exact absurd H (by simp)
           ·rw [if_neg c54] at H
            exact absurd H (by simp)

end Go.Proofs.Ytejljcglbkjgkaa.PL12
