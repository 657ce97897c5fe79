/- Printed for this claim by a program of this session over the kit's print program: the Go functions as Lean functions, and proofs that the calls come to these answers. No conditions. -/
import Derived.Test.YtejljcglbkjgkaaSH
import Derived.Test.YtejljcglbkjgkaaSPL12x3
import Derived.Test.YtejljcglbkjgkaaSPL12x17
import Derived.Test.YtejljcglbkjgkaaSPL12x21
namespace Go.Proofs.Ytejljcglbkjgkaa.PL12
open Go.RowKit Go.Proofs.YtejljcglbkjgkaaW.PrintWords Go.Proofs.YtejljcglbkjgkaaW.PrintLast Go.Proofs.YtejljcglbkjgkaaW.PrintMore
attribute [local go_sem] max2_int min2_int max_two min_two max_three min_three max_four min_four   -- for this text's walks alone
set_option linter.unusedVariables false
set_option linter.unusedSimpArgs false

def vitrinelaw12_grey.f  : Option (Int × Int × Int × Int × Int × ByteArray × ByteArray × Bool) := some (1, 1, 8, 0, 0, (⟨#[]⟩ : ByteArray), (⟨#[]⟩ : ByteArray), false)
set_option maxHeartbeats 40000000 in
set_option maxRecDepth 100000 in
theorem vitrinelaw12_grey.calls  (r1 : Int) (r2 : Int) (r3 : Int) (r4 : Int) (r5 : Int) (r6 : ByteArray) (r7 : ByteArray) (r8 : Bool) (w : World) (h : vitrinelaw12_grey.f  = some (r1, r2, r3, r4, r5, r6, r7, r8)) :
  Calls Try.prog 20 #[] w fun e w' => e = .returned (.agg #[.int .i64 r1, .int .i64 r2, .int .i64 r3, .int .i64 r4, .int .i64 r5, .string r6, .string r7, .bool r8]) ∧ Below w.heap.size w w' := by
 have hu31 := Try.underlying31
 have hu29 := Try.underlying29
 have HB := Aside0.mk (Below.refl w.heap.size w)
 have H : (some (1, 1, 8, 0, 0, (⟨#[]⟩ : ByteArray), (⟨#[]⟩ : ByteArray), false)) = some (r1, r2, r3, r4, r5, r6, r7, r8) := h
 clear h
 simp only [Option.some.injEq, Prod.mk.injEq] at H
 obtain ⟨rfl, rfl, rfl, rfl, rfl, rfl, rfl, rfl⟩ := H
 go_enter Try.func20, Try.ntmps20
 go_wp2_with (first | ((with_reducible refine gate_dst (N := 0) rfl ?_); refine box_event ?hg (N := 0) ?hd (cs := #[.int .i64 0, .int .i64 0, .int .i64 0, .int .i64 0, .int .i64 0, .string (⟨#[]⟩ : ByteArray), .string (⟨#[]⟩ : ByteArray), .bool false]) (t := 31) ?hr ?_; (case hd => rfl); (case hg => rfl); (case hr => first | (go_simp; done) | (go_simp; rfl)); intro gb260 hg w1 hbox hb; have n0_ := Aside0.mk (below_step (hz HB) hb); have n1_ := Aside0.mk (hbox); have n2_ := Aside0.mk ((by rw [hg]; exact (below_size (hz HB)) : w.heap.size ≤ gb260)); have n3_ := Aside0.mk ((by rw [hg]; exact (below_size (hz HB)) : w.heap.size ≤ gb260)); clear HB; have HB := n0_; have BK260 := n1_; have GW260 := n2_; have GE260 := n3_; clear n0_ n1_ n2_ n3_; clear hb hbox hg; have hcz2_0 : w1.cell? ⟨gb260, 0, none⟩ = some (.int .i64 0) := (blk_cell BK260.out 0).trans rfl; have hcz2_1 : w1.cell? ⟨gb260, 1, none⟩ = some (.int .i64 0) := (blk_cell BK260.out 1).trans rfl; have hcz2_2 : w1.cell? ⟨gb260, 2, none⟩ = some (.int .i64 0) := (blk_cell BK260.out 2).trans rfl; have hcz2_3 : w1.cell? ⟨gb260, 3, none⟩ = some (.int .i64 0) := (blk_cell BK260.out 3).trans rfl; have hcz2_4 : w1.cell? ⟨gb260, 4, none⟩ = some (.int .i64 0) := (blk_cell BK260.out 4).trans rfl; have hcz2_5 : w1.cell? ⟨gb260, 5, none⟩ = some (.string (⟨#[]⟩ : ByteArray)) := (blk_cell BK260.out 5).trans rfl; have hcz2_6 : w1.cell? ⟨gb260, 6, none⟩ = some (.string (⟨#[]⟩ : ByteArray)) := (blk_cell BK260.out 6).trans rfl; have hcz2_7 : w1.cell? ⟨gb260, 7, none⟩ = some (.bool false) := (blk_cell BK260.out 7).trans rfl; have hfz2_0 := blk_frozen BK260.out 0; have hfz2_1 := blk_frozen BK260.out 1; have hfz2_2 := blk_frozen BK260.out 2; have hfz2_3 := blk_frozen BK260.out 3; have hfz2_4 := blk_frozen BK260.out 4; have hfz2_5 := blk_frozen BK260.out 5; have hfz2_6 := blk_frozen BK260.out 6; have hfz2_7 := blk_frozen BK260.out 7))
 refine bodyPost_ret (results_cell_row rfl _ _ gb260 31 #[.int .i64 1, .int .i64 1, .int .i64 8, .int .i64 0, .int .i64 0, .string (⟨#[]⟩ : ByteArray), .string (⟨#[]⟩ : ByteArray), .bool false] (0, 0) _ rfl (by (with_reducible repeat (first | refine blk_drewN ?_ _ | refine blk_drew ?_ | refine blk_alloc ?_ _)); refine blk_put (cs := #[.int .i64 1, .int .i64 1, .int .i64 8, .int .i64 0, .int .i64 0, .string (⟨#[]⟩ : ByteArray), .string (⟨#[]⟩ : ByteArray), .bool false]) ?_ 7 _ rfl; (with_reducible repeat (first | refine blk_drewN ?_ _ | refine blk_drew ?_ | refine blk_alloc ?_ _)); refine blk_put (cs := #[.int .i64 1, .int .i64 1, .int .i64 8, .int .i64 0, .int .i64 0, .string (⟨#[]⟩ : ByteArray), .string (⟨#[]⟩ : ByteArray), .bool false]) ?_ 6 _ rfl; (with_reducible repeat (first | refine blk_drewN ?_ _ | refine blk_drew ?_ | refine blk_alloc ?_ _)); refine blk_put (cs := #[.int .i64 1, .int .i64 1, .int .i64 8, .int .i64 0, .int .i64 0, .string (⟨#[]⟩ : ByteArray), .string (⟨#[]⟩ : ByteArray), .bool false]) ?_ 5 _ rfl; (with_reducible repeat (first | refine blk_drewN ?_ _ | refine blk_drew ?_ | refine blk_alloc ?_ _)); refine blk_put (cs := #[.int .i64 1, .int .i64 1, .int .i64 8, .int .i64 0, .int .i64 0, .string (⟨#[]⟩ : ByteArray), .string (⟨#[]⟩ : ByteArray), .bool false]) ?_ 4 _ rfl; (with_reducible repeat (first | refine blk_drewN ?_ _ | refine blk_drew ?_ | refine blk_alloc ?_ _)); refine blk_put (cs := #[.int .i64 1, .int .i64 1, .int .i64 8, .int .i64 0, .int .i64 0, .string (⟨#[]⟩ : ByteArray), .string (⟨#[]⟩ : ByteArray), .bool false]) ?_ 3 _ rfl; (with_reducible repeat (first | refine blk_drewN ?_ _ | refine blk_drew ?_ | refine blk_alloc ?_ _)); refine blk_put (cs := #[.int .i64 1, .int .i64 1, .int .i64 0, .int .i64 0, .int .i64 0, .string (⟨#[]⟩ : ByteArray), .string (⟨#[]⟩ : ByteArray), .bool false]) ?_ 2 _ rfl; (with_reducible repeat (first | refine blk_drewN ?_ _ | refine blk_drew ?_ | refine blk_alloc ?_ _)); refine blk_put (cs := #[.int .i64 1, .int .i64 0, .int .i64 0, .int .i64 0, .int .i64 0, .string (⟨#[]⟩ : ByteArray), .string (⟨#[]⟩ : ByteArray), .bool false]) ?_ 1 _ rfl; (with_reducible repeat (first | refine blk_drewN ?_ _ | refine blk_drew ?_ | refine blk_alloc ?_ _)); refine blk_put (cs := #[.int .i64 0, .int .i64 0, .int .i64 0, .int .i64 0, .int .i64 0, .string (⟨#[]⟩ : ByteArray), .string (⟨#[]⟩ : ByteArray), .bool false]) ?_ 0 _ rfl; (with_reducible repeat (first | refine blk_drewN ?_ _ | refine blk_drew ?_ | refine blk_alloc ?_ _)); exact BK260.out) Try.underlying31 rfl (by kernel_rfl)) rfl ?_
 exact ⟨by first | rfl | (simp [errW_none, errW_some] <;> rfl) | (simp [*, errW_none, errW_some] <;> rfl), by repeat (first | (with_reducible first | exact HB.out | apply below_alloc | apply pw_below_drewN | apply below_drew1 | refine below_set ?_ GE260.out) | exact HB.out)⟩

end Go.Proofs.Ytejljcglbkjgkaa.PL12

namespace Go.Proofs.Ytejljcglbkjgkaa.PL12
open Go.RowKit Go.Proofs.YtejljcglbkjgkaaW.PrintWords Go.Proofs.YtejljcglbkjgkaaW.PrintLast Go.Proofs.YtejljcglbkjgkaaW.PrintMore
attribute [local go_sem] max2_int min2_int max_two min_two max_three min_three max_four min_four   -- for this text's walks alone
set_option linter.unusedVariables false
set_option linter.unusedSimpArgs false

attribute [local go_sem high] eqA23
def vitrinelaw12_awake.f (k : Nat)  : Option (Bool) := (vitrinelaw12_grey.f).bind fun bt261 => ((pixel_Image.f k bt261.1 bt261.2.1 bt261.2.2.1 bt261.2.2.2.1 bt261.2.2.2.2.1 bt261.2.2.2.2.2.1 bt261.2.2.2.2.2.2.1 bt261.2.2.2.2.2.2.2 (⟨#[0, 128]⟩ : ByteArray)).bind fun bt269 => ((vitrinelaw12_grey.f).bind fun bt274 => ((pixel_Image.f k bt274.1 bt274.2.1 bt274.2.2.1 bt274.2.2.2.1 bt274.2.2.2.2.1 bt274.2.2.2.2.2.1 bt274.2.2.2.2.2.2.1 bt274.2.2.2.2.2.2.2 (⟨#[0]⟩ : ByteArray)).bind fun bt282 => ((vitrinelaw12_grey.f).bind fun bt287 => ((pixel_Image.f k bt287.1 bt287.2.1 bt287.2.2.1 bt287.2.2.2.1 bt287.2.2.2.2.1 bt287.2.2.2.2.2.1 bt287.2.2.2.2.2.2.1 bt287.2.2.2.2.2.2.2 (⟨#[5, 128]⟩ : ByteArray)).bind fun bt295 => (if 8 ≤ 281474976710656 then ((pixel_Rows.f k 1 1 (strOfNums (List.replicate 8 0))).bind fun bt303 => (if bt269.2.2.2 = 0 then (if (bt269.1 == 1 && (bt269.2.1 == 1 && (bt269.2.2.1.toList == ([128, 128, 128, 128, 128, 128, 255, 255] : List UInt8)))) = true then (if bt282.2.2.2 = 30 then (if bt295.2.2.2 = 28 then (if bt303.2 = 0 then (if 9 ≤ 281474976710656 then (some (bt303.1.toList == (strOfNums (List.replicate 9 0)).toList)) else (none)) else (none)) else (none)) else (none)) else (none)) else (none))) else (none)))))))
theorem vitrinelaw12_awake.mono : ∀ k, LeO (vitrinelaw12_awake.f k ) (vitrinelaw12_awake.f (k + 1) ) := by
 intro  k
 unfold vitrinelaw12_awake.f
 repeat' first
   | (with_reducible exact pixel_Image.mono _ _ _ _ _ _ _ _ _ _)
   | (with_reducible exact pixel_Rows.mono _ _ _ _)
   | (with_reducible exact LeO.refl _)
   | (with_reducible exact LeO.none _)
   | (with_reducible refine LeO.ite ?_ ?_)
   | (with_reducible refine LeO.bind ?_ (fun _ => ?_))
   | exact pixel_Image.mono _ _ _ _ _ _ _ _ _ _
   | exact pixel_Rows.mono _ _ _ _
   | exact LeO.none _
   | refine LeO.ite ?_ ?_
   | refine LeO.bind ?_ (fun _ => ?_)
set_option maxHeartbeats 40000000 in
set_option maxRecDepth 100000 in
theorem vitrinelaw12_awake.calls (k : Nat)  (r : Bool) (w : World) (h : vitrinelaw12_awake.f k  = some r) :
  Calls Try.prog 10 #[] w fun e w' => e = .returned (.bool r) ∧ Below w.heap.size w w' := by
 have hu23 := Try.underlying23
 have HB := Aside0.mk (Below.refl w.heap.size w)
 have H : ((vitrinelaw12_grey.f).bind fun bt261 => ((pixel_Image.f k bt261.1 bt261.2.1 bt261.2.2.1 bt261.2.2.2.1 bt261.2.2.2.2.1 bt261.2.2.2.2.2.1 bt261.2.2.2.2.2.2.1 bt261.2.2.2.2.2.2.2 (⟨#[0, 128]⟩ : ByteArray)).bind fun bt269 => ((vitrinelaw12_grey.f).bind fun bt274 => ((pixel_Image.f k bt274.1 bt274.2.1 bt274.2.2.1 bt274.2.2.2.1 bt274.2.2.2.2.1 bt274.2.2.2.2.2.1 bt274.2.2.2.2.2.2.1 bt274.2.2.2.2.2.2.2 (⟨#[0]⟩ : ByteArray)).bind fun bt282 => ((vitrinelaw12_grey.f).bind fun bt287 => ((pixel_Image.f k bt287.1 bt287.2.1 bt287.2.2.1 bt287.2.2.2.1 bt287.2.2.2.2.1 bt287.2.2.2.2.2.1 bt287.2.2.2.2.2.2.1 bt287.2.2.2.2.2.2.2 (⟨#[5, 128]⟩ : ByteArray)).bind fun bt295 => (if 8 ≤ 281474976710656 then ((pixel_Rows.f k 1 1 (strOfNums (List.replicate 8 0))).bind fun bt303 => (if bt269.2.2.2 = 0 then (if (bt269.1 == 1 && (bt269.2.1 == 1 && (bt269.2.2.1.toList == ([128, 128, 128, 128, 128, 128, 255, 255] : List UInt8)))) = true then (if bt282.2.2.2 = 30 then (if bt295.2.2.2 = 28 then (if bt303.2 = 0 then (if 9 ≤ 281474976710656 then (some (bt303.1.toList == (strOfNums (List.replicate 9 0)).toList)) else (none)) else (none)) else (none)) else (none)) else (none)) else (none))) else (none)))))))) = some r := h
 clear h
 replace H := Option.bind_eq_some_iff.mp H
 obtain ⟨⟨t261, t262, t263, t264, t265, t266, t267, t268⟩, A10, H⟩ := H
 replace H : ((pixel_Image.f k t261 t262 t263 t264 t265 t266 t267 t268 (⟨#[0, 128]⟩ : ByteArray)).bind fun bt269 => ((vitrinelaw12_grey.f).bind fun bt274 => ((pixel_Image.f k bt274.1 bt274.2.1 bt274.2.2.1 bt274.2.2.2.1 bt274.2.2.2.2.1 bt274.2.2.2.2.2.1 bt274.2.2.2.2.2.2.1 bt274.2.2.2.2.2.2.2 (⟨#[0]⟩ : ByteArray)).bind fun bt282 => ((vitrinelaw12_grey.f).bind fun bt287 => ((pixel_Image.f k bt287.1 bt287.2.1 bt287.2.2.1 bt287.2.2.2.1 bt287.2.2.2.2.1 bt287.2.2.2.2.2.1 bt287.2.2.2.2.2.2.1 bt287.2.2.2.2.2.2.2 (⟨#[5, 128]⟩ : ByteArray)).bind fun bt295 => (if 8 ≤ 281474976710656 then ((pixel_Rows.f k 1 1 (strOfNums (List.replicate 8 0))).bind fun bt303 => (if bt269.2.2.2 = 0 then (if (bt269.1 == 1 && (bt269.2.1 == 1 && (bt269.2.2.1.toList == ([128, 128, 128, 128, 128, 128, 255, 255] : List UInt8)))) = true then (if bt282.2.2.2 = 30 then (if bt295.2.2.2 = 28 then (if bt303.2 = 0 then (if 9 ≤ 281474976710656 then (some (bt303.1.toList == (strOfNums (List.replicate 9 0)).toList)) else (none)) else (none)) else (none)) else (none)) else (none)) else (none))) else (none))))))) = some r := H
 have A1 := Aside0.mk A10
 clear A10
 replace H := Option.bind_eq_some_iff.mp H
 obtain ⟨⟨t269, t270, t271, t272⟩, A20, H⟩ := H
 replace H : ((vitrinelaw12_grey.f).bind fun bt274 => ((pixel_Image.f k bt274.1 bt274.2.1 bt274.2.2.1 bt274.2.2.2.1 bt274.2.2.2.2.1 bt274.2.2.2.2.2.1 bt274.2.2.2.2.2.2.1 bt274.2.2.2.2.2.2.2 (⟨#[0]⟩ : ByteArray)).bind fun bt282 => ((vitrinelaw12_grey.f).bind fun bt287 => ((pixel_Image.f k bt287.1 bt287.2.1 bt287.2.2.1 bt287.2.2.2.1 bt287.2.2.2.2.1 bt287.2.2.2.2.2.1 bt287.2.2.2.2.2.2.1 bt287.2.2.2.2.2.2.2 (⟨#[5, 128]⟩ : ByteArray)).bind fun bt295 => (if 8 ≤ 281474976710656 then ((pixel_Rows.f k 1 1 (strOfNums (List.replicate 8 0))).bind fun bt303 => (if t272 = 0 then (if (t269 == 1 && (t270 == 1 && (t271.toList == ([128, 128, 128, 128, 128, 128, 255, 255] : List UInt8)))) = true then (if bt282.2.2.2 = 30 then (if bt295.2.2.2 = 28 then (if bt303.2 = 0 then (if 9 ≤ 281474976710656 then (some (bt303.1.toList == (strOfNums (List.replicate 9 0)).toList)) else (none)) else (none)) else (none)) else (none)) else (none)) else (none))) else (none)))))) = some r := H
 have A2 := Aside0.mk A20
 clear A20
 replace H := Option.bind_eq_some_iff.mp H
 obtain ⟨⟨t274, t275, t276, t277, t278, t279, t280, t281⟩, A30, H⟩ := H
 replace H : ((pixel_Image.f k t274 t275 t276 t277 t278 t279 t280 t281 (⟨#[0]⟩ : ByteArray)).bind fun bt282 => ((vitrinelaw12_grey.f).bind fun bt287 => ((pixel_Image.f k bt287.1 bt287.2.1 bt287.2.2.1 bt287.2.2.2.1 bt287.2.2.2.2.1 bt287.2.2.2.2.2.1 bt287.2.2.2.2.2.2.1 bt287.2.2.2.2.2.2.2 (⟨#[5, 128]⟩ : ByteArray)).bind fun bt295 => (if 8 ≤ 281474976710656 then ((pixel_Rows.f k 1 1 (strOfNums (List.replicate 8 0))).bind fun bt303 => (if t272 = 0 then (if (t269 == 1 && (t270 == 1 && (t271.toList == ([128, 128, 128, 128, 128, 128, 255, 255] : List UInt8)))) = true then (if bt282.2.2.2 = 30 then (if bt295.2.2.2 = 28 then (if bt303.2 = 0 then (if 9 ≤ 281474976710656 then (some (bt303.1.toList == (strOfNums (List.replicate 9 0)).toList)) else (none)) else (none)) else (none)) else (none)) else (none)) else (none))) else (none))))) = some r := H
 have A3 := Aside0.mk A30
 clear A30
 replace H := Option.bind_eq_some_iff.mp H
 obtain ⟨⟨t282, t283, t284, t285⟩, A40, H⟩ := H
 replace H : ((vitrinelaw12_grey.f).bind fun bt287 => ((pixel_Image.f k bt287.1 bt287.2.1 bt287.2.2.1 bt287.2.2.2.1 bt287.2.2.2.2.1 bt287.2.2.2.2.2.1 bt287.2.2.2.2.2.2.1 bt287.2.2.2.2.2.2.2 (⟨#[5, 128]⟩ : ByteArray)).bind fun bt295 => (if 8 ≤ 281474976710656 then ((pixel_Rows.f k 1 1 (strOfNums (List.replicate 8 0))).bind fun bt303 => (if t272 = 0 then (if (t269 == 1 && (t270 == 1 && (t271.toList == ([128, 128, 128, 128, 128, 128, 255, 255] : List UInt8)))) = true then (if t285 = 30 then (if bt295.2.2.2 = 28 then (if bt303.2 = 0 then (if 9 ≤ 281474976710656 then (some (bt303.1.toList == (strOfNums (List.replicate 9 0)).toList)) else (none)) else (none)) else (none)) else (none)) else (none)) else (none))) else (none)))) = some r := H
 have A4 := Aside0.mk A40
 clear A40
 replace H := Option.bind_eq_some_iff.mp H
 obtain ⟨⟨t287, t288, t289, t290, t291, t292, t293, t294⟩, A50, H⟩ := H
 replace H : ((pixel_Image.f k t287 t288 t289 t290 t291 t292 t293 t294 (⟨#[5, 128]⟩ : ByteArray)).bind fun bt295 => (if 8 ≤ 281474976710656 then ((pixel_Rows.f k 1 1 (strOfNums (List.replicate 8 0))).bind fun bt303 => (if t272 = 0 then (if (t269 == 1 && (t270 == 1 && (t271.toList == ([128, 128, 128, 128, 128, 128, 255, 255] : List UInt8)))) = true then (if t285 = 30 then (if bt295.2.2.2 = 28 then (if bt303.2 = 0 then (if 9 ≤ 281474976710656 then (some (bt303.1.toList == (strOfNums (List.replicate 9 0)).toList)) else (none)) else (none)) else (none)) else (none)) else (none)) else (none))) else (none))) = some r := H
 have A5 := Aside0.mk A50
 clear A50
 replace H := Option.bind_eq_some_iff.mp H
 obtain ⟨⟨t295, t296, t297, t298⟩, A60, H⟩ := H
 replace H : (if 8 ≤ 281474976710656 then ((pixel_Rows.f k 1 1 (strOfNums (List.replicate 8 0))).bind fun bt303 => (if t272 = 0 then (if (t269 == 1 && (t270 == 1 && (t271.toList == ([128, 128, 128, 128, 128, 128, 255, 255] : List UInt8)))) = true then (if t285 = 30 then (if t298 = 28 then (if bt303.2 = 0 then (if 9 ≤ 281474976710656 then (some (bt303.1.toList == (strOfNums (List.replicate 9 0)).toList)) else (none)) else (none)) else (none)) else (none)) else (none)) else (none))) else (none)) = some r := H
 have A6 := Aside0.mk A60
 clear A60
 by_cases c7 : 8 ≤ 281474976710656
 ·rw [if_pos c7] at H
  have c7b0 := eq_true c7
  have c7b1 : decide (8 ≤ 281474976710656) = true := decide_eq_true c7
  clear c7
  obtain ⟨y300, hy300⟩ : ∃ y_ : List Int, y_ = (List.replicate 8 0) := ⟨_, rfl⟩
  replace H : ((pixel_Rows.f k 1 1 (strOfNums y300)).bind fun bt303 => (if t272 = 0 then (if (t269 == 1 && (t270 == 1 && (t271.toList == ([128, 128, 128, 128, 128, 128, 255, 255] : List UInt8)))) = true then (if t285 = 30 then (if t298 = 28 then (if bt303.2 = 0 then (if 9 ≤ 281474976710656 then (some (bt303.1.toList == (strOfNums (List.replicate 9 0)).toList)) else (none)) else (none)) else (none)) else (none)) else (none)) else (none))) = some r := by first | (rw [hy300]; with_reducible exact H) | (have H2_ := (Option.bind_some _ _).symm.trans H; rw [hy300]; with_reducible exact H2_) | (have H2_ := (Option.bind_some _ _).symm.trans H; with_reducible exact H2_) | with_reducible exact H | (rw [hy300]; exact H) | exact H
  have Ny300 := Aside0.mk hy300
  clear hy300
  replace H := Option.bind_eq_some_iff.mp H
  obtain ⟨⟨t303, t304⟩, A80, H⟩ := H
  replace H : (if t272 = 0 then (if (t269 == 1 && (t270 == 1 && (t271.toList == ([128, 128, 128, 128, 128, 128, 255, 255] : List UInt8)))) = true then (if t285 = 30 then (if t298 = 28 then (if t304 = 0 then (if 9 ≤ 281474976710656 then (some (t303.toList == (strOfNums (List.replicate 9 0)).toList)) else (none)) else (none)) else (none)) else (none)) else (none)) else (none)) = some r := H
  have A8 := Aside0.mk A80
  clear A80
  by_cases c9 : t272 = 0
  ·rw [if_pos c9] at H
   have c9b0 : (t272 == 0) = true := beq_iff_eq.mpr c9
   have c9b1 : (t272 != 0) = false := bne_eq_false_iff_eq.mpr c9
   clear c9
   by_cases c10 : (t269 == 1 && (t270 == 1 && (t271.toList == ([128, 128, 128, 128, 128, 128, 255, 255] : List UInt8)))) = true
   ·rw [if_pos c10] at H
    have c10b0 : (t269 == 1 && (t270 == 1 && (t271.toList == ([128, 128, 128, 128, 128, 128, 255, 255] : List UInt8)))) = true := c10
    (try (have c10b1 : decide (t269 = 1 && (t270 == 1 && (t271.toList == ([128, 128, 128, 128, 128, 128, 255, 255] : List UInt8)))) = true := by simpa using c10))
    (try (have c10b2 : (t269 == 1 && (t270 == 1 && (t271.toList == ([128, 128, 128, 128, 128, 128, 255, 255] : List UInt8)))) = true := by simpa using c10))
    clear c10
    by_cases c11 : t285 = 30
    ·rw [if_pos c11] at H
     have c11b0 : (t285 == 30) = true := beq_iff_eq.mpr c11
     have c11b1 : (t285 != 30) = false := bne_eq_false_iff_eq.mpr c11
     clear c11
     by_cases c12 : t298 = 28
     ·rw [if_pos c12] at H
      have c12b0 : (t298 == 28) = true := beq_iff_eq.mpr c12
      have c12b1 : (t298 != 28) = false := bne_eq_false_iff_eq.mpr c12
      clear c12
      by_cases c13 : t304 = 0
      ·rw [if_pos c13] at H
       have c13b0 : (t304 == 0) = true := beq_iff_eq.mpr c13
       have c13b1 : (t304 != 0) = false := bne_eq_false_iff_eq.mpr c13
       clear c13
       by_cases c14 : 9 ≤ 281474976710656
       ·rw [if_pos c14] at H
        have c14b0 := eq_true c14
        have c14b1 : decide (9 ≤ 281474976710656) = true := decide_eq_true c14
        clear c14
        obtain ⟨y305, hy305⟩ : ∃ y_ : List Int, y_ = (List.replicate 9 0) := ⟨_, rfl⟩
        replace H : (some (t303.toList == (strOfNums y305).toList)) = some r := by first | (rw [hy305]; with_reducible exact H) | (have H2_ := (Option.bind_some _ _).symm.trans H; rw [hy305]; with_reducible exact H2_) | (have H2_ := (Option.bind_some _ _).symm.trans H; with_reducible exact H2_) | with_reducible exact H | (rw [hy305]; exact H) | exact H
        have Ny305 := Aside0.mk hy305
        clear hy305
        obtain rfl := Option.some.inj H
        go_enter Try.func10, Try.ntmps10
        go_wp2_with (first | ((with_reducible refine gate_callee (f := 20) rfl ?_); refine gz 10 Try.func20 #[] ?_; (with_reducible refine (vitrinelaw12_grey.calls  t261 t262 t263 t264 t265 t266 t267 t268 _ A1.out).mono ?_); rintro e w15 ⟨rfl, hb⟩; refine ⟨_, rfl, ?_⟩; have n0_ := Aside0.mk (below_step (hz HB) hb); clear HB; have HB := n0_; clear n0_; (try clear hb); (try clear hb2); (try clear hk); (try clear hi)) | ((with_reducible refine gate_callee (f := 11) rfl ?_); refine gz 11 Try.func11 #[.agg #[.int .i64 t261, .int .i64 t262, .int .i64 t263, .int .i64 t264, .int .i64 t265, .string t266, .string t267, .bool t268], .string (⟨#[0, 128]⟩ : ByteArray)] ?_; (with_reducible refine (pixel_Image.calls k t261 t262 t263 t264 t265 t266 t267 t268 (⟨#[0, 128]⟩ : ByteArray) t269 t270 t271 t272 _ A2.out).mono ?_); rintro e w16 ⟨rfl, hb⟩; refine ⟨_, rfl, ?_⟩; have n0_ := Aside0.mk (below_step (hz HB) hb); clear HB; have HB := n0_; clear n0_; (try clear hb); (try clear hb2); (try clear hk); (try clear hi)) | ((with_reducible refine gate_dst (N := 1) rfl ?_); (try (refine gate_guard (by rfl) ?_; dsimp only)); refine box_event ?hg (N := 1) ?hd (cs := #[.int .i64 0, .int .i64 0, .string (⟨#[]⟩ : ByteArray)]) (t := 23) ?hr ?_; (case hd => rfl); (case hg => rfl); (case hr => first | (go_simp; done) | (go_simp; rfl)); intro gb273 hg w17 hbox hb; have n0_ := Aside0.mk (below_step (hz HB) hb); have n1_ := Aside0.mk (hbox); have n2_ := Aside0.mk ((by rw [hg]; exact (below_size (hz HB)) : w.heap.size ≤ gb273)); have n3_ := Aside0.mk ((by rw [hg]; exact (below_size (hz HB)) : w.heap.size ≤ gb273)); clear HB; have HB := n0_; have BK273 := n1_; have GW273 := n2_; have GE273 := n3_; clear n0_ n1_ n2_ n3_; clear hb hbox hg; have hcz18_0 : w17.cell? ⟨gb273, 0, none⟩ = some (.int .i64 0) := (blk_cell BK273.out 0).trans rfl; have hcz18_1 : w17.cell? ⟨gb273, 1, none⟩ = some (.int .i64 0) := (blk_cell BK273.out 1).trans rfl; have hcz18_2 : w17.cell? ⟨gb273, 2, none⟩ = some (.string (⟨#[]⟩ : ByteArray)) := (blk_cell BK273.out 2).trans rfl; have hfz18_0 := blk_frozen BK273.out 0; have hfz18_1 := blk_frozen BK273.out 1; have hfz18_2 := blk_frozen BK273.out 2) | ((with_reducible refine gate_callee (f := 20) rfl ?_); refine gz 15 Try.func20 #[] ?_; (with_reducible refine (vitrinelaw12_grey.calls  t274 t275 t276 t277 t278 t279 t280 t281 _ A3.out).mono ?_); rintro e w19 ⟨rfl, hb⟩; refine ⟨_, rfl, ?_⟩; have n0_ := Aside0.mk (blk_below (g := gb273) (o := .cells #[.int .i64 t269, .int .i64 t270, .string t271] 23 (0, 0)) (by (with_reducible repeat (first | refine blk_drewN ?_ _ | refine blk_drew ?_ | refine blk_alloc ?_ _)); refine blk_put (cs := #[.int .i64 t269, .int .i64 t270, .string (⟨#[]⟩ : ByteArray)]) ?_ 2 _ rfl; (with_reducible repeat (first | refine blk_drewN ?_ _ | refine blk_drew ?_ | refine blk_alloc ?_ _)); refine blk_put (cs := #[.int .i64 t269, .int .i64 0, .string (⟨#[]⟩ : ByteArray)]) ?_ 1 _ rfl; (with_reducible repeat (first | refine blk_drewN ?_ _ | refine blk_drew ?_ | refine blk_alloc ?_ _)); refine blk_put (cs := #[.int .i64 0, .int .i64 0, .string (⟨#[]⟩ : ByteArray)]) ?_ 0 _ rfl; (with_reducible repeat (first | refine blk_drewN ?_ _ | refine blk_drew ?_ | refine blk_alloc ?_ _)); exact BK273.out) hb); have n1_ := Aside0.mk (below_step (hz HB) hb); clear BK273; clear HB; have BK273 := n0_; have HB := n1_; clear n0_ n1_; (try clear hb); (try clear hb2); (try clear hk); (try clear hi)) | ((with_reducible refine gate_callee (f := 11) rfl ?_); refine gz 16 Try.func11 #[.agg #[.int .i64 t274, .int .i64 t275, .int .i64 t276, .int .i64 t277, .int .i64 t278, .string t279, .string t280, .bool t281], .string (⟨#[0]⟩ : ByteArray)] ?_; (with_reducible refine (pixel_Image.calls k t274 t275 t276 t277 t278 t279 t280 t281 (⟨#[0]⟩ : ByteArray) t282 t283 t284 t285 _ A4.out).mono ?_); rintro e w20 ⟨rfl, hb⟩; refine ⟨_, rfl, ?_⟩; have n0_ := Aside0.mk (blk_below (g := gb273) (o := .cells #[.int .i64 t269, .int .i64 t270, .string t271] 23 (0, 0)) (kz BK273) hb); have n1_ := Aside0.mk (below_step (hz HB) hb); clear BK273; clear HB; have BK273 := n0_; have HB := n1_; clear n0_ n1_; (try clear hb); (try clear hb2); (try clear hk); (try clear hi)) | ((with_reducible refine gate_dst (N := 3) rfl ?_); (try (refine gate_guard (by rfl) ?_; dsimp only)); refine box_event ?hg (N := 3) ?hd (cs := #[.int .i64 0, .int .i64 0, .string (⟨#[]⟩ : ByteArray)]) (t := 23) ?hr ?_; (case hd => rfl); (case hg => rfl); (case hr => first | (go_simp; done) | (go_simp; rfl)); intro gb286 hg w21 hbox hb; have n0_ := Aside0.mk (blk_below (g := gb273) (o := .cells #[.int .i64 t269, .int .i64 t270, .string t271] 23 (0, 0)) (kz BK273) hb); have n1_ := Aside0.mk (below_step (hz HB) hb); have n2_ := Aside0.mk (hbox); have n3_ := Aside0.mk ((by rw [hg]; exact (below_size (hz HB)) : w.heap.size ≤ gb286)); have n4_ := Aside0.mk ((by rw [hg]; exact (below_size (hz HB)) : w.heap.size ≤ gb286)); have n5_ := Aside0.mk ((by rw [hg]; exact Nat.ne_of_lt (blk_lt (g := gb273) (o := .cells #[.int .i64 t269, .int .i64 t270, .string t271] 23 (0, 0)) (kz BK273)) : gb273 ≠ gb286)); have n6_ := Aside0.mk ((by rw [hg]; exact Nat.ne_of_gt (blk_lt (g := gb273) (o := .cells #[.int .i64 t269, .int .i64 t270, .string t271] 23 (0, 0)) (kz BK273)) : gb286 ≠ gb273)); clear BK273; clear HB; have BK273 := n0_; have HB := n1_; have BK286 := n2_; have GW286 := n3_; have GE286 := n4_; have NB273_286 := n5_; have NB286_273 := n6_; clear n0_ n1_ n2_ n3_ n4_ n5_ n6_; clear hb hbox hg; have hnb22 := NB286_273.out; have hnc22 := NB273_286.out; have hcz23_0 : w21.cell? ⟨gb286, 0, none⟩ = some (.int .i64 0) := (blk_cell BK286.out 0).trans rfl; have hcz23_1 : w21.cell? ⟨gb286, 1, none⟩ = some (.int .i64 0) := (blk_cell BK286.out 1).trans rfl; have hcz23_2 : w21.cell? ⟨gb286, 2, none⟩ = some (.string (⟨#[]⟩ : ByteArray)) := (blk_cell BK286.out 2).trans rfl; have hfz23_0 := blk_frozen BK286.out 0; have hfz23_1 := blk_frozen BK286.out 1; have hfz23_2 := blk_frozen BK286.out 2) | ((with_reducible refine gate_callee (f := 20) rfl ?_); refine gz 20 Try.func20 #[] ?_; (with_reducible refine (vitrinelaw12_grey.calls  t287 t288 t289 t290 t291 t292 t293 t294 _ A5.out).mono ?_); rintro e w24 ⟨rfl, hb⟩; refine ⟨_, rfl, ?_⟩; have n0_ := Aside0.mk (blk_below (g := gb273) (o := .cells #[.int .i64 t269, .int .i64 t270, .string t271] 23 (0, 0)) (by (with_reducible repeat (first | refine blk_drewN ?_ _ | refine blk_drew ?_ | refine blk_alloc ?_ _)); refine blk_far ?_ NB273_286.out _; (with_reducible repeat (first | refine blk_drewN ?_ _ | refine blk_drew ?_ | refine blk_alloc ?_ _)); refine blk_far ?_ NB273_286.out _; (with_reducible repeat (first | refine blk_drewN ?_ _ | refine blk_drew ?_ | refine blk_alloc ?_ _)); refine blk_far ?_ NB273_286.out _; (with_reducible repeat (first | refine blk_drewN ?_ _ | refine blk_drew ?_ | refine blk_alloc ?_ _)); exact BK273.out) hb); have n1_ := Aside0.mk (blk_below (g := gb286) (o := .cells #[.int .i64 t282, .int .i64 t283, .string t284] 23 (0, 0)) (by (with_reducible repeat (first | refine blk_drewN ?_ _ | refine blk_drew ?_ | refine blk_alloc ?_ _)); refine blk_put (cs := #[.int .i64 t282, .int .i64 t283, .string (⟨#[]⟩ : ByteArray)]) ?_ 2 _ rfl; (with_reducible repeat (first | refine blk_drewN ?_ _ | refine blk_drew ?_ | refine blk_alloc ?_ _)); refine blk_put (cs := #[.int .i64 t282, .int .i64 0, .string (⟨#[]⟩ : ByteArray)]) ?_ 1 _ rfl; (with_reducible repeat (first | refine blk_drewN ?_ _ | refine blk_drew ?_ | refine blk_alloc ?_ _)); refine blk_put (cs := #[.int .i64 0, .int .i64 0, .string (⟨#[]⟩ : ByteArray)]) ?_ 0 _ rfl; (with_reducible repeat (first | refine blk_drewN ?_ _ | refine blk_drew ?_ | refine blk_alloc ?_ _)); exact BK286.out) hb); have n2_ := Aside0.mk (below_step (hz HB) hb); clear BK273; clear BK286; clear HB; have BK273 := n0_; have BK286 := n1_; have HB := n2_; clear n0_ n1_ n2_; (try clear hb); (try clear hb2); (try clear hk); (try clear hi)) | ((with_reducible refine gate_callee (f := 11) rfl ?_); refine gz 21 Try.func11 #[.agg #[.int .i64 t287, .int .i64 t288, .int .i64 t289, .int .i64 t290, .int .i64 t291, .string t292, .string t293, .bool t294], .string (⟨#[5, 128]⟩ : ByteArray)] ?_; (with_reducible refine (pixel_Image.calls k t287 t288 t289 t290 t291 t292 t293 t294 (⟨#[5, 128]⟩ : ByteArray) t295 t296 t297 t298 _ A6.out).mono ?_); rintro e w25 ⟨rfl, hb⟩; refine ⟨_, rfl, ?_⟩; have n0_ := Aside0.mk (blk_below (g := gb273) (o := .cells #[.int .i64 t269, .int .i64 t270, .string t271] 23 (0, 0)) (kz BK273) hb); have n1_ := Aside0.mk (blk_below (g := gb286) (o := .cells #[.int .i64 t282, .int .i64 t283, .string t284] 23 (0, 0)) (kz BK286) hb); have n2_ := Aside0.mk (below_step (hz HB) hb); clear BK273; clear BK286; clear HB; have BK273 := n0_; have BK286 := n1_; have HB := n2_; clear n0_ n1_ n2_; (try clear hb); (try clear hb2); (try clear hk); (try clear hi)) | ((with_reducible refine gate_dst (N := 5) rfl ?_); (try (refine gate_guard (by rfl) ?_; dsimp only)); refine box_event ?hg (N := 5) ?hd (cs := #[.int .i64 0, .int .i64 0, .string (⟨#[]⟩ : ByteArray)]) (t := 23) ?hr ?_; (case hd => rfl); (case hg => rfl); (case hr => first | (go_simp; done) | (go_simp; rfl)); intro gb299 hg w26 hbox hb; have n0_ := Aside0.mk (blk_below (g := gb273) (o := .cells #[.int .i64 t269, .int .i64 t270, .string t271] 23 (0, 0)) (kz BK273) hb); have n1_ := Aside0.mk (blk_below (g := gb286) (o := .cells #[.int .i64 t282, .int .i64 t283, .string t284] 23 (0, 0)) (kz BK286) hb); have n2_ := Aside0.mk (below_step (hz HB) hb); have n3_ := Aside0.mk (hbox); have n4_ := Aside0.mk ((by rw [hg]; exact (below_size (hz HB)) : w.heap.size ≤ gb299)); have n5_ := Aside0.mk ((by rw [hg]; exact (below_size (hz HB)) : w.heap.size ≤ gb299)); have n6_ := Aside0.mk ((by rw [hg]; exact Nat.ne_of_lt (blk_lt (g := gb273) (o := .cells #[.int .i64 t269, .int .i64 t270, .string t271] 23 (0, 0)) (kz BK273)) : gb273 ≠ gb299)); have n7_ := Aside0.mk ((by rw [hg]; exact Nat.ne_of_gt (blk_lt (g := gb273) (o := .cells #[.int .i64 t269, .int .i64 t270, .string t271] 23 (0, 0)) (kz BK273)) : gb299 ≠ gb273)); have n8_ := Aside0.mk ((by rw [hg]; exact Nat.ne_of_lt (blk_lt (g := gb286) (o := .cells #[.int .i64 t282, .int .i64 t283, .string t284] 23 (0, 0)) (kz BK286)) : gb286 ≠ gb299)); have n9_ := Aside0.mk ((by rw [hg]; exact Nat.ne_of_gt (blk_lt (g := gb286) (o := .cells #[.int .i64 t282, .int .i64 t283, .string t284] 23 (0, 0)) (kz BK286)) : gb299 ≠ gb286)); clear BK273; clear BK286; clear HB; have BK273 := n0_; have BK286 := n1_; have HB := n2_; have BK299 := n3_; have GW299 := n4_; have GE299 := n5_; have NB273_299 := n6_; have NB299_273 := n7_; have NB286_299 := n8_; have NB299_286 := n9_; clear n0_ n1_ n2_ n3_ n4_ n5_ n6_ n7_ n8_ n9_; clear hb hbox hg; have hnb27 := NB299_273.out; have hnc27 := NB273_299.out; have hnb28 := NB299_286.out; have hnc28 := NB286_299.out; have hcz29_0 : w26.cell? ⟨gb299, 0, none⟩ = some (.int .i64 0) := (blk_cell BK299.out 0).trans rfl; have hcz29_1 : w26.cell? ⟨gb299, 1, none⟩ = some (.int .i64 0) := (blk_cell BK299.out 1).trans rfl; have hcz29_2 : w26.cell? ⟨gb299, 2, none⟩ = some (.string (⟨#[]⟩ : ByteArray)) := (blk_cell BK299.out 2).trans rfl; have hfz29_0 := blk_frozen BK299.out 0; have hfz29_1 := blk_frozen BK299.out 1; have hfz29_2 := blk_frozen BK299.out 2) | ((with_reducible refine gate_dst (N := 25) rfl ?_); (try (refine gate_guard (by rfl) ?_; dsimp only)); refine Kd.R_make (Kd.int .u8) _ 5 rfl (N := 25) rfl 45 _ _ rfl 8 rfl rfl Try.underlying45 (.int .u8 0) 1 info5 rfl (by decide) (by omega) 0 (ok := fun _ => True) (okp := fun _ => True) rfl (fun _ hk => hk) trivial (by omega) (by omega) (Below.refl _ _) (Nat.le_refl _) ?_; intro v301 w30 ho31 hb hg_ hnew_; clear hg_ hnew_; (first | rw [← Ny300.out] at ho31 | (simp only [Int.reduceToNat] at ho31; rw [← Ny300.out] at ho31)); have n0_ := Aside0.mk (Kd.R_lower ho31 (below_size (hz HB))); have n1_ := Aside0.mk (blk_below (g := gb273) (o := .cells #[.int .i64 t269, .int .i64 t270, .string t271] 23 (0, 0)) (by (with_reducible repeat (first | refine blk_drewN ?_ _ | refine blk_drew ?_ | refine blk_alloc ?_ _)); refine blk_far ?_ NB273_299.out _; (with_reducible repeat (first | refine blk_drewN ?_ _ | refine blk_drew ?_ | refine blk_alloc ?_ _)); refine blk_far ?_ NB273_299.out _; (with_reducible repeat (first | refine blk_drewN ?_ _ | refine blk_drew ?_ | refine blk_alloc ?_ _)); refine blk_far ?_ NB273_299.out _; (with_reducible repeat (first | refine blk_drewN ?_ _ | refine blk_drew ?_ | refine blk_alloc ?_ _)); exact BK273.out) hb); have n2_ := Aside0.mk (blk_below (g := gb286) (o := .cells #[.int .i64 t282, .int .i64 t283, .string t284] 23 (0, 0)) (by (with_reducible repeat (first | refine blk_drewN ?_ _ | refine blk_drew ?_ | refine blk_alloc ?_ _)); refine blk_far ?_ NB286_299.out _; (with_reducible repeat (first | refine blk_drewN ?_ _ | refine blk_drew ?_ | refine blk_alloc ?_ _)); refine blk_far ?_ NB286_299.out _; (with_reducible repeat (first | refine blk_drewN ?_ _ | refine blk_drew ?_ | refine blk_alloc ?_ _)); refine blk_far ?_ NB286_299.out _; (with_reducible repeat (first | refine blk_drewN ?_ _ | refine blk_drew ?_ | refine blk_alloc ?_ _)); exact BK286.out) hb); have n3_ := Aside0.mk (blk_below (g := gb299) (o := .cells #[.int .i64 t295, .int .i64 t296, .string t297] 23 (0, 0)) (by (with_reducible repeat (first | refine blk_drewN ?_ _ | refine blk_drew ?_ | refine blk_alloc ?_ _)); refine blk_put (cs := #[.int .i64 t295, .int .i64 t296, .string (⟨#[]⟩ : ByteArray)]) ?_ 2 _ rfl; (with_reducible repeat (first | refine blk_drewN ?_ _ | refine blk_drew ?_ | refine blk_alloc ?_ _)); refine blk_put (cs := #[.int .i64 t295, .int .i64 0, .string (⟨#[]⟩ : ByteArray)]) ?_ 1 _ rfl; (with_reducible repeat (first | refine blk_drewN ?_ _ | refine blk_drew ?_ | refine blk_alloc ?_ _)); refine blk_put (cs := #[.int .i64 0, .int .i64 0, .string (⟨#[]⟩ : ByteArray)]) ?_ 0 _ rfl; (with_reducible repeat (first | refine blk_drewN ?_ _ | refine blk_drew ?_ | refine blk_alloc ?_ _)); exact BK299.out) hb); have n4_ := Aside0.mk (below_step (hz HB) hb); clear BK273; clear BK286; clear BK299; clear HB; have HO302 := n0_; have BK273 := n1_; have BK286 := n2_; have BK299 := n3_; have HB := n4_; clear n0_ n1_ n2_ n3_ n4_; clear hb ho31; have hcv32 := own_string (P := Try.prog) Try.underlying45 Try.underlying5 Try.underlying9 (Kd.own_of_R HO302.out)) | ((with_reducible refine gate_callee (f := 13) rfl ?_); refine gz 28 Try.func13 #[.agg #[.int .i64 1, .int .i64 1, .string (strOfNums y300)]] ?_; (with_reducible refine (pixel_Rows.calls k 1 1 (strOfNums y300) t303 t304 _ A8.out).mono ?_); rintro e w33 ⟨rfl, hb⟩; refine ⟨_, rfl, ?_⟩; have n0_ := Aside0.mk (Kd.R_below (oz HO302) hb); have n1_ := Aside0.mk (blk_below (g := gb273) (o := .cells #[.int .i64 t269, .int .i64 t270, .string t271] 23 (0, 0)) (kz BK273) hb); have n2_ := Aside0.mk (blk_below (g := gb286) (o := .cells #[.int .i64 t282, .int .i64 t283, .string t284] 23 (0, 0)) (kz BK286) hb); have n3_ := Aside0.mk (blk_below (g := gb299) (o := .cells #[.int .i64 t295, .int .i64 t296, .string t297] 23 (0, 0)) (kz BK299) hb); have n4_ := Aside0.mk (below_step (hz HB) hb); clear HO302; clear BK273; clear BK286; clear BK299; clear HB; have HO302 := n0_; have BK273 := n1_; have BK286 := n2_; have BK299 := n3_; have HB := n4_; clear n0_ n1_ n2_ n3_ n4_; (try clear hb); (try clear hb2); (try clear hk); (try clear hi); have hcz34_0 : w33.cell? ⟨gb273, 0, none⟩ = some (.int .i64 t269) := (blk_cell BK273.out 0).trans rfl; have hcz34_1 : w33.cell? ⟨gb273, 1, none⟩ = some (.int .i64 t270) := (blk_cell BK273.out 1).trans rfl; have hcz34_2 : w33.cell? ⟨gb273, 2, none⟩ = some (.string t271) := (blk_cell BK273.out 2).trans rfl; have hfz34_0 := blk_frozen BK273.out 0; have hfz34_1 := blk_frozen BK273.out 1; have hfz34_2 := blk_frozen BK273.out 2) | ((with_reducible refine gate_dst (N := 52) rfl ?_); (try (refine gate_guard (by rfl) ?_; dsimp only)); refine Kd.R_make (Kd.int .u8) _ 5 rfl (N := 52) rfl 45 _ _ rfl 9 rfl rfl Try.underlying45 (.int .u8 0) 1 info5 rfl (by decide) (by omega) 0 (ok := fun _ => True) (okp := fun _ => True) rfl (fun _ hk => hk) trivial (by omega) (by omega) (Below.refl _ _) (Nat.le_refl _) ?_; intro v306 w35 ho36 hb hg_ hnew_; clear hg_ hnew_; (first | rw [← Ny305.out] at ho36 | (simp only [Int.reduceToNat] at ho36; rw [← Ny305.out] at ho36)); have n0_ := Aside0.mk (Kd.R_elder' (oz HO302) (Kd.R_base ho36) hb); have n1_ := Aside0.mk (Kd.R_lower (Kd.R_new' ho36 (Kd.R_lt (oz HO302))) (below_size (hz HB))); have n2_ := Aside0.mk (blk_below (g := gb273) (o := .cells #[.int .i64 t269, .int .i64 t270, .string t271] 23 (0, 0)) (kz BK273) hb); have n3_ := Aside0.mk (blk_below (g := gb286) (o := .cells #[.int .i64 t282, .int .i64 t283, .string t284] 23 (0, 0)) (kz BK286) hb); have n4_ := Aside0.mk (blk_below (g := gb299) (o := .cells #[.int .i64 t295, .int .i64 t296, .string t297] 23 (0, 0)) (kz BK299) hb); have n5_ := Aside0.mk (below_step (hz HB) hb); clear HO302; clear BK273; clear BK286; clear BK299; clear HB; have HO302 := n0_; have HO307 := n1_; have BK273 := n2_; have BK286 := n3_; have BK299 := n4_; have HB := n5_; clear n0_ n1_ n2_ n3_ n4_ n5_; clear hb ho36; have hcv37 := own_string (P := Try.prog) Try.underlying45 Try.underlying5 Try.underlying9 (Kd.own_of_R HO307.out)))
        go_ret
        exact ⟨by first | rfl | (simp [errW_none, errW_some] <;> rfl) | (simp [*, errW_none, errW_some] <;> rfl), by repeat (first | (with_reducible first | exact HB.out | apply below_alloc | apply pw_below_drewN | apply below_drew1 | refine below_set ?_ GE273.out | refine below_set ?_ GE286.out | refine below_set ?_ GE299.out) | exact HB.out)⟩
       ·rw [if_neg c14] at H
        exact absurd H (by simp)
      ·rw [if_neg c13] at H
       exact absurd H (by simp)
     ·rw [if_neg c12] at H
      exact absurd H (by simp)
    ·rw [if_neg c11] at H
     exact absurd H (by simp)
   ·rw [if_neg c10] at H
    exact absurd H (by simp)
  ·rw [if_neg c9] at H
   exact absurd H (by simp)
 ·rw [if_neg c7] at H
  exact absurd H (by simp)

end Go.Proofs.Ytejljcglbkjgkaa.PL12

namespace Go.Proofs.Ytejljcglbkjgkaa.PL12
open Go.RowKit Go.Proofs.YtejljcglbkjgkaaW.PrintWords Go.Proofs.YtejljcglbkjgkaaW.PrintLast Go.Proofs.YtejljcglbkjgkaaW.PrintMore
attribute [local go_sem] max2_int min2_int max_two min_two max_three min_three max_four min_four   -- for this text's walks alone
set_option linter.unusedVariables false
set_option linter.unusedSimpArgs false

def vitrineref08_Samples.j0 : Nat → Int → Bool → Option (Int)
 | 0, _, _ => none
 | k + 1, x3, x4 => if x4 = true then (some 1) else (if x3 = 4 then (some 2) else (if x3 = 2 then (some 3) else (if x3 = 6 then (some 4) else (some 0))))
def vitrineref08_Samples.f (k : Nat) (a0 : Int) : Option (Int) := if a0 = 0 then (vitrineref08_Samples.j0 k a0 (a0 == 0)) else (vitrineref08_Samples.j0 k a0 (a0 == 3))
set_option maxHeartbeats 40000000 in
set_option maxRecDepth 100000 in
theorem vitrineref08_Samples.calls (k : Nat) (a0 : Int) (r : Int) (w : World) (h : vitrineref08_Samples.f k a0 = some r) :
  Calls Try.prog 16 #[.int .i64 a0] w fun e w' => e = .returned (.int .i64 r) ∧ Drawn0 w w' := by
 have H : (if a0 = 0 then (vitrineref08_Samples.j0 k a0 (a0 == 0)) else (vitrineref08_Samples.j0 k a0 (a0 == 3))) = some r := h
 clear h
 have HC2 := Aside0.mk H
 clear H
 go_enter Try.func16, Try.ntmps16
 go_upto_if 4 with (fail)
 go_cut [4] (fun v4 wc => ∃ (kq : Nat) (x4_1 : Bool), v4 = .bool x4_1 ∧ Aside0 (vitrineref08_Samples.j0 kq a0 x4_1 = some r) ∧ Aside0 (kq ≤ k) ∧ Drawn0 w wc)
 case first =>
  have H := HC2.out
  clear HC2
  by_cases c3 : a0 = 0
  ·rw [if_pos c3] at H
   have c3b0 : (a0 == 0) = true := beq_iff_eq.mpr c3
   have c3b1 : (a0 != 0) = false := bne_eq_false_iff_eq.mpr c3
   clear c3
   (first | rw [c3b0] | (simp only [i64_w, i32_w]; rw [c3b0]) | skip)
   have H' := Aside0.mk H
   clear H
   go_wp2
   go_meet
   case rel => exact ⟨_, ((a0 == 0)), (by first | rfl | (simp; done) | (simp [*]; done)), H', ⟨by first | omega | exact Nat.le_refl _⟩, by repeat (first | exact Drawn0.refl _ | apply Drawn0.step)⟩
  ·rw [if_neg c3] at H
   have c3b0 : (a0 == 0) = false := beq_eq_false_iff_ne.mpr c3
   have c3b1 : (a0 != 0) = true := bne_iff_ne.mpr c3
   (first | rw [c3b0] | (simp only [i64_w, i32_w]; rw [c3b0]) | skip)
   have H' := Aside0.mk H
   clear H
   go_wp2
   go_meet
   case rel => exact ⟨_, ((a0 == 3)), (by first | rfl | (simp; done) | (simp [*]; done)), H', ⟨by first | omega | exact Nat.le_refl _⟩, by repeat (first | exact Drawn0.refl _ | apply Drawn0.step)⟩
 case rest =>
  clear HC2
  obtain ⟨kq, x4_1, rfl, HA, HJ1, ⟨mc1, rfl⟩⟩ := hcut
  cases kq with
  | zero => exact absurd HA.out (by simp [vitrineref08_Samples.j0])
  | succ kj1 =>
   have H := HA.out
   clear HA
   simp only [vitrineref08_Samples.j0] at H
   by_cases c4 : x4_1 = true
   ·subst c4
    have H1 : (some 1) = some r := by rw [if_pos rfl] at H; exact H
    clear H
    have H := H1
    clear H1
    obtain rfl := Option.some.inj H
    go_wp2
    go_ret
    exact ⟨by first | rfl | (simp; done) | (simp [*]; done), by repeat (first | exact Drawn0.refl _ | apply Drawn0.step)⟩
   ·replace c4 := Bool.eq_false_iff.mpr c4
    subst c4
    have H1 : (if a0 = 4 then (some 2) else (if a0 = 2 then (some 3) else (if a0 = 6 then (some 4) else (some 0)))) = some r := by rw [if_neg (show ¬ (false = true) by decide)] at H; exact H
    clear H
    have H := H1
    clear H1
    by_cases c5 : a0 = 4
    ·rw [if_pos c5] at H
     have c5b0 : (a0 == 4) = true := beq_iff_eq.mpr c5
     have c5b1 : (a0 != 4) = false := bne_eq_false_iff_eq.mpr c5
     clear c5
     obtain rfl := Option.some.inj H
     go_wp2
     go_ret
     exact ⟨by first | rfl | (simp; done) | (simp [*]; done), by repeat (first | exact Drawn0.refl _ | apply Drawn0.step)⟩
    ·rw [if_neg c5] at H
     have c5b0 : (a0 == 4) = false := beq_eq_false_iff_ne.mpr c5
     have c5b1 : (a0 != 4) = true := bne_iff_ne.mpr c5
     by_cases c6 : a0 = 2
     ·rw [if_pos c6] at H
      have c6b0 : (a0 == 2) = true := beq_iff_eq.mpr c6
      have c6b1 : (a0 != 2) = false := bne_eq_false_iff_eq.mpr c6
      clear c6
      obtain rfl := Option.some.inj H
      go_wp2
      go_ret
      exact ⟨by first | rfl | (simp; done) | (simp [*]; done), by repeat (first | exact Drawn0.refl _ | apply Drawn0.step)⟩
     ·rw [if_neg c6] at H
      have c6b0 : (a0 == 2) = false := beq_eq_false_iff_ne.mpr c6
      have c6b1 : (a0 != 2) = true := bne_iff_ne.mpr c6
      by_cases c7 : a0 = 6
      ·rw [if_pos c7] at H
       have c7b0 : (a0 == 6) = true := beq_iff_eq.mpr c7
       have c7b1 : (a0 != 6) = false := bne_eq_false_iff_eq.mpr c7
       clear c7
       obtain rfl := Option.some.inj H
       go_wp2
       go_ret
       exact ⟨by first | rfl | (simp; done) | (simp [*]; done), by repeat (first | exact Drawn0.refl _ | apply Drawn0.step)⟩
      ·rw [if_neg c7] at H
       have c7b0 : (a0 == 6) = false := beq_eq_false_iff_ne.mpr c7
       have c7b1 : (a0 != 6) = true := bne_iff_ne.mpr c7
       obtain rfl := Option.some.inj H
       go_wp2
       go_ret
       exact ⟨by first | rfl | (simp; done) | (simp [*]; done), by repeat (first | exact Drawn0.refl _ | apply Drawn0.step)⟩

def vitrineref10_many.l0 : Nat → Int → Int → Int → Int → Option (Int)
 | 0, _, _, _, _ => none
 | k + 1, x0, x2, x7, x8 => if x8 < x0 then (vitrineref10_many.l0 k x0 x2 (wrap64 (x7 + 1)) (wrap64 (x8 + x2))) else (some x7)
def vitrineref10_many.f (k : Nat) (a0 : Int) (a1 : Int) (a2 : Int) : Option (Int) := vitrineref10_many.l0 k a0 a2 0 a1
set_option maxHeartbeats 40000000 in
set_option maxRecDepth 100000 in
theorem vitrineref10_many.calls (k : Nat) (a0 : Int) (a1 : Int) (a2 : Int) (r : Int) (w : World) (h : vitrineref10_many.f k a0 a1 a2 = some r) :
  Calls Try.prog 44 #[.int .i64 a0, .int .i64 a1, .int .i64 a2] w fun e w' => e = .returned (.int .i64 r) ∧ Drawn0 w w' := by
 have H : (vitrineref10_many.l0 k a0 a2 0 a1) = some r := h
 clear h
 have H' := Aside0.mk H
 clear H
 go_enter Try.func44, Try.ntmps44
 go_wp2
 go_loopg [7, 8] k (fun kq v7 v8 w' => ∃ (x7_1 : Int) (x8_1 : Int), v7 = .int .i64 x7_1 ∧ v8 = .int .i64 x8_1 ∧ Aside0 (vitrineref10_many.l0 kq a0 a2 x7_1 x8_1 = some r) ∧ Aside0 (kq ≤ k) ∧ Drawn0 w w')
 case atStart => exact ⟨(0), (a1), (by first | rfl | (simp; done) | (simp [*]; done)), (by first | rfl | (simp; done) | (simp [*]; done)), H', ⟨Nat.le_refl _⟩, by repeat (first | exact Drawn0.refl _ | apply Drawn0.step)⟩
 case round =>
  clear H'
  obtain ⟨x7_1, x8_1, rfl, rfl, HA, HK1, ⟨m1, rfl⟩⟩ := hrel
  cases gk with
  | zero => exact absurd HA.out (by simp [vitrineref10_many.l0])
  | succ k1 =>
   have H := HA.out
   clear HA
   simp only [vitrineref10_many.l0] at H
   by_cases c4 : x8_1 < a0
   ·rw [if_pos c4] at H
    have c4b0 : decide (x8_1 < a0) = true := decide_eq_true c4
    clear c4
    have H' := Aside0.mk H
    clear H
    go_wp2
    go_roundg k1
    case measure => have := HK1.out; omega
    case rel => exact ⟨(wrap64 (x7_1 + 1)), (wrap64 (x8_1 + a2)), (by first | rfl | (simp; done) | (simp [*]; done)), (by first | rfl | (simp; done) | (simp [*]; done)), H', ⟨by have := HK1.out; omega⟩, by repeat (first | exact Drawn0.refl _ | apply Drawn0.step)⟩
   ·rw [if_neg c4] at H
    have c4b0 : decide (x8_1 < a0) = false := decide_eq_false c4
    clear c4
    obtain rfl := Option.some.inj H
    go_wp2
    go_ret
    exact ⟨by first | rfl | (simp; done) | (simp [*]; done), by repeat (first | exact Drawn0.refl _ | apply Drawn0.step)⟩

end Go.Proofs.Ytejljcglbkjgkaa.PL12

namespace Go.Proofs.Ytejljcglbkjgkaa.PL12
open Go.RowKit Go.Proofs.YtejljcglbkjgkaaW.PrintWords Go.Proofs.YtejljcglbkjgkaaW.PrintLast Go.Proofs.YtejljcglbkjgkaaW.PrintMore
attribute [local go_sem] max2_int min2_int max_two min_two max_three min_three max_four min_four   -- for this text's walks alone
set_option linter.unusedVariables false
set_option linter.unusedSimpArgs false

mutual
def vitrineref10_Passes.j0 : Nat → List (S53) → Int → Int → Int → Int → Int → Option ((List (S53)))
 | 0, _, _, _, _, _, _ => none
 | k + 1, x3, x313000, x313001, x313002, x313003, x313004 => vitrineref10_Passes.l0 k x3 ([] : List (S53)) 0 x313000 x313001 x313002 x313003 x313004
def vitrineref10_Passes.l0 : Nat → List (S53) → List (S53) → Int → Int → Int → Int → Int → Int → Option ((List (S53)))
 | 0, _, _, _, _, _, _, _, _ => none
 | k + 1, x3, x4, x5, x313000, x313001, x313002, x313003, x313004 => if x5 < (x3.length : Int) then (if 0 ≤ x5 then ((vitrineref10_many.f k x313000 ((rd_T53 x3 x5).f0) ((rd_T53 x3 x5).f2)).bind fun t322 => ((vitrineref10_many.f k x313001 ((rd_T53 x3 x5).f1) ((rd_T53 x3 x5).f3)).bind fun t323 => (if t322 > 0 then (if t323 > 0 then (if x4.length < 2932031007402 then (vitrineref10_Passes.l0 k x3 (x4 ++ [(⟨(rd_T53 x3 x5).f0, (rd_T53 x3 x5).f1, (rd_T53 x3 x5).f2, (rd_T53 x3 x5).f3, t322, t323⟩ : S53)]) (wrap64 (x5 + 1)) x313000 x313001 x313002 x313003 x313004) else (none)) else (vitrineref10_Passes.l0 k x3 x4 (wrap64 (x5 + 1)) x313000 x313001 x313002 x313003 x313004)) else (vitrineref10_Passes.l0 k x3 x4 (wrap64 (x5 + 1)) x313000 x313001 x313002 x313003 x313004)))) else (none)) else (some x4)
end
def vitrineref10_Passes.f (k : Nat) (a0_0 : Int) (a0_1 : Int) (a0_2 : Int) (a0_3 : Int) (a0_4 : Int) : Option ((List (S53))) := (vitrineref08_Right.f k a0_0 a0_1 a0_2 a0_3 a0_4).bind fun t313 => (if t313 = 0 then (if a0_4 = 1 then (vitrineref10_Passes.j0 k (([(⟨0, 0, 8, 8, 0, 0⟩ : S53), (⟨4, 0, 8, 8, 0, 0⟩ : S53), (⟨0, 4, 4, 8, 0, 0⟩ : S53), (⟨2, 0, 4, 4, 0, 0⟩ : S53), (⟨0, 2, 2, 4, 0, 0⟩ : S53), (⟨1, 0, 2, 2, 0, 0⟩ : S53), (⟨0, 1, 1, 2, 0, 0⟩ : S53)] : List (S53))) a0_0 a0_1 a0_2 a0_3 a0_4) else (vitrineref10_Passes.j0 k (([(⟨0, 0, 1, 1, 0, 0⟩ : S53)] : List (S53))) a0_0 a0_1 a0_2 a0_3 a0_4)) else (some ([] : List (S53))))
set_option maxHeartbeats 40000000 in
set_option maxRecDepth 100000 in
theorem vitrineref10_Passes.calls (k : Nat) (a0_0 : Int) (a0_1 : Int) (a0_2 : Int) (a0_3 : Int) (a0_4 : Int) (r : List (S53)) (w : World) (h : vitrineref10_Passes.f k a0_0 a0_1 a0_2 a0_3 a0_4 = some r) :
  Calls Try.prog 25 #[.agg #[.int .i64 a0_0, .int .i64 a0_1, .int .i64 a0_2, .int .i64 a0_3, .int .i64 a0_4]] w fun e w' => ∃ v0_ : Value, e = .returned (v0_) ∧ Kd.R k53 53 w' w.heap.size (fun _ => True) v0_ r ∧ Below w.heap.size w w' := by
 have hu29 := Try.underlying29
 have hu53 := Try.underlying53
 have HB := Aside0.mk (Below.refl w.heap.size w)
 have H : ((vitrineref08_Right.f k a0_0 a0_1 a0_2 a0_3 a0_4).bind fun t313 => (if t313 = 0 then (if a0_4 = 1 then (vitrineref10_Passes.j0 k (([(⟨0, 0, 8, 8, 0, 0⟩ : S53), (⟨4, 0, 8, 8, 0, 0⟩ : S53), (⟨0, 4, 4, 8, 0, 0⟩ : S53), (⟨2, 0, 4, 4, 0, 0⟩ : S53), (⟨0, 2, 2, 4, 0, 0⟩ : S53), (⟨1, 0, 2, 2, 0, 0⟩ : S53), (⟨0, 1, 1, 2, 0, 0⟩ : S53)] : List (S53))) a0_0 a0_1 a0_2 a0_3 a0_4) else (vitrineref10_Passes.j0 k (([(⟨0, 0, 1, 1, 0, 0⟩ : S53)] : List (S53))) a0_0 a0_1 a0_2 a0_3 a0_4)) else (some ([] : List (S53))))) = some r := h
 clear h
 replace H := Option.bind_eq_some_iff.mp H
 obtain ⟨t313, A20, H⟩ := H
 replace H : (if t313 = 0 then (if a0_4 = 1 then (vitrineref10_Passes.j0 k (([(⟨0, 0, 8, 8, 0, 0⟩ : S53), (⟨4, 0, 8, 8, 0, 0⟩ : S53), (⟨0, 4, 4, 8, 0, 0⟩ : S53), (⟨2, 0, 4, 4, 0, 0⟩ : S53), (⟨0, 2, 2, 4, 0, 0⟩ : S53), (⟨1, 0, 2, 2, 0, 0⟩ : S53), (⟨0, 1, 1, 2, 0, 0⟩ : S53)] : List (S53))) a0_0 a0_1 a0_2 a0_3 a0_4) else (vitrineref10_Passes.j0 k (([(⟨0, 0, 1, 1, 0, 0⟩ : S53)] : List (S53))) a0_0 a0_1 a0_2 a0_3 a0_4)) else (some ([] : List (S53)))) = some r := H
 have A2 := Aside0.mk A20
 clear A20
 by_cases c3 : t313 = 0
 ·rw [if_pos c3] at H
  have c3b0 : (t313 == 0) = true := beq_iff_eq.mpr c3
  have c3b1 : (t313 != 0) = false := bne_eq_false_iff_eq.mpr c3
  clear c3
  obtain ⟨y314, hy314⟩ : ∃ y_ : List (S53), y_ = (([(⟨0, 0, 1, 1, 0, 0⟩ : S53)] : List (S53))) := ⟨_, rfl⟩
  replace H : (if a0_4 = 1 then (vitrineref10_Passes.j0 k (([(⟨0, 0, 8, 8, 0, 0⟩ : S53), (⟨4, 0, 8, 8, 0, 0⟩ : S53), (⟨0, 4, 4, 8, 0, 0⟩ : S53), (⟨2, 0, 4, 4, 0, 0⟩ : S53), (⟨0, 2, 2, 4, 0, 0⟩ : S53), (⟨1, 0, 2, 2, 0, 0⟩ : S53), (⟨0, 1, 1, 2, 0, 0⟩ : S53)] : List (S53))) a0_0 a0_1 a0_2 a0_3 a0_4) else (vitrineref10_Passes.j0 k y314 a0_0 a0_1 a0_2 a0_3 a0_4)) = some r := by first | (rw [hy314]; with_reducible exact H) | (have H2_ := (Option.bind_some _ _).symm.trans H; rw [hy314]; with_reducible exact H2_) | (have H2_ := (Option.bind_some _ _).symm.trans H; with_reducible exact H2_) | with_reducible exact H | (rw [hy314]; exact H) | exact H
  have Ny314 := Aside0.mk hy314
  clear hy314
  have HC4 := Aside0.mk H
  clear H
  go_enter Try.func25, Try.ntmps25
  go_upto_if 14 with (first | ((with_reducible refine gate_dst (N := 1) rfl ?_); refine box_event ?hg (N := 1) ?hd (cs := #[.int .i64 a0_0, .int .i64 a0_1, .int .i64 a0_2, .int .i64 a0_3, .int .i64 a0_4]) (t := 29) ?hr ?_; (case hd => rfl); (case hg => rfl); (case hr => first | (go_simp; done) | (go_simp; rfl)); intro gb312 hg w5 hbox hb; have n0_ := Aside0.mk (below_step (hz HB) hb); have n1_ := Aside0.mk (hbox); have n2_ := Aside0.mk ((by rw [hg]; exact (below_size (hz HB)) : w.heap.size ≤ gb312)); have n3_ := Aside0.mk ((by rw [hg]; exact (below_size (hz HB)) : w.heap.size ≤ gb312)); clear HB; have HB := n0_; have BK312 := n1_; have GW312 := n2_; have GE312 := n3_; clear n0_ n1_ n2_ n3_; clear hb hbox hg; have hcz6_0 : w5.cell? ⟨gb312, 0, none⟩ = some (.int .i64 a0_0) := (blk_cell BK312.out 0).trans rfl; have hcz6_1 : w5.cell? ⟨gb312, 1, none⟩ = some (.int .i64 a0_1) := (blk_cell BK312.out 1).trans rfl; have hcz6_2 : w5.cell? ⟨gb312, 2, none⟩ = some (.int .i64 a0_2) := (blk_cell BK312.out 2).trans rfl; have hcz6_3 : w5.cell? ⟨gb312, 3, none⟩ = some (.int .i64 a0_3) := (blk_cell BK312.out 3).trans rfl; have hcz6_4 : w5.cell? ⟨gb312, 4, none⟩ = some (.int .i64 a0_4) := (blk_cell BK312.out 4).trans rfl; have hfz6_0 := blk_frozen BK312.out 0; have hfz6_1 := blk_frozen BK312.out 1; have hfz6_2 := blk_frozen BK312.out 2; have hfz6_3 := blk_frozen BK312.out 3; have hfz6_4 := blk_frozen BK312.out 4) | ((with_reducible refine gate_callee (f := 15) rfl ?_); refine gz 8 Try.func15 #[.agg #[.int .i64 a0_0, .int .i64 a0_1, .int .i64 a0_2, .int .i64 a0_3, .int .i64 a0_4]] ?_; (with_reducible refine (vitrineref08_Right.calls k a0_0 a0_1 a0_2 a0_3 a0_4 t313 _ A2.out).mono ?_); rintro e w7 ⟨rfl, hb⟩; refine ⟨_, rfl, ?_⟩; have n0_ := Aside0.mk (blk_below (g := gb312) (o := .cells #[.int .i64 a0_0, .int .i64 a0_1, .int .i64 a0_2, .int .i64 a0_3, .int .i64 a0_4] 29 (0, 0)) (kz BK312) hb); have n1_ := Aside0.mk (below_step (hz HB) hb); clear BK312; clear HB; have BK312 := n0_; have HB := n1_; clear n0_ n1_; (try clear hb); (try clear hb2); (try clear hk); (try clear hi)) | ((with_reducible refine gate_dst (N := 11) rfl ?_); refine Kd.R_lit k53 _ 53 ?hg (N := 11) ?hd (xs := ([(⟨0, 0, 1, 1, 0, 0⟩ : S53)] : List (S53))) (inner := [.int .i64 0, .int .i64 0, .int .i64 1, .int .i64 1, .int .i64 0, .int .i64 0]) (ok := fun _ => True) (okp := fun _ => True) ?hr ?hp (fun _ hk => hk) trivial (Below.refl _ _) (Nat.le_refl _) (by simp) ?_; (case hd => rfl); (case hg => rfl); (case hr => first | (go_simp; done) | (go_simp; rfl)); (case hp => exact (Reps.c6 (show Kd.M k53 _ _ _ (⟨0, 0, 1, 1, 0, 0⟩ : S53) [.int .i64 0, .int .i64 0, .int .i64 1, .int .i64 1, .int .i64 0, .int .i64 0] from (k53_mkM _ _ _ (⟨0, 0, 1, 1, 0, 0⟩ : S53) )) (Reps.none _ _))); intro v315 w8 ho9 hb hg_ hnew_; clear hg_ hnew_; (first | rw [← Ny314.out] at ho9 | (simp only [Int.reduceToNat] at ho9; rw [← Ny314.out] at ho9)); have n0_ := Aside0.mk (Kd.R_lower ho9 (below_size (hz HB))); have n1_ := Aside0.mk (blk_below (g := gb312) (o := .cells #[.int .i64 a0_0, .int .i64 a0_1, .int .i64 a0_2, .int .i64 a0_3, .int .i64 a0_4] 29 (0, 0)) (kz BK312) hb); have n2_ := Aside0.mk (below_step (hz HB) hb); clear BK312; clear HB; have HO316 := n0_; have BK312 := n1_; have HB := n2_; clear n0_ n1_ n2_; clear hb ho9; have hcz10_0 : w8.cell? ⟨gb312, 0, none⟩ = some (.int .i64 a0_0) := (blk_cell BK312.out 0).trans rfl; have hcz10_1 : w8.cell? ⟨gb312, 1, none⟩ = some (.int .i64 a0_1) := (blk_cell BK312.out 1).trans rfl; have hcz10_2 : w8.cell? ⟨gb312, 2, none⟩ = some (.int .i64 a0_2) := (blk_cell BK312.out 2).trans rfl; have hcz10_3 : w8.cell? ⟨gb312, 3, none⟩ = some (.int .i64 a0_3) := (blk_cell BK312.out 3).trans rfl; have hcz10_4 : w8.cell? ⟨gb312, 4, none⟩ = some (.int .i64 a0_4) := (blk_cell BK312.out 4).trans rfl; have hfz10_0 := blk_frozen BK312.out 0; have hfz10_1 := blk_frozen BK312.out 1; have hfz10_2 := blk_frozen BK312.out 2; have hfz10_3 := blk_frozen BK312.out 3; have hfz10_4 := blk_frozen BK312.out 4))
  (try simp only [Act.put, List.setIfInBounds_toArray, List.set_cons_zero, List.set_cons_succ])
  go_cut [3] (fun v3 wc => ∃ (kq : Nat) (x3_3 : List (S53)), Aside0 (vitrineref10_Passes.j0 kq x3_3 a0_0 a0_1 a0_2 a0_3 a0_4 = some r) ∧ Aside0 (kq ≤ k) ∧ Aside0 (Kd.R k53 53 wc w.heap.size (fun _ => True) v3 x3_3) ∧ Aside0 (wc.heap[gb312]? = some (.cells #[.int .i64 a0_0, .int .i64 a0_1, .int .i64 a0_2, .int .i64 a0_3, .int .i64 a0_4] 29 (0, 0))) ∧ Aside0 (Below w.heap.size w wc))
  case first =>
   have H := HC4.out
   clear HC4
   by_cases c11 : a0_4 = 1
   ·rw [if_pos c11] at H
    have c11b0 : (a0_4 == 1) = true := beq_iff_eq.mpr c11
    have c11b1 : (a0_4 != 1) = false := bne_eq_false_iff_eq.mpr c11
    clear c11
    (first | rw [c11b0] | (simp only [i64_w, i32_w]; rw [c11b0]) | skip)
    obtain ⟨y317, hy317⟩ : ∃ y_ : List (S53), y_ = (([(⟨0, 0, 8, 8, 0, 0⟩ : S53), (⟨4, 0, 8, 8, 0, 0⟩ : S53), (⟨0, 4, 4, 8, 0, 0⟩ : S53), (⟨2, 0, 4, 4, 0, 0⟩ : S53), (⟨0, 2, 2, 4, 0, 0⟩ : S53), (⟨1, 0, 2, 2, 0, 0⟩ : S53), (⟨0, 1, 1, 2, 0, 0⟩ : S53)] : List (S53))) := ⟨_, rfl⟩
    replace H : (vitrineref10_Passes.j0 k y317 a0_0 a0_1 a0_2 a0_3 a0_4) = some r := by first | (rw [hy317]; with_reducible exact H) | (have H2_ := (Option.bind_some _ _).symm.trans H; rw [hy317]; with_reducible exact H2_) | (have H2_ := (Option.bind_some _ _).symm.trans H; with_reducible exact H2_) | with_reducible exact H | (rw [hy317]; exact H) | exact H
    have Ny317 := Aside0.mk hy317
    clear hy317
    have H' := Aside0.mk H
    clear H
    go_wp2_with (first | ((with_reducible refine gate_dst (N := 22) rfl ?_); refine Kd.R_lit k53 _ 53 ?hg (N := 22) ?hd (xs := ([(⟨0, 0, 8, 8, 0, 0⟩ : S53), (⟨4, 0, 8, 8, 0, 0⟩ : S53), (⟨0, 4, 4, 8, 0, 0⟩ : S53), (⟨2, 0, 4, 4, 0, 0⟩ : S53), (⟨0, 2, 2, 4, 0, 0⟩ : S53), (⟨1, 0, 2, 2, 0, 0⟩ : S53), (⟨0, 1, 1, 2, 0, 0⟩ : S53)] : List (S53))) (inner := [.int .i64 0, .int .i64 0, .int .i64 8, .int .i64 8, .int .i64 0, .int .i64 0, .int .i64 4, .int .i64 0, .int .i64 8, .int .i64 8, .int .i64 0, .int .i64 0, .int .i64 0, .int .i64 4, .int .i64 4, .int .i64 8, .int .i64 0, .int .i64 0, .int .i64 2, .int .i64 0, .int .i64 4, .int .i64 4, .int .i64 0, .int .i64 0, .int .i64 0, .int .i64 2, .int .i64 2, .int .i64 4, .int .i64 0, .int .i64 0, .int .i64 1, .int .i64 0, .int .i64 2, .int .i64 2, .int .i64 0, .int .i64 0, .int .i64 0, .int .i64 1, .int .i64 1, .int .i64 2, .int .i64 0, .int .i64 0]) (ok := fun _ => True) (okp := fun _ => True) ?hr ?hp (fun _ hk => hk) trivial (Below.refl _ _) (Nat.le_refl _) (by simp) ?_; (case hd => rfl); (case hg => rfl); (case hr => first | (go_simp; done) | (go_simp; rfl)); (case hp => exact (Reps.c6 (show Kd.M k53 _ _ _ (⟨0, 0, 8, 8, 0, 0⟩ : S53) [.int .i64 0, .int .i64 0, .int .i64 8, .int .i64 8, .int .i64 0, .int .i64 0] from (k53_mkM _ _ _ (⟨0, 0, 8, 8, 0, 0⟩ : S53) )) (Reps.c6 (show Kd.M k53 _ _ _ (⟨4, 0, 8, 8, 0, 0⟩ : S53) [.int .i64 4, .int .i64 0, .int .i64 8, .int .i64 8, .int .i64 0, .int .i64 0] from (k53_mkM _ _ _ (⟨4, 0, 8, 8, 0, 0⟩ : S53) )) (Reps.c6 (show Kd.M k53 _ _ _ (⟨0, 4, 4, 8, 0, 0⟩ : S53) [.int .i64 0, .int .i64 4, .int .i64 4, .int .i64 8, .int .i64 0, .int .i64 0] from (k53_mkM _ _ _ (⟨0, 4, 4, 8, 0, 0⟩ : S53) )) (Reps.c6 (show Kd.M k53 _ _ _ (⟨2, 0, 4, 4, 0, 0⟩ : S53) [.int .i64 2, .int .i64 0, .int .i64 4, .int .i64 4, .int .i64 0, .int .i64 0] from (k53_mkM _ _ _ (⟨2, 0, 4, 4, 0, 0⟩ : S53) )) (Reps.c6 (show Kd.M k53 _ _ _ (⟨0, 2, 2, 4, 0, 0⟩ : S53) [.int .i64 0, .int .i64 2, .int .i64 2, .int .i64 4, .int .i64 0, .int .i64 0] from (k53_mkM _ _ _ (⟨0, 2, 2, 4, 0, 0⟩ : S53) )) (Reps.c6 (show Kd.M k53 _ _ _ (⟨1, 0, 2, 2, 0, 0⟩ : S53) [.int .i64 1, .int .i64 0, .int .i64 2, .int .i64 2, .int .i64 0, .int .i64 0] from (k53_mkM _ _ _ (⟨1, 0, 2, 2, 0, 0⟩ : S53) )) (Reps.c6 (show Kd.M k53 _ _ _ (⟨0, 1, 1, 2, 0, 0⟩ : S53) [.int .i64 0, .int .i64 1, .int .i64 1, .int .i64 2, .int .i64 0, .int .i64 0] from (k53_mkM _ _ _ (⟨0, 1, 1, 2, 0, 0⟩ : S53) )) (Reps.none _ _))))))))); intro v318 w12 ho13 hb hg_ hnew_; clear hg_ hnew_; (first | rw [← Ny317.out] at ho13 | (simp only [Int.reduceToNat] at ho13; rw [← Ny317.out] at ho13)); have n0_ := Aside0.mk (Kd.R_elder' (oz HO316) (Kd.R_base ho13) hb); have n1_ := Aside0.mk (Kd.R_lower (Kd.R_new' ho13 (Kd.R_lt (oz HO316))) (below_size (hz HB))); have n2_ := Aside0.mk (blk_below (g := gb312) (o := .cells #[.int .i64 a0_0, .int .i64 a0_1, .int .i64 a0_2, .int .i64 a0_3, .int .i64 a0_4] 29 (0, 0)) (kz BK312) hb); have n3_ := Aside0.mk (below_step (hz HB) hb); clear HO316; clear BK312; clear HB; have HO316 := n0_; have HO319 := n1_; have BK312 := n2_; have HB := n3_; clear n0_ n1_ n2_ n3_; clear hb ho13))
    go_meet
    case rel => exact ⟨_, (y317), H', ⟨by first | omega | exact Nat.le_refl _⟩, ⟨by (with_reducible repeat (first | apply Kd.R_alloc | apply Kd.R_drewN | apply Kd.R_drew)); exact Kd.R_mono HO319.out (fun _ hk => trivial)⟩, ⟨kz BK312⟩, ⟨hz HB⟩⟩
   ·rw [if_neg c11] at H
    have c11b0 : (a0_4 == 1) = false := beq_eq_false_iff_ne.mpr c11
    have c11b1 : (a0_4 != 1) = true := bne_iff_ne.mpr c11
    (first | rw [c11b0] | (simp only [i64_w, i32_w]; rw [c11b0]) | skip)
    have H' := Aside0.mk H
    clear H
    go_wp2
    go_meet
    case rel => exact ⟨_, (y314), H', ⟨by first | omega | exact Nat.le_refl _⟩, ⟨oz HO316⟩, ⟨kz BK312⟩, ⟨hz HB⟩⟩
  case rest =>
   clear HC4
   try clear c3
   try clear c3b0
   try clear c3b1
   try clear hcz10_0
   try clear hcz10_1
   try clear hcz10_2
   try clear hcz10_3
   try clear hcz10_4
   try clear hcz6_0
   try clear hcz6_1
   try clear hcz6_2
   try clear hcz6_3
   try clear hcz6_4
   try clear hfz10_0
   try clear hfz10_1
   try clear hfz10_2
   try clear hfz10_3
   try clear hfz10_4
   try clear hfz6_0
   try clear hfz6_1
   try clear hfz6_2
   try clear hfz6_3
   try clear hfz6_4
   obtain ⟨kq, x3_3, HA, HJ3, HO_3, BK312, HB⟩ := hcut
   cases kq with
   | zero => exact absurd HA.out (by simp [vitrineref10_Passes.j0])
   | succ kj3 =>
    have H := HA.out
    clear HA
    simp only [vitrineref10_Passes.j0] at H
    have H' := Aside0.mk H
    clear H
    go_wp2
    go_loopg [4, 5] kj3 (fun kq v4 v5 w' => ∃ (x4_2 : List (S53)) (x5_2 : Int), v5 = .int .i64 x5_2 ∧ Aside0 (vitrineref10_Passes.l0 kq x3_3 x4_2 x5_2 a0_0 a0_1 a0_2 a0_3 a0_4 = some r) ∧ Aside0 (kq ≤ kj3) ∧ Aside0 (Kd.R k53 53 w' w.heap.size (fun k_ => some k_ ≠ (v4 : Value).ownBlock) u3 x3_3) ∧ Aside0 (Kd.R k53 53 w' w.heap.size (fun k_ => some k_ ≠ (u3 : Value).ownBlock) v4 x4_2) ∧ Aside0 (w'.heap[gb312]? = some (.cells #[.int .i64 a0_0, .int .i64 a0_1, .int .i64 a0_2, .int .i64 a0_3, .int .i64 a0_4] 29 (0, 0))) ∧ Aside0 (Below w.heap.size w w'))
    case atStart => exact ⟨(([] : List (S53))), (0), (by first | rfl | (simp; done) | (simp [*]; done)), H', ⟨Nat.le_refl _⟩, ⟨by (with_reducible repeat (first | apply Kd.R_alloc | apply Kd.R_drewN | apply Kd.R_drew)); exact Kd.R_mono HO_3.out (fun _ hk => (by simp [Value.ownBlock]))⟩, ⟨by first | exact Kd.R_nil _ _ _ _ _ | exact Kd.N_nil _ _ _ _ _ | exact Kd.V_nil _ _ _ _ _ | exact Kd.Q_nil _ _ _ _ _ | exact Kd.S_nil _ _ _ _ _⟩, ⟨kz BK312⟩, ⟨hz HB⟩⟩
    case round =>
     clear H'
     try clear c3
     try clear c3b0
     try clear c3b1
     try clear hcz10_0
     try clear hcz10_1
     try clear hcz10_2
     try clear hcz10_3
     try clear hcz10_4
     try clear hcz6_0
     try clear hcz6_1
     try clear hcz6_2
     try clear hcz6_3
     try clear hcz6_4
     try clear hfz10_0
     try clear hfz10_1
     try clear hfz10_2
     try clear hfz10_3
     try clear hfz10_4
     try clear hfz6_0
     try clear hfz6_1
     try clear hfz6_2
     try clear hfz6_3
     try clear hfz6_4
     obtain ⟨x4_2, x5_2, rfl, HA, HK2, HO_3, HO_4, BK312, HB⟩ := hrel
     cases gk with
     | zero => exact absurd HA.out (by simp [vitrineref10_Passes.l0])
     | succ k2 =>
      have H := HA.out
      clear HA
      simp only [vitrineref10_Passes.l0] at H
      by_cases c14 : x5_2 < (x3_3.length : Int)
      ·rw [if_pos c14] at H
       have c14b0 : decide (x5_2 < (x3_3.length : Int)) = true := decide_eq_true c14
       clear c14
       by_cases c15 : 0 ≤ x5_2
       ·rw [if_pos c15] at H
        have c15b0 : decide (0 ≤ x5_2) = true := decide_eq_true c15
        clear c15
        replace H := Option.bind_eq_some_iff.mp H
        obtain ⟨t322, A160, H⟩ := H
        replace H : ((vitrineref10_many.f k2 a0_1 ((rd_T53 x3_3 x5_2).f1) ((rd_T53 x3_3 x5_2).f3)).bind fun t323 => (if t322 > 0 then (if t323 > 0 then (if x4_2.length < 2932031007402 then (vitrineref10_Passes.l0 k2 x3_3 (x4_2 ++ [(⟨(rd_T53 x3_3 x5_2).f0, (rd_T53 x3_3 x5_2).f1, (rd_T53 x3_3 x5_2).f2, (rd_T53 x3_3 x5_2).f3, t322, t323⟩ : S53)]) (wrap64 (x5_2 + 1)) a0_0 a0_1 a0_2 a0_3 a0_4) else (none)) else (vitrineref10_Passes.l0 k2 x3_3 x4_2 (wrap64 (x5_2 + 1)) a0_0 a0_1 a0_2 a0_3 a0_4)) else (vitrineref10_Passes.l0 k2 x3_3 x4_2 (wrap64 (x5_2 + 1)) a0_0 a0_1 a0_2 a0_3 a0_4))) = some r := H
        have A16 := Aside0.mk A160
        clear A160
        replace H := Option.bind_eq_some_iff.mp H
        obtain ⟨t323, A170, H⟩ := H
        replace H : (if t322 > 0 then (if t323 > 0 then (if x4_2.length < 2932031007402 then (vitrineref10_Passes.l0 k2 x3_3 (x4_2 ++ [(⟨(rd_T53 x3_3 x5_2).f0, (rd_T53 x3_3 x5_2).f1, (rd_T53 x3_3 x5_2).f2, (rd_T53 x3_3 x5_2).f3, t322, t323⟩ : S53)]) (wrap64 (x5_2 + 1)) a0_0 a0_1 a0_2 a0_3 a0_4) else (none)) else (vitrineref10_Passes.l0 k2 x3_3 x4_2 (wrap64 (x5_2 + 1)) a0_0 a0_1 a0_2 a0_3 a0_4)) else (vitrineref10_Passes.l0 k2 x3_3 x4_2 (wrap64 (x5_2 + 1)) a0_0 a0_1 a0_2 a0_3 a0_4)) = some r := H
        have A17 := Aside0.mk A170
        clear A170
        by_cases c18 : t322 > 0
        ·rw [if_pos c18] at H
         have c18b0 : decide (0 < t322) = true := decide_eq_true c18
         clear c18
         by_cases c19 : t323 > 0
         ·rw [if_pos c19] at H
          have c19b0 : decide (0 < t323) = true := decide_eq_true c19
          clear c19
          by_cases c20 : x4_2.length < 2932031007402
          ·rw [if_pos c20] at H
           have LMc20 := Aside0.mk c20
           clear c20
           obtain ⟨y324, hy324⟩ : ∃ y_ : List (S53), y_ = (x4_2 ++ [(⟨(rd_T53 x3_3 x5_2).f0, (rd_T53 x3_3 x5_2).f1, (rd_T53 x3_3 x5_2).f2, (rd_T53 x3_3 x5_2).f3, t322, t323⟩ : S53)]) := ⟨_, rfl⟩
           replace H : (vitrineref10_Passes.l0 k2 x3_3 y324 (wrap64 (x5_2 + 1)) a0_0 a0_1 a0_2 a0_3 a0_4) = some r := by first | (rw [hy324]; with_reducible exact H) | (have H2_ := (Option.bind_some _ _).symm.trans H; rw [hy324]; with_reducible exact H2_) | (have H2_ := (Option.bind_some _ _).symm.trans H; with_reducible exact H2_) | with_reducible exact H | (rw [hy324]; exact H) | exact H
           have Ny324 := Aside0.mk hy324
           clear hy324
           have H' := Aside0.mk H
           clear H
           obtain ⟨Ao21, co21, eo21⟩ := Kd.R_slice HO_3.out
           subst eo21
           have p320 : 0 ≤ (x5_2 : Int) := of_decide_eq_true (by first | (with_reducible assumption) | assumption)
           have q320 : x5_2 < (x3_3.length : Int) := of_decide_eq_true (by first | (with_reducible assumption) | assumption)
           obtain ⟨ad320, e320, hx320_0, hx320_1, hx320_2, hx320_3, hx320_4, hx320_5⟩ := at_T53 (Kd.R_reads' HO_3.out).2.2 x5_2 p320 q320
           cases e320
           replace p320 := eq_true p320
           replace q320 := eq_true q320
           go_upto_region 11 with (fail)
           obtain ⟨gb321, hg, w22, hw_, hbox, hb⟩ : ∃ g_ : Nat, g_ = (by exact wr : World).heap.size ∧ ∃ w_ : World, w_ = wr.alloc (.cells #[.int .i64 ((rd_T53 x3_3 x5_2).f0), .int .i64 ((rd_T53 x3_3 x5_2).f1), .int .i64 ((rd_T53 x3_3 x5_2).f2), .int .i64 ((rd_T53 x3_3 x5_2).f3), .int .i64 ((rd_T53 x3_3 x5_2).f4), .int .i64 ((rd_T53 x3_3 x5_2).f5)] 53) ∧ w_.heap[g_]? = some (.cells #[.int .i64 ((rd_T53 x3_3 x5_2).f0), .int .i64 ((rd_T53 x3_3 x5_2).f1), .int .i64 ((rd_T53 x3_3 x5_2).f2), .int .i64 ((rd_T53 x3_3 x5_2).f3), .int .i64 ((rd_T53 x3_3 x5_2).f4), .int .i64 ((rd_T53 x3_3 x5_2).f5)] 53 (0, 0)) ∧ Below wr.heap.size wr w_ := ⟨_, rfl, _, rfl, Array.getElem?_push_size, below_alloc (Below.refl _ _) _⟩
           rw [← hg, ← hw_]
           clear hw_
           have n0_ := Aside0.mk (Kd.R_below (Kd.R_elderB (oz HO_3) gb321 (Nat.le_of_eq hg.symm)) hb)
           have n1_ := Aside0.mk (Kd.R_below (Kd.R_elderB (oz HO_4) gb321 (Nat.le_of_eq hg.symm)) hb)
           have n2_ := Aside0.mk (blk_below (g := gb312) (o := .cells #[.int .i64 a0_0, .int .i64 a0_1, .int .i64 a0_2, .int .i64 a0_3, .int .i64 a0_4] 29 (0, 0)) (kz BK312) hb)
           have n3_ := Aside0.mk (below_step (hz HB) hb)
           have n4_ := Aside0.mk (hbox)
           have n5_ := Aside0.mk ((by rw [hg]; exact (below_size (hz HB)) : w.heap.size ≤ gb321))
           have n6_ := Aside0.mk ((by rw [hg]; exact (below_size (hz HB)) : w.heap.size ≤ gb321))
           have n7_ := Aside0.mk ((by rw [hg]; exact Nat.ne_of_lt (blk_lt (g := gb312) (o := .cells #[.int .i64 a0_0, .int .i64 a0_1, .int .i64 a0_2, .int .i64 a0_3, .int .i64 a0_4] 29 (0, 0)) (kz BK312)) : gb312 ≠ gb321))
           have n8_ := Aside0.mk ((by rw [hg]; exact Nat.ne_of_gt (blk_lt (g := gb312) (o := .cells #[.int .i64 a0_0, .int .i64 a0_1, .int .i64 a0_2, .int .i64 a0_3, .int .i64 a0_4] 29 (0, 0)) (kz BK312)) : gb321 ≠ gb312))
           clear HO_3
           clear HO_4
           clear BK312
           clear HB
           have HO_3 := n0_
           have HO_4 := n1_
           have BK312 := n2_
           have HB := n3_
           have BK321 := n4_
           have GW321 := n5_
           have GE321 := n6_
           have NB312_321 := n7_
           have NB321_312 := n8_
           clear n0_ n1_ n2_ n3_ n4_ n5_ n6_ n7_ n8_
           clear hb hbox hg
           have hnb23 := NB321_312.out
           have hnc23 := NB312_321.out
           have hcz24_0 : w22.cell? ⟨gb321, 0, none⟩ = some (.int .i64 ((rd_T53 x3_3 x5_2).f0)) := (blk_cell BK321.out 0).trans rfl
           have hcz24_1 : w22.cell? ⟨gb321, 1, none⟩ = some (.int .i64 ((rd_T53 x3_3 x5_2).f1)) := (blk_cell BK321.out 1).trans rfl
           have hcz24_2 : w22.cell? ⟨gb321, 2, none⟩ = some (.int .i64 ((rd_T53 x3_3 x5_2).f2)) := (blk_cell BK321.out 2).trans rfl
           have hcz24_3 : w22.cell? ⟨gb321, 3, none⟩ = some (.int .i64 ((rd_T53 x3_3 x5_2).f3)) := (blk_cell BK321.out 3).trans rfl
           have hcz24_4 : w22.cell? ⟨gb321, 4, none⟩ = some (.int .i64 ((rd_T53 x3_3 x5_2).f4)) := (blk_cell BK321.out 4).trans rfl
           have hcz24_5 : w22.cell? ⟨gb321, 5, none⟩ = some (.int .i64 ((rd_T53 x3_3 x5_2).f5)) := (blk_cell BK321.out 5).trans rfl
           have hfz24_0 := blk_frozen BK321.out 0
           have hfz24_1 := blk_frozen BK321.out 1
           have hfz24_2 := blk_frozen BK321.out 2
           have hfz24_3 := blk_frozen BK321.out 3
           have hfz24_4 := blk_frozen BK321.out 4
           have hfz24_5 := blk_frozen BK321.out 5
           have hcz25_0 : w22.cell? ⟨gb312, 0, none⟩ = some (.int .i64 a0_0) := (blk_cell BK312.out 0).trans rfl
           have hcz25_1 : w22.cell? ⟨gb312, 1, none⟩ = some (.int .i64 a0_1) := (blk_cell BK312.out 1).trans rfl
           have hcz25_2 : w22.cell? ⟨gb312, 2, none⟩ = some (.int .i64 a0_2) := (blk_cell BK312.out 2).trans rfl
           have hcz25_3 : w22.cell? ⟨gb312, 3, none⟩ = some (.int .i64 a0_3) := (blk_cell BK312.out 3).trans rfl
           have hcz25_4 : w22.cell? ⟨gb312, 4, none⟩ = some (.int .i64 a0_4) := (blk_cell BK312.out 4).trans rfl
           have hfz25_0 := blk_frozen BK312.out 0
           have hfz25_1 := blk_frozen BK312.out 1
           have hfz25_2 := blk_frozen BK312.out 2
           have hfz25_3 := blk_frozen BK312.out 3
           have hfz25_4 := blk_frozen BK312.out 4
           go_wp2_with (first | ((with_reducible refine gate_callee (f := 44) rfl ?_); refine gz 39 Try.func44 #[.int .i64 a0_0, .int .i64 ((rd_T53 x3_3 x5_2).f0), .int .i64 ((rd_T53 x3_3 x5_2).f2)] ?_; (with_reducible refine (vitrineref10_many.calls k2 a0_0 ((rd_T53 x3_3 x5_2).f0) ((rd_T53 x3_3 x5_2).f2) t322 _ A16.out).mono ?_); rintro e w' ⟨rfl, ⟨nd, rfl⟩⟩; refine ⟨_, rfl, ?_⟩) | ((with_reducible refine gate_callee (f := 44) rfl ?_); refine gz 47 Try.func44 #[.int .i64 a0_1, .int .i64 ((rd_T53 x3_3 x5_2).f1), .int .i64 ((rd_T53 x3_3 x5_2).f3)] ?_; (with_reducible refine (vitrineref10_many.calls k2 a0_1 ((rd_T53 x3_3 x5_2).f1) ((rd_T53 x3_3 x5_2).f3) t323 _ A17.out).mono ?_); rintro e w' ⟨rfl, ⟨nd, rfl⟩⟩; refine ⟨_, rfl, ?_⟩) | ((with_reducible refine gate_builtin (b := .append) (xs := #[.tmp 57, .tmp 59]) rfl ?_); at_builtin; refine Kd.R_append k53 (w0 := w) w.heap.size rfl (.tmp 57) (.tmp 59) 50 53 (.agg #[(.int .i64 0), (.int .i64 0), (.int .i64 0), (.int .i64 0), (.int .i64 0), (.int .i64 0)]) 48 rfl Try.underlying50 info53 rfl (by decide) (by omega) u4 x4_2 (⟨(rd_T53 x3_3 x5_2).f0, (rd_T53 x3_3 x5_2).f1, (rd_T53 x3_3 x5_2).f2, (rd_T53 x3_3 x5_2).f3, t322, t323⟩ : S53) [.int .i64 ((rd_T53 x3_3 x5_2).f0), .int .i64 ((rd_T53 x3_3 x5_2).f1), .int .i64 ((rd_T53 x3_3 x5_2).f2), .int .i64 ((rd_T53 x3_3 x5_2).f3), .int .i64 t322, .int .i64 t323] (fun k_ => some k_ ≠ (.slice (some ad320) x3_3.length co21 : Value).ownBlock ∧ k_ ≠ gb321) (fun _ => False) rfl (by first | (go_simp; done) | (go_simp; rfl)) ?aP (fun _ hk => hk.elim) ?aF ?aO ?aB ?aS ?aL ?_; (case aP => exact k53_mkM _ _ _ (⟨(rd_T53 x3_3 x5_2).f0, (rd_T53 x3_3 x5_2).f1, (rd_T53 x3_3 x5_2).f2, (rd_T53 x3_3 x5_2).f3, t322, t323⟩ : S53)); (case aB => exact (hz HB)); (case aF => exact (fun k_ hk => ⟨Kd.fresh' (Kd.R_lt (by (with_reducible repeat (first | apply Kd.R_alloc | apply Kd.R_drewN | apply Kd.R_drew)); exact (Kd.R_mono (Kd.R_far (p := ⟨gb321, 5, none⟩) (Kd.R_far (p := ⟨gb321, 4, none⟩) (Kd.R_mono HO_3.out (fun k_ hk => (⟨hk, hk.2⟩ : _ ∧ k_ ≠ gb321))) (fun _ hk => hk.2) (.int .i64 t322)) (fun _ hk => hk.2) (.int .i64 t323)) (fun _ h_ => h_.1)))) k_ hk, Kd.freshB (g := gb321) (o := .cells #[.int .i64 ((rd_T53 x3_3 x5_2).f0), .int .i64 ((rd_T53 x3_3 x5_2).f1), .int .i64 ((rd_T53 x3_3 x5_2).f2), .int .i64 ((rd_T53 x3_3 x5_2).f3), .int .i64 t322, .int .i64 t323] 53 (0, 0)) (by (with_reducible repeat (first | refine blk_drewN ?_ _ | refine blk_drew ?_ | refine blk_alloc ?_ _)); refine blk_put (cs := #[.int .i64 ((rd_T53 x3_3 x5_2).f0), .int .i64 ((rd_T53 x3_3 x5_2).f1), .int .i64 ((rd_T53 x3_3 x5_2).f2), .int .i64 ((rd_T53 x3_3 x5_2).f3), .int .i64 t322, .int .i64 ((rd_T53 x3_3 x5_2).f5)]) ?_ 5 _ rfl; (with_reducible repeat (first | refine blk_drewN ?_ _ | refine blk_drew ?_ | refine blk_alloc ?_ _)); refine blk_put (cs := #[.int .i64 ((rd_T53 x3_3 x5_2).f0), .int .i64 ((rd_T53 x3_3 x5_2).f1), .int .i64 ((rd_T53 x3_3 x5_2).f2), .int .i64 ((rd_T53 x3_3 x5_2).f3), .int .i64 ((rd_T53 x3_3 x5_2).f4), .int .i64 ((rd_T53 x3_3 x5_2).f5)]) ?_ 4 _ rfl; (with_reducible repeat (first | refine blk_drewN ?_ _ | refine blk_drew ?_ | refine blk_alloc ?_ _)); exact BK321.out) k_ hk⟩)); (case aO => exact (by (with_reducible repeat (first | apply Kd.R_alloc | apply Kd.R_drewN | apply Kd.R_drew)); exact Kd.R_mono (Kd.R_far (p := ⟨gb321, 5, none⟩) (Kd.R_far (p := ⟨gb321, 4, none⟩) (Kd.R_mono HO_4.out (fun k_ hk => (⟨hk, hk.2⟩ : _ ∧ k_ ≠ gb321))) (fun _ hk => hk.2) (.int .i64 t322)) (fun _ hk => hk.2) (.int .i64 t323)) (fun _ hk => ⟨hk.1.1, hk.1.2⟩))); (case aS => exact (below_size (hz HB))); (case aL => have := LMc20.out; omega); intro v325 w26 ho hb hg hat; rw [← Ny324.out] at ho; have n0_ := Aside0.mk (Kd.R_after (ok := (fun k_ => k_ ≠ gb321)) (by (with_reducible repeat (first | apply Kd.R_alloc | apply Kd.R_drewN | apply Kd.R_drew)); exact Kd.R_mono (Kd.R_far (p := ⟨gb321, 5, none⟩) (Kd.R_far (p := ⟨gb321, 4, none⟩) (Kd.R_mono HO_3.out (fun k_ hk => (⟨hk, hk.2⟩ : _ ∧ k_ ≠ gb321))) (fun _ hk => hk.2) (.int .i64 t322)) (fun _ hk => hk.2) (.int .i64 t323)) (fun _ hk => ⟨hk.1.2, hk.1.1⟩)) hg hat); have n1_ := Aside0.mk (blk_grown (g := gb312) (o := .cells #[.int .i64 a0_0, .int .i64 a0_1, .int .i64 a0_2, .int .i64 a0_3, .int .i64 a0_4] 29 (0, 0)) (by (with_reducible repeat (first | refine blk_drewN ?_ _ | refine blk_drew ?_ | refine blk_alloc ?_ _)); refine blk_far ?_ NB312_321.out _; (with_reducible repeat (first | refine blk_drewN ?_ _ | refine blk_drew ?_ | refine blk_alloc ?_ _)); refine blk_far ?_ NB312_321.out _; (with_reducible repeat (first | refine blk_drewN ?_ _ | refine blk_drew ?_ | refine blk_alloc ?_ _)); exact BK312.out) hg (Kd.R_ne HO_4.out BK312.out (by decide))); have n2_ := Aside0.mk (blk_grown (g := gb321) (o := .cells #[.int .i64 ((rd_T53 x3_3 x5_2).f0), .int .i64 ((rd_T53 x3_3 x5_2).f1), .int .i64 ((rd_T53 x3_3 x5_2).f2), .int .i64 ((rd_T53 x3_3 x5_2).f3), .int .i64 t322, .int .i64 t323] 53 (0, 0)) (by (with_reducible repeat (first | refine blk_drewN ?_ _ | refine blk_drew ?_ | refine blk_alloc ?_ _)); refine blk_put (cs := #[.int .i64 ((rd_T53 x3_3 x5_2).f0), .int .i64 ((rd_T53 x3_3 x5_2).f1), .int .i64 ((rd_T53 x3_3 x5_2).f2), .int .i64 ((rd_T53 x3_3 x5_2).f3), .int .i64 t322, .int .i64 ((rd_T53 x3_3 x5_2).f5)]) ?_ 5 _ rfl; (with_reducible repeat (first | refine blk_drewN ?_ _ | refine blk_drew ?_ | refine blk_alloc ?_ _)); refine blk_put (cs := #[.int .i64 ((rd_T53 x3_3 x5_2).f0), .int .i64 ((rd_T53 x3_3 x5_2).f1), .int .i64 ((rd_T53 x3_3 x5_2).f2), .int .i64 ((rd_T53 x3_3 x5_2).f3), .int .i64 ((rd_T53 x3_3 x5_2).f4), .int .i64 ((rd_T53 x3_3 x5_2).f5)]) ?_ 4 _ rfl; (with_reducible repeat (first | refine blk_drewN ?_ _ | refine blk_drew ?_ | refine blk_alloc ?_ _)); exact BK321.out) hg (Kd.R_away HO_4.out (fun _ hk => hk.2))); have n3_ := Aside0.mk (hb); have n4_ := Aside0.mk (ho); clear HO_3; clear BK312; clear BK321; clear HB; clear HO_4; have HO_3 := n0_; have BK312 := n1_; have BK321 := n2_; have HB := n3_; have HO326 := n4_; clear n0_ n1_ n2_ n3_ n4_; clear ho hb hg hat))
           go_roundg k2
           case measure => have := HJ3.out; have := HK2.out; omega
           case rel => exact ⟨(y324), (wrap64 (x5_2 + 1)), (by first | rfl | (simp; done) | (simp [*]; done)), H', ⟨by have := HJ3.out; have := HK2.out; omega⟩, ⟨by (with_reducible repeat (first | apply Kd.R_alloc | apply Kd.R_drewN | apply Kd.R_drew)); exact Kd.R_mono HO_3.out (fun _ hk => hk.2)⟩, ⟨by (with_reducible repeat (first | apply Kd.R_alloc | apply Kd.R_drewN | apply Kd.R_drew)); exact Kd.R_mono HO326.out (fun _ hk => hk.1)⟩, ⟨kz BK312⟩, ⟨hz HB⟩⟩
          ·rw [if_neg c20] at H
           exact absurd H (by simp)
         ·rw [if_neg c19] at H
          have c19b0 : decide (0 < t323) = false := decide_eq_false c19
          clear c19
          have H' := Aside0.mk H
          clear H
          obtain ⟨Ao27, co27, eo27⟩ := Kd.R_slice HO_3.out
          subst eo27
          have p320 : 0 ≤ (x5_2 : Int) := of_decide_eq_true (by first | (with_reducible assumption) | assumption)
          have q320 : x5_2 < (x3_3.length : Int) := of_decide_eq_true (by first | (with_reducible assumption) | assumption)
          obtain ⟨ad320, e320, hx320_0, hx320_1, hx320_2, hx320_3, hx320_4, hx320_5⟩ := at_T53 (Kd.R_reads' HO_3.out).2.2 x5_2 p320 q320
          cases e320
          replace p320 := eq_true p320
          replace q320 := eq_true q320
          go_upto_region 11 with (fail)
          obtain ⟨gb321, hg, w28, hw_, hbox, hb⟩ : ∃ g_ : Nat, g_ = (by exact wr : World).heap.size ∧ ∃ w_ : World, w_ = wr.alloc (.cells #[.int .i64 ((rd_T53 x3_3 x5_2).f0), .int .i64 ((rd_T53 x3_3 x5_2).f1), .int .i64 ((rd_T53 x3_3 x5_2).f2), .int .i64 ((rd_T53 x3_3 x5_2).f3), .int .i64 ((rd_T53 x3_3 x5_2).f4), .int .i64 ((rd_T53 x3_3 x5_2).f5)] 53) ∧ w_.heap[g_]? = some (.cells #[.int .i64 ((rd_T53 x3_3 x5_2).f0), .int .i64 ((rd_T53 x3_3 x5_2).f1), .int .i64 ((rd_T53 x3_3 x5_2).f2), .int .i64 ((rd_T53 x3_3 x5_2).f3), .int .i64 ((rd_T53 x3_3 x5_2).f4), .int .i64 ((rd_T53 x3_3 x5_2).f5)] 53 (0, 0)) ∧ Below wr.heap.size wr w_ := ⟨_, rfl, _, rfl, Array.getElem?_push_size, below_alloc (Below.refl _ _) _⟩
          rw [← hg, ← hw_]
          clear hw_
          have n0_ := Aside0.mk (Kd.R_below (Kd.R_elderB (oz HO_3) gb321 (Nat.le_of_eq hg.symm)) hb)
          have n1_ := Aside0.mk (Kd.R_below (Kd.R_elderB (oz HO_4) gb321 (Nat.le_of_eq hg.symm)) hb)
          have n2_ := Aside0.mk (blk_below (g := gb312) (o := .cells #[.int .i64 a0_0, .int .i64 a0_1, .int .i64 a0_2, .int .i64 a0_3, .int .i64 a0_4] 29 (0, 0)) (kz BK312) hb)
          have n3_ := Aside0.mk (below_step (hz HB) hb)
          have n4_ := Aside0.mk (hbox)
          have n5_ := Aside0.mk ((by rw [hg]; exact (below_size (hz HB)) : w.heap.size ≤ gb321))
          have n6_ := Aside0.mk ((by rw [hg]; exact (below_size (hz HB)) : w.heap.size ≤ gb321))
          have n7_ := Aside0.mk ((by rw [hg]; exact Nat.ne_of_lt (blk_lt (g := gb312) (o := .cells #[.int .i64 a0_0, .int .i64 a0_1, .int .i64 a0_2, .int .i64 a0_3, .int .i64 a0_4] 29 (0, 0)) (kz BK312)) : gb312 ≠ gb321))
          have n8_ := Aside0.mk ((by rw [hg]; exact Nat.ne_of_gt (blk_lt (g := gb312) (o := .cells #[.int .i64 a0_0, .int .i64 a0_1, .int .i64 a0_2, .int .i64 a0_3, .int .i64 a0_4] 29 (0, 0)) (kz BK312)) : gb321 ≠ gb312))
          clear HO_3
          clear HO_4
          clear BK312
          clear HB
          have HO_3 := n0_
          have HO_4 := n1_
          have BK312 := n2_
          have HB := n3_
          have BK321 := n4_
          have GW321 := n5_
          have GE321 := n6_
          have NB312_321 := n7_
          have NB321_312 := n8_
          clear n0_ n1_ n2_ n3_ n4_ n5_ n6_ n7_ n8_
          clear hb hbox hg
          have hnb29 := NB321_312.out
          have hnc29 := NB312_321.out
          have hcz30_0 : w28.cell? ⟨gb321, 0, none⟩ = some (.int .i64 ((rd_T53 x3_3 x5_2).f0)) := (blk_cell BK321.out 0).trans rfl
          have hcz30_1 : w28.cell? ⟨gb321, 1, none⟩ = some (.int .i64 ((rd_T53 x3_3 x5_2).f1)) := (blk_cell BK321.out 1).trans rfl
          have hcz30_2 : w28.cell? ⟨gb321, 2, none⟩ = some (.int .i64 ((rd_T53 x3_3 x5_2).f2)) := (blk_cell BK321.out 2).trans rfl
          have hcz30_3 : w28.cell? ⟨gb321, 3, none⟩ = some (.int .i64 ((rd_T53 x3_3 x5_2).f3)) := (blk_cell BK321.out 3).trans rfl
          have hcz30_4 : w28.cell? ⟨gb321, 4, none⟩ = some (.int .i64 ((rd_T53 x3_3 x5_2).f4)) := (blk_cell BK321.out 4).trans rfl
          have hcz30_5 : w28.cell? ⟨gb321, 5, none⟩ = some (.int .i64 ((rd_T53 x3_3 x5_2).f5)) := (blk_cell BK321.out 5).trans rfl
          have hfz30_0 := blk_frozen BK321.out 0
          have hfz30_1 := blk_frozen BK321.out 1
          have hfz30_2 := blk_frozen BK321.out 2
          have hfz30_3 := blk_frozen BK321.out 3
          have hfz30_4 := blk_frozen BK321.out 4
          have hfz30_5 := blk_frozen BK321.out 5
          have hcz31_0 : w28.cell? ⟨gb312, 0, none⟩ = some (.int .i64 a0_0) := (blk_cell BK312.out 0).trans rfl
          have hcz31_1 : w28.cell? ⟨gb312, 1, none⟩ = some (.int .i64 a0_1) := (blk_cell BK312.out 1).trans rfl
          have hcz31_2 : w28.cell? ⟨gb312, 2, none⟩ = some (.int .i64 a0_2) := (blk_cell BK312.out 2).trans rfl
          have hcz31_3 : w28.cell? ⟨gb312, 3, none⟩ = some (.int .i64 a0_3) := (blk_cell BK312.out 3).trans rfl
          have hcz31_4 : w28.cell? ⟨gb312, 4, none⟩ = some (.int .i64 a0_4) := (blk_cell BK312.out 4).trans rfl
          have hfz31_0 := blk_frozen BK312.out 0
          have hfz31_1 := blk_frozen BK312.out 1
          have hfz31_2 := blk_frozen BK312.out 2
          have hfz31_3 := blk_frozen BK312.out 3
          have hfz31_4 := blk_frozen BK312.out 4
          go_wp2_with (first | ((with_reducible refine gate_callee (f := 44) rfl ?_); refine gz 39 Try.func44 #[.int .i64 a0_0, .int .i64 ((rd_T53 x3_3 x5_2).f0), .int .i64 ((rd_T53 x3_3 x5_2).f2)] ?_; (with_reducible refine (vitrineref10_many.calls k2 a0_0 ((rd_T53 x3_3 x5_2).f0) ((rd_T53 x3_3 x5_2).f2) t322 _ A16.out).mono ?_); rintro e w' ⟨rfl, ⟨nd, rfl⟩⟩; refine ⟨_, rfl, ?_⟩) | ((with_reducible refine gate_callee (f := 44) rfl ?_); refine gz 47 Try.func44 #[.int .i64 a0_1, .int .i64 ((rd_T53 x3_3 x5_2).f1), .int .i64 ((rd_T53 x3_3 x5_2).f3)] ?_; (with_reducible refine (vitrineref10_many.calls k2 a0_1 ((rd_T53 x3_3 x5_2).f1) ((rd_T53 x3_3 x5_2).f3) t323 _ A17.out).mono ?_); rintro e w' ⟨rfl, ⟨nd, rfl⟩⟩; refine ⟨_, rfl, ?_⟩))
          go_roundg k2
          case measure => have := HJ3.out; have := HK2.out; omega
          case rel => exact ⟨(x4_2), (wrap64 (x5_2 + 1)), (by first | rfl | (simp; done) | (simp [*]; done)), H', ⟨by have := HJ3.out; have := HK2.out; omega⟩, ⟨by (with_reducible repeat (first | apply Kd.R_alloc | apply Kd.R_drewN | apply Kd.R_drew)); exact Kd.R_mono (Kd.R_far (p := ⟨gb321, 5, none⟩) (Kd.R_far (p := ⟨gb321, 4, none⟩) (Kd.R_mono HO_3.out (fun k_ hk => (⟨hk, hk.2⟩ : _ ∧ k_ ≠ gb321))) (fun _ hk => hk.2) (.int .i64 t322)) (fun _ hk => hk.2) (.int .i64 t323)) (fun _ hk => hk.1.1)⟩, ⟨by (with_reducible repeat (first | apply Kd.R_alloc | apply Kd.R_drewN | apply Kd.R_drew)); exact Kd.R_mono (Kd.R_far (p := ⟨gb321, 5, none⟩) (Kd.R_far (p := ⟨gb321, 4, none⟩) (Kd.R_mono HO_4.out (fun k_ hk => (⟨hk, hk.2⟩ : _ ∧ k_ ≠ gb321))) (fun _ hk => hk.2) (.int .i64 t322)) (fun _ hk => hk.2) (.int .i64 t323)) (fun _ hk => hk.1.1)⟩, ⟨by (with_reducible repeat (first | refine blk_drewN ?_ _ | refine blk_drew ?_ | refine blk_alloc ?_ _)); refine blk_far ?_ NB312_321.out _; (with_reducible repeat (first | refine blk_drewN ?_ _ | refine blk_drew ?_ | refine blk_alloc ?_ _)); refine blk_far ?_ NB312_321.out _; (with_reducible repeat (first | refine blk_drewN ?_ _ | refine blk_drew ?_ | refine blk_alloc ?_ _)); exact BK312.out⟩, ⟨hz HB⟩⟩
        ·rw [if_neg c18] at H
         have c18b0 : decide (0 < t322) = false := decide_eq_false c18
         clear c18
         have H' := Aside0.mk H
         clear H
         obtain ⟨Ao32, co32, eo32⟩ := Kd.R_slice HO_3.out
         subst eo32
         have p320 : 0 ≤ (x5_2 : Int) := of_decide_eq_true (by first | (with_reducible assumption) | assumption)
         have q320 : x5_2 < (x3_3.length : Int) := of_decide_eq_true (by first | (with_reducible assumption) | assumption)
         obtain ⟨ad320, e320, hx320_0, hx320_1, hx320_2, hx320_3, hx320_4, hx320_5⟩ := at_T53 (Kd.R_reads' HO_3.out).2.2 x5_2 p320 q320
         cases e320
         replace p320 := eq_true p320
         replace q320 := eq_true q320
         go_upto_region 11 with (fail)
         obtain ⟨gb321, hg, w33, hw_, hbox, hb⟩ : ∃ g_ : Nat, g_ = (by exact wr : World).heap.size ∧ ∃ w_ : World, w_ = wr.alloc (.cells #[.int .i64 ((rd_T53 x3_3 x5_2).f0), .int .i64 ((rd_T53 x3_3 x5_2).f1), .int .i64 ((rd_T53 x3_3 x5_2).f2), .int .i64 ((rd_T53 x3_3 x5_2).f3), .int .i64 ((rd_T53 x3_3 x5_2).f4), .int .i64 ((rd_T53 x3_3 x5_2).f5)] 53) ∧ w_.heap[g_]? = some (.cells #[.int .i64 ((rd_T53 x3_3 x5_2).f0), .int .i64 ((rd_T53 x3_3 x5_2).f1), .int .i64 ((rd_T53 x3_3 x5_2).f2), .int .i64 ((rd_T53 x3_3 x5_2).f3), .int .i64 ((rd_T53 x3_3 x5_2).f4), .int .i64 ((rd_T53 x3_3 x5_2).f5)] 53 (0, 0)) ∧ Below wr.heap.size wr w_ := ⟨_, rfl, _, rfl, Array.getElem?_push_size, below_alloc (Below.refl _ _) _⟩
         rw [← hg, ← hw_]
         clear hw_
         have n0_ := Aside0.mk (Kd.R_below (Kd.R_elderB (oz HO_3) gb321 (Nat.le_of_eq hg.symm)) hb)
         have n1_ := Aside0.mk (Kd.R_below (Kd.R_elderB (oz HO_4) gb321 (Nat.le_of_eq hg.symm)) hb)
         have n2_ := Aside0.mk (blk_below (g := gb312) (o := .cells #[.int .i64 a0_0, .int .i64 a0_1, .int .i64 a0_2, .int .i64 a0_3, .int .i64 a0_4] 29 (0, 0)) (kz BK312) hb)
         have n3_ := Aside0.mk (below_step (hz HB) hb)
         have n4_ := Aside0.mk (hbox)
         have n5_ := Aside0.mk ((by rw [hg]; exact (below_size (hz HB)) : w.heap.size ≤ gb321))
         have n6_ := Aside0.mk ((by rw [hg]; exact (below_size (hz HB)) : w.heap.size ≤ gb321))
         have n7_ := Aside0.mk ((by rw [hg]; exact Nat.ne_of_lt (blk_lt (g := gb312) (o := .cells #[.int .i64 a0_0, .int .i64 a0_1, .int .i64 a0_2, .int .i64 a0_3, .int .i64 a0_4] 29 (0, 0)) (kz BK312)) : gb312 ≠ gb321))
         have n8_ := Aside0.mk ((by rw [hg]; exact Nat.ne_of_gt (blk_lt (g := gb312) (o := .cells #[.int .i64 a0_0, .int .i64 a0_1, .int .i64 a0_2, .int .i64 a0_3, .int .i64 a0_4] 29 (0, 0)) (kz BK312)) : gb321 ≠ gb312))
         clear HO_3
         clear HO_4
         clear BK312
         clear HB
         have HO_3 := n0_
         have HO_4 := n1_
         have BK312 := n2_
         have HB := n3_
         have BK321 := n4_
         have GW321 := n5_
         have GE321 := n6_
         have NB312_321 := n7_
         have NB321_312 := n8_
         clear n0_ n1_ n2_ n3_ n4_ n5_ n6_ n7_ n8_
         clear hb hbox hg
         have hnb34 := NB321_312.out
         have hnc34 := NB312_321.out
         have hcz35_0 : w33.cell? ⟨gb321, 0, none⟩ = some (.int .i64 ((rd_T53 x3_3 x5_2).f0)) := (blk_cell BK321.out 0).trans rfl
         have hcz35_1 : w33.cell? ⟨gb321, 1, none⟩ = some (.int .i64 ((rd_T53 x3_3 x5_2).f1)) := (blk_cell BK321.out 1).trans rfl
         have hcz35_2 : w33.cell? ⟨gb321, 2, none⟩ = some (.int .i64 ((rd_T53 x3_3 x5_2).f2)) := (blk_cell BK321.out 2).trans rfl
         have hcz35_3 : w33.cell? ⟨gb321, 3, none⟩ = some (.int .i64 ((rd_T53 x3_3 x5_2).f3)) := (blk_cell BK321.out 3).trans rfl
         have hcz35_4 : w33.cell? ⟨gb321, 4, none⟩ = some (.int .i64 ((rd_T53 x3_3 x5_2).f4)) := (blk_cell BK321.out 4).trans rfl
         have hcz35_5 : w33.cell? ⟨gb321, 5, none⟩ = some (.int .i64 ((rd_T53 x3_3 x5_2).f5)) := (blk_cell BK321.out 5).trans rfl
         have hfz35_0 := blk_frozen BK321.out 0
         have hfz35_1 := blk_frozen BK321.out 1
         have hfz35_2 := blk_frozen BK321.out 2
         have hfz35_3 := blk_frozen BK321.out 3
         have hfz35_4 := blk_frozen BK321.out 4
         have hfz35_5 := blk_frozen BK321.out 5
         have hcz36_0 : w33.cell? ⟨gb312, 0, none⟩ = some (.int .i64 a0_0) := (blk_cell BK312.out 0).trans rfl
         have hcz36_1 : w33.cell? ⟨gb312, 1, none⟩ = some (.int .i64 a0_1) := (blk_cell BK312.out 1).trans rfl
         have hcz36_2 : w33.cell? ⟨gb312, 2, none⟩ = some (.int .i64 a0_2) := (blk_cell BK312.out 2).trans rfl
         have hcz36_3 : w33.cell? ⟨gb312, 3, none⟩ = some (.int .i64 a0_3) := (blk_cell BK312.out 3).trans rfl
         have hcz36_4 : w33.cell? ⟨gb312, 4, none⟩ = some (.int .i64 a0_4) := (blk_cell BK312.out 4).trans rfl
         have hfz36_0 := blk_frozen BK312.out 0
         have hfz36_1 := blk_frozen BK312.out 1
         have hfz36_2 := blk_frozen BK312.out 2
         have hfz36_3 := blk_frozen BK312.out 3
         have hfz36_4 := blk_frozen BK312.out 4
         go_wp2_with (first | ((with_reducible refine gate_callee (f := 44) rfl ?_); refine gz 39 Try.func44 #[.int .i64 a0_0, .int .i64 ((rd_T53 x3_3 x5_2).f0), .int .i64 ((rd_T53 x3_3 x5_2).f2)] ?_; (with_reducible refine (vitrineref10_many.calls k2 a0_0 ((rd_T53 x3_3 x5_2).f0) ((rd_T53 x3_3 x5_2).f2) t322 _ A16.out).mono ?_); rintro e w' ⟨rfl, ⟨nd, rfl⟩⟩; refine ⟨_, rfl, ?_⟩) | ((with_reducible refine gate_callee (f := 44) rfl ?_); refine gz 47 Try.func44 #[.int .i64 a0_1, .int .i64 ((rd_T53 x3_3 x5_2).f1), .int .i64 ((rd_T53 x3_3 x5_2).f3)] ?_; (with_reducible refine (vitrineref10_many.calls k2 a0_1 ((rd_T53 x3_3 x5_2).f1) ((rd_T53 x3_3 x5_2).f3) t323 _ A17.out).mono ?_); rintro e w' ⟨rfl, ⟨nd, rfl⟩⟩; refine ⟨_, rfl, ?_⟩))
         go_roundg k2
         case measure => have := HJ3.out; have := HK2.out; omega
         case rel => exact ⟨(x4_2), (wrap64 (x5_2 + 1)), (by first | rfl | (simp; done) | (simp [*]; done)), H', ⟨by have := HJ3.out; have := HK2.out; omega⟩, ⟨by (with_reducible repeat (first | apply Kd.R_alloc | apply Kd.R_drewN | apply Kd.R_drew)); exact Kd.R_mono (Kd.R_far (p := ⟨gb321, 5, none⟩) (Kd.R_far (p := ⟨gb321, 4, none⟩) (Kd.R_mono HO_3.out (fun k_ hk => (⟨hk, hk.2⟩ : _ ∧ k_ ≠ gb321))) (fun _ hk => hk.2) (.int .i64 t322)) (fun _ hk => hk.2) (.int .i64 t323)) (fun _ hk => hk.1.1)⟩, ⟨by (with_reducible repeat (first | apply Kd.R_alloc | apply Kd.R_drewN | apply Kd.R_drew)); exact Kd.R_mono (Kd.R_far (p := ⟨gb321, 5, none⟩) (Kd.R_far (p := ⟨gb321, 4, none⟩) (Kd.R_mono HO_4.out (fun k_ hk => (⟨hk, hk.2⟩ : _ ∧ k_ ≠ gb321))) (fun _ hk => hk.2) (.int .i64 t322)) (fun _ hk => hk.2) (.int .i64 t323)) (fun _ hk => hk.1.1)⟩, ⟨by (with_reducible repeat (first | refine blk_drewN ?_ _ | refine blk_drew ?_ | refine blk_alloc ?_ _)); refine blk_far ?_ NB312_321.out _; (with_reducible repeat (first | refine blk_drewN ?_ _ | refine blk_drew ?_ | refine blk_alloc ?_ _)); refine blk_far ?_ NB312_321.out _; (with_reducible repeat (first | refine blk_drewN ?_ _ | refine blk_drew ?_ | refine blk_alloc ?_ _)); exact BK312.out⟩, ⟨hz HB⟩⟩
       ·rw [if_neg c15] at H
        exact absurd H (by simp)
      ·rw [if_neg c14] at H
       have c14b0 : decide (x5_2 < (x3_3.length : Int)) = false := decide_eq_false c14
       clear c14
       obtain rfl := Option.some.inj H
       obtain ⟨Ao37, co37, eo37⟩ := Kd.R_slice HO_3.out
       subst eo37
       go_wp2
       go_ret
       exact ⟨_, by first | rfl | (simp [errW_none, errW_some] <;> rfl) | (simp [*, errW_none, errW_some] <;> rfl), by (with_reducible repeat (first | apply Kd.R_alloc | apply Kd.R_drewN | apply Kd.R_drew)); exact Kd.R_mono HO_4.out (fun _ hk => trivial), by repeat (first | (with_reducible first | exact HB.out | apply below_alloc | apply pw_below_drewN | apply below_drew1 | refine below_set ?_ GE312.out) | exact HB.out)⟩
 ·rw [if_neg c3] at H
  have c3b0 : (t313 == 0) = false := beq_eq_false_iff_ne.mpr c3
  have c3b1 : (t313 != 0) = true := bne_iff_ne.mpr c3
  obtain rfl := Option.some.inj H
  go_enter Try.func25, Try.ntmps25
  go_wp2_with (first | ((with_reducible refine gate_dst (N := 1) rfl ?_); refine box_event ?hg (N := 1) ?hd (cs := #[.int .i64 a0_0, .int .i64 a0_1, .int .i64 a0_2, .int .i64 a0_3, .int .i64 a0_4]) (t := 29) ?hr ?_; (case hd => rfl); (case hg => rfl); (case hr => first | (go_simp; done) | (go_simp; rfl)); intro gb312 hg w38 hbox hb; have n0_ := Aside0.mk (below_step (hz HB) hb); have n1_ := Aside0.mk (hbox); have n2_ := Aside0.mk ((by rw [hg]; exact (below_size (hz HB)) : w.heap.size ≤ gb312)); have n3_ := Aside0.mk ((by rw [hg]; exact (below_size (hz HB)) : w.heap.size ≤ gb312)); clear HB; have HB := n0_; have BK312 := n1_; have GW312 := n2_; have GE312 := n3_; clear n0_ n1_ n2_ n3_; clear hb hbox hg; have hcz39_0 : w38.cell? ⟨gb312, 0, none⟩ = some (.int .i64 a0_0) := (blk_cell BK312.out 0).trans rfl; have hcz39_1 : w38.cell? ⟨gb312, 1, none⟩ = some (.int .i64 a0_1) := (blk_cell BK312.out 1).trans rfl; have hcz39_2 : w38.cell? ⟨gb312, 2, none⟩ = some (.int .i64 a0_2) := (blk_cell BK312.out 2).trans rfl; have hcz39_3 : w38.cell? ⟨gb312, 3, none⟩ = some (.int .i64 a0_3) := (blk_cell BK312.out 3).trans rfl; have hcz39_4 : w38.cell? ⟨gb312, 4, none⟩ = some (.int .i64 a0_4) := (blk_cell BK312.out 4).trans rfl; have hfz39_0 := blk_frozen BK312.out 0; have hfz39_1 := blk_frozen BK312.out 1; have hfz39_2 := blk_frozen BK312.out 2; have hfz39_3 := blk_frozen BK312.out 3; have hfz39_4 := blk_frozen BK312.out 4) | ((with_reducible refine gate_callee (f := 15) rfl ?_); refine gz 8 Try.func15 #[.agg #[.int .i64 a0_0, .int .i64 a0_1, .int .i64 a0_2, .int .i64 a0_3, .int .i64 a0_4]] ?_; (with_reducible refine (vitrineref08_Right.calls k a0_0 a0_1 a0_2 a0_3 a0_4 t313 _ A2.out).mono ?_); rintro e w40 ⟨rfl, hb⟩; refine ⟨_, rfl, ?_⟩; have n0_ := Aside0.mk (blk_below (g := gb312) (o := .cells #[.int .i64 a0_0, .int .i64 a0_1, .int .i64 a0_2, .int .i64 a0_3, .int .i64 a0_4] 29 (0, 0)) (kz BK312) hb); have n1_ := Aside0.mk (below_step (hz HB) hb); clear BK312; clear HB; have BK312 := n0_; have HB := n1_; clear n0_ n1_; (try clear hb); (try clear hb2); (try clear hk); (try clear hi)))
  go_ret
  exact ⟨_, by first | rfl | (simp [errW_none, errW_some] <;> rfl) | (simp [*, errW_none, errW_some] <;> rfl), by first | exact Kd.R_nil _ _ _ _ _ | exact Kd.N_nil _ _ _ _ _ | exact Kd.V_nil _ _ _ _ _ | exact Kd.Q_nil _ _ _ _ _ | exact Kd.S_nil _ _ _ _ _, by repeat (first | (with_reducible first | exact HB.out | apply below_alloc | apply pw_below_drewN | apply below_drew1 | refine below_set ?_ GE312.out) | exact HB.out)⟩

end Go.Proofs.Ytejljcglbkjgkaa.PL12
