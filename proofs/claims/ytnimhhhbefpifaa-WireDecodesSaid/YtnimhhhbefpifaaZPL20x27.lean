/- Printed for this claim by a program of this session over the kit's print program: the Go functions as Lean functions, and proofs that the calls come to these answers. No conditions. -/
import Derived.Test.YtnimhhhbefpifaaZPL20x0
import Derived.Test.YtnimhhhbefpifaaZPL20x11
import Derived.Test.YtnimhhhbefpifaaZPL20x15
import Derived.Test.YtnimhhhbefpifaaZPL20x16
import Derived.Test.YtnimhhhbefpifaaZPL20x26
namespace Go.Proofs.Ytnimhhhbefpifaa.PL20
open Go.RowKit Go.Proofs.YtnimhhhbefpifaaW.PrintWords Go.Proofs.YtnimhhhbefpifaaW.PrintLast Go.Proofs.YtnimhhhbefpifaaW.PrintMore
attribute [local go_sem] max2_int min2_int max_two min_two max_three min_three max_four min_four   -- for this text's walks alone
set_option linter.unusedVariables false
set_option linter.unusedSimpArgs false

/-! ### vitrineref20_Decode: function 16 -/
mutual
def vitrineref20_Decode.l0 : Nat → Int → ByteArray → Bool → Int → Int → Int → Int → ByteArray → Int → Int → ByteArray → List ByteArray → Option (Int × Int × Int × Int × ByteArray × Int × Int × ByteArray × List ByteArray × Int)
  | 0, _, _, _, _, _, _, _, _, _, _, _, _ => none
  | k + 1, x6, x275000, x275001, x276000, x276001, x276002, x276003, x276004, x276005, x276006, x276007, x276008 => if x6 > 0 then (vitrineref20_Decode.j1 k x6 (!x275001) x275000 x275001 x276000 x276001 x276002 x276003 x276004 x276005 x276006 x276007 x276008) else (vitrineref20_Decode.j1 k x6 false x275000 x275001 x276000 x276001 x276002 x276003 x276004 x276005 x276006 x276007 x276008)
def vitrineref20_Decode.j1 : Nat → Int → Bool → ByteArray → Bool → Int → Int → Int → Int → ByteArray → Int → Int → ByteArray → List ByteArray → Option (Int × Int × Int × Int × ByteArray × Int × Int × ByteArray × List ByteArray × Int)
  | 0, _, _, _, _, _, _, _, _, _, _, _, _, _ => none
  | k + 1, x6, x63, x275000, x275001, x276000, x276001, x276002, x276003, x276004, x276005, x276006, x276007, x276008 => if x63 = true then ((vitrineref20_reader_num.f k x275000 x275001 4).bind fun bt309 => ((vitrineref20_reader_text.f bt309.2.1 bt309.2.2 bt309.1).bind fun bt312 => (if x276008.length < 8796093022208 then (vitrineref20_Decode.l0 k (wrap64 (x6 - 1)) bt312.2.1 bt312.2.2 x276000 x276001 x276002 x276003 x276004 x276005 x276006 x276007 (x276008 ++ [bt312.1])) else (none)))) else (if x275001 = true then (some (0, 0, 0, 0, (⟨#[]⟩ : ByteArray), 0, 0, (⟨#[]⟩ : ByteArray), ([] : List ByteArray), 3)) else (if x275000.toList = ([] : List UInt8) then ((vitrineref20_Right.f k x276000 x276001 x276002 x276003 x276004 x276005 x276006 x276007 x276008).bind fun t318 => (if t318 = true then (some (x276000, x276001, x276002, x276003, x276004, x276005, x276006, x276007, x276008, 0)) else (some (0, 0, 0, 0, (⟨#[]⟩ : ByteArray), 0, 0, (⟨#[]⟩ : ByteArray), ([] : List ByteArray), 60)))) else (some (0, 0, 0, 0, (⟨#[]⟩ : ByteArray), 0, 0, (⟨#[]⟩ : ByteArray), ([] : List ByteArray), 4))))
end
def vitrineref20_Decode.f (k : Nat) (a0 : ByteArray) : Option (Int × Int × Int × Int × ByteArray × Int × Int × ByteArray × List ByteArray × Int) := if (a0.size : Int) < 4 then (some (0, 0, 0, 0, (⟨#[]⟩ : ByteArray), 0, 0, (⟨#[]⟩ : ByteArray), ([] : List ByteArray), 3)) else (if 0 ≤ 4 then (if 4 ≤ (a0.size : Int) then ((vitrineref06_Of.f k (a0.extract 0 4)).bind fun t272 => ((vitrineref01_Crc.f k (a0.extract 4 a0.size)).bind fun t273 => (if t272 = t273 then ((vitrineref20_reader_num.f k (a0.extract 4 a0.size) false 1).bind fun bt276 => ((vitrineref20_reader_num.f k bt276.2.1 bt276.2.2 2).bind fun bt279 => ((vitrineref20_reader_num.f k bt279.2.1 bt279.2.2 2).bind fun bt282 => ((vitrineref20_reader_num.f k bt282.2.1 bt282.2.2 8).bind fun bt285 => ((vitrineref20_reader_num.f k bt285.2.1 bt285.2.2 1).bind fun bt288 => ((vitrineref20_reader_text.f bt288.2.1 bt288.2.2 bt288.1).bind fun bt291 => ((vitrineref20_reader_num.f k bt291.2.1 bt291.2.2 8).bind fun bt294 => ((vitrineref20_reader_num.f k bt294.2.1 bt294.2.2 2).bind fun bt297 => ((vitrineref20_reader_num.f k bt297.2.1 bt297.2.2 4).bind fun bt300 => ((vitrineref20_reader_text.f bt300.2.1 bt300.2.2 bt300.1).bind fun bt303 => ((vitrineref20_reader_num.f k bt303.2.1 bt303.2.2 2).bind fun bt306 => (vitrineref20_Decode.l0 k bt306.1 bt306.2.1 bt306.2.2 bt276.1 bt279.1 bt282.1 bt285.1 bt291.1 bt294.1 bt297.1 bt303.1 ([] : List ByteArray))))))))))))) else (some (0, 0, 0, 0, (⟨#[]⟩ : ByteArray), 0, 0, (⟨#[]⟩ : ByteArray), ([] : List ByteArray), 17))))) else (none)) else (none))
theorem vitrineref20_Decode.mono_l : ∀ k, (∀ y0 y1 y2 y3 y4 y5 y6 y7 y8 y9 y10 y11, LeO (vitrineref20_Decode.l0 k y0 y1 y2 y3 y4 y5 y6 y7 y8 y9 y10 y11) (vitrineref20_Decode.l0 (k + 1) y0 y1 y2 y3 y4 y5 y6 y7 y8 y9 y10 y11)) ∧ (∀ y0 y1 y2 y3 y4 y5 y6 y7 y8 y9 y10 y11 y12, LeO (vitrineref20_Decode.j1 k y0 y1 y2 y3 y4 y5 y6 y7 y8 y9 y10 y11 y12) (vitrineref20_Decode.j1 (k + 1) y0 y1 y2 y3 y4 y5 y6 y7 y8 y9 y10 y11 y12))
  | 0 => ⟨fun _ _ _ _ _ _ _ _ _ _ _ _ r h => by simp [vitrineref20_Decode.l0] at h, fun _ _ _ _ _ _ _ _ _ _ _ _ _ r h => by simp [vitrineref20_Decode.j1] at h⟩
  | k + 1 => by
    obtain ⟨ih0, ih1⟩ := vitrineref20_Decode.mono_l k
    refine ⟨?_, ?_⟩
    · intro y0 y1 y2 y3 y4 y5 y6 y7 y8 y9 y10 y11
      unfold vitrineref20_Decode.l0
      repeat' first
      | (with_reducible exact ih0 _ _ _ _ _ _ _ _ _ _ _ _)
      | (with_reducible exact ih1 _ _ _ _ _ _ _ _ _ _ _ _ _)
      | (with_reducible exact vitrineref01_Crc.mono _ _)
      | (with_reducible exact vitrineref06_Of.mono _ _)
      | (with_reducible exact vitrineref20_Right.mono _ _ _ _ _ _ _ _ _ _)
      | (with_reducible exact vitrineref20_reader_num.mono _ _ _ _)
      | (with_reducible exact LeO.refl _)
      | (with_reducible exact LeO.none _)
      | (with_reducible refine LeO.ite ?_ ?_)
      | (with_reducible refine LeO.bind ?_ (fun _ => ?_))
      | exact ih0 _ _ _ _ _ _ _ _ _ _ _ _
      | exact ih1 _ _ _ _ _ _ _ _ _ _ _ _ _
      | exact vitrineref01_Crc.mono _ _
      | exact vitrineref06_Of.mono _ _
      | exact vitrineref20_Right.mono _ _ _ _ _ _ _ _ _ _
      | exact vitrineref20_reader_num.mono _ _ _ _
      | exact LeO.none _
      | refine LeO.ite ?_ ?_
      | refine LeO.bind ?_ (fun _ => ?_)
    · intro y0 y1 y2 y3 y4 y5 y6 y7 y8 y9 y10 y11 y12
      unfold vitrineref20_Decode.j1
      repeat' first
      | (with_reducible exact ih0 _ _ _ _ _ _ _ _ _ _ _ _)
      | (with_reducible exact ih1 _ _ _ _ _ _ _ _ _ _ _ _ _)
      | (with_reducible exact vitrineref01_Crc.mono _ _)
      | (with_reducible exact vitrineref06_Of.mono _ _)
      | (with_reducible exact vitrineref20_Right.mono _ _ _ _ _ _ _ _ _ _)
      | (with_reducible exact vitrineref20_reader_num.mono _ _ _ _)
      | (with_reducible exact LeO.refl _)
      | (with_reducible exact LeO.none _)
      | (with_reducible refine LeO.ite ?_ ?_)
      | (with_reducible refine LeO.bind ?_ (fun _ => ?_))
      | exact ih0 _ _ _ _ _ _ _ _ _ _ _ _
      | exact ih1 _ _ _ _ _ _ _ _ _ _ _ _ _
      | exact vitrineref01_Crc.mono _ _
      | exact vitrineref06_Of.mono _ _
      | exact vitrineref20_Right.mono _ _ _ _ _ _ _ _ _ _
      | exact vitrineref20_reader_num.mono _ _ _ _
      | exact LeO.none _
      | refine LeO.ite ?_ ?_
      | refine LeO.bind ?_ (fun _ => ?_)
theorem vitrineref20_Decode.mono : ∀ a0 k, LeO (vitrineref20_Decode.f k a0) (vitrineref20_Decode.f (k + 1) a0) := by
  intro a0 k
  obtain ⟨ih0, ih1⟩ := vitrineref20_Decode.mono_l k
  unfold vitrineref20_Decode.f
  repeat' first
      | (with_reducible exact ih0 _ _ _ _ _ _ _ _ _ _ _ _)
      | (with_reducible exact ih1 _ _ _ _ _ _ _ _ _ _ _ _ _)
      | (with_reducible exact vitrineref01_Crc.mono _ _)
      | (with_reducible exact vitrineref06_Of.mono _ _)
      | (with_reducible exact vitrineref20_Right.mono _ _ _ _ _ _ _ _ _ _)
      | (with_reducible exact vitrineref20_reader_num.mono _ _ _ _)
      | (with_reducible exact LeO.refl _)
      | (with_reducible exact LeO.none _)
      | (with_reducible refine LeO.ite ?_ ?_)
      | (with_reducible refine LeO.bind ?_ (fun _ => ?_))
      | exact ih0 _ _ _ _ _ _ _ _ _ _ _ _
      | exact ih1 _ _ _ _ _ _ _ _ _ _ _ _ _
      | exact vitrineref01_Crc.mono _ _
      | exact vitrineref06_Of.mono _ _
      | exact vitrineref20_Right.mono _ _ _ _ _ _ _ _ _ _
      | exact vitrineref20_reader_num.mono _ _ _ _
      | exact LeO.none _
      | refine LeO.ite ?_ ?_
      | refine LeO.bind ?_ (fun _ => ?_)
def vitrineref20_Decode.T18 : Bool × List (List Nat × List Nat) := (true, [([], []), ([0], [0]), ([], []), ([], []), ([3], [3]), ([2, 4, 4], [2, 4]), ([5], [5]), ([1, 6, 5], [1, 6]), ([0, 1, 2, 3, 4, 5, 6, 7], []), ([8, 7, 7, 0, 1, 2, 3, 4, 5, 6, 7], [7, 8])])
def vitrineref20_Decode.B18 : List Nat := [0, 1, 0, 0, 8, 28, 60, 127, 255, 511]
theorem vitrineref20_Decode.tab18 : rtab .any (opsOf Try.f16 18) = vitrineref20_Decode.T18 := by kernel_rfl
theorem vitrineref20_Decode.bits18 : waitsOk vitrineref20_Decode.T18.2 vitrineref20_Decode.B18 = true := by kernel_rfl
set_option maxHeartbeats 40000000 in
set_option maxRecDepth 100000 in
theorem vitrineref20_Decode.calls (k : Nat) (a0 : ByteArray) (r1 : Int) (r2 : Int) (r3 : Int) (r4 : Int) (r5 : ByteArray) (r6 : Int) (r7 : Int) (r8 : ByteArray) (r9 : List ByteArray) (r10 : Int) (w : World) (h : vitrineref20_Decode.f k a0 = some (r1, r2, r3, r4, r5, r6, r7, r8, r9, r10)) :
    Calls Try.prog 16 #[.string a0] w fun e w' => ∃ v8_ : Value, e = .returned (.tuple #[.agg #[.int .i64 r1, .int .i64 r2, .int .i64 r3, .int .i64 r4, .string r5, .int .i64 r6, .int .i64 r7, .string r8, v8_], .int .i64 r10]) ∧ Kd.R Kd.string 9 w' w.heap.size (fun _ => True) v8_ r9 ∧ Below w.heap.size w w' := by
  have hu26 := Try.underlying26
  have hu59 := Try.underlying59
  have HB := Aside0.mk (Below.refl w.heap.size w)
  have H : (if (a0.size : Int) < 4 then (some (0, 0, 0, 0, (⟨#[]⟩ : ByteArray), 0, 0, (⟨#[]⟩ : ByteArray), ([] : List ByteArray), 3)) else (if 0 ≤ 4 then (if 4 ≤ (a0.size : Int) then ((vitrineref06_Of.f k (a0.extract 0 4)).bind fun t272 => ((vitrineref01_Crc.f k (a0.extract 4 a0.size)).bind fun t273 => (if t272 = t273 then ((vitrineref20_reader_num.f k (a0.extract 4 a0.size) false 1).bind fun bt276 => ((vitrineref20_reader_num.f k bt276.2.1 bt276.2.2 2).bind fun bt279 => ((vitrineref20_reader_num.f k bt279.2.1 bt279.2.2 2).bind fun bt282 => ((vitrineref20_reader_num.f k bt282.2.1 bt282.2.2 8).bind fun bt285 => ((vitrineref20_reader_num.f k bt285.2.1 bt285.2.2 1).bind fun bt288 => ((vitrineref20_reader_text.f bt288.2.1 bt288.2.2 bt288.1).bind fun bt291 => ((vitrineref20_reader_num.f k bt291.2.1 bt291.2.2 8).bind fun bt294 => ((vitrineref20_reader_num.f k bt294.2.1 bt294.2.2 2).bind fun bt297 => ((vitrineref20_reader_num.f k bt297.2.1 bt297.2.2 4).bind fun bt300 => ((vitrineref20_reader_text.f bt300.2.1 bt300.2.2 bt300.1).bind fun bt303 => ((vitrineref20_reader_num.f k bt303.2.1 bt303.2.2 2).bind fun bt306 => (vitrineref20_Decode.l0 k bt306.1 bt306.2.1 bt306.2.2 bt276.1 bt279.1 bt282.1 bt285.1 bt291.1 bt294.1 bt297.1 bt303.1 ([] : List ByteArray))))))))))))) else (some (0, 0, 0, 0, (⟨#[]⟩ : ByteArray), 0, 0, (⟨#[]⟩ : ByteArray), ([] : List ByteArray), 17))))) else (none)) else (none))) = some (r1, r2, r3, r4, r5, r6, r7, r8, r9, r10) := h
  clear h
  by_cases c2 : (a0.size : Int) < 4
  · rw [if_pos c2] at H
    have c2b0 : decide ((a0.size : Int) < 4) = true := decide_eq_true c2
    have c2b1 : decide (a0.size < 4) = true := decide_eq_true (by omega)
    clear c2
    simp only [Option.some.injEq, Prod.mk.injEq] at H
    obtain ⟨rfl, rfl, rfl, rfl, rfl, rfl, rfl, rfl, rfl, rfl⟩ := H
    go_enter Try.func16, Try.ntmps16
    go_wp2_with (first | ((with_reducible refine gate_dst (N := 2) rfl ?_); refine box_event ?hg (N := 2) ?hd (cs := #[.int .i64 0, .int .i64 0, .int .i64 0, .int .i64 0, .string (⟨#[]⟩ : ByteArray), .int .i64 0, .int .i64 0, .string (⟨#[]⟩ : ByteArray), .slice none 0 0]) (t := 26) ?hr ?_; (case hd => rfl); (case hg => rfl); (case hr => first | (go_simp; done) | (go_simp; rfl)); intro gb271 hg w3 hbox hb; have n0_ := Aside0.mk (below_step (by repeat (first | (with_reducible first | exact HB.out | apply below_alloc | apply pw_below_drewN | apply below_drew1) | exact HB.out)) hb); have n1_ := Aside0.mk (hbox); have n2_ := Aside0.mk ((by rw [hg]; exact (below_size (by repeat (first | (with_reducible first | exact HB.out | apply below_alloc | apply pw_below_drewN | apply below_drew1) | exact HB.out))) : w.heap.size ≤ gb271)); have n3_ := Aside0.mk ((by rw [hg]; exact (below_size (by repeat (first | (with_reducible first | exact HB.out | apply below_alloc | apply pw_below_drewN | apply below_drew1) | exact HB.out))) : w.heap.size ≤ gb271)); clear HB; have HB := n0_; have BK271 := n1_; have GW271 := n2_; have GE271 := n3_; clear n0_ n1_ n2_ n3_; clear hb hbox hg; have hcz4_0 : w3.cell? ⟨gb271, 0, none⟩ = some (.int .i64 0) := (blk_cell BK271.out 0).trans rfl; have hcz4_1 : w3.cell? ⟨gb271, 1, none⟩ = some (.int .i64 0) := (blk_cell BK271.out 1).trans rfl; have hcz4_2 : w3.cell? ⟨gb271, 2, none⟩ = some (.int .i64 0) := (blk_cell BK271.out 2).trans rfl; have hcz4_3 : w3.cell? ⟨gb271, 3, none⟩ = some (.int .i64 0) := (blk_cell BK271.out 3).trans rfl; have hcz4_4 : w3.cell? ⟨gb271, 4, none⟩ = some (.string (⟨#[]⟩ : ByteArray)) := (blk_cell BK271.out 4).trans rfl; have hcz4_5 : w3.cell? ⟨gb271, 5, none⟩ = some (.int .i64 0) := (blk_cell BK271.out 5).trans rfl; have hcz4_6 : w3.cell? ⟨gb271, 6, none⟩ = some (.int .i64 0) := (blk_cell BK271.out 6).trans rfl; have hcz4_7 : w3.cell? ⟨gb271, 7, none⟩ = some (.string (⟨#[]⟩ : ByteArray)) := (blk_cell BK271.out 7).trans rfl; have hcz4_8 : w3.cell? ⟨gb271, 8, none⟩ = some (.slice none 0 0) := (blk_cell BK271.out 8).trans rfl; have hfz4_0 := blk_frozen BK271.out 0; have hfz4_1 := blk_frozen BK271.out 1; have hfz4_2 := blk_frozen BK271.out 2; have hfz4_3 := blk_frozen BK271.out 3; have hfz4_4 := blk_frozen BK271.out 4; have hfz4_5 := blk_frozen BK271.out 5; have hfz4_6 := blk_frozen BK271.out 6; have hfz4_7 := blk_frozen BK271.out 7; have hfz4_8 := blk_frozen BK271.out 8))
    refine bodyPost_ret (results_ct rfl _ _ gb271 26 #[.int .i64 0, .int .i64 0, .int .i64 0, .int .i64 0, .string (⟨#[]⟩ : ByteArray), .int .i64 0, .int .i64 0, .string (⟨#[]⟩ : ByteArray), .slice none 0 0] (0, 0) _ rfl (by (with_reducible repeat (first | refine blk_drewN ?_ _ | refine blk_drew ?_ | refine blk_alloc ?_ _)); refine blk_put (cs := #[.int .i64 0, .int .i64 0, .int .i64 0, .int .i64 0, .string (⟨#[]⟩ : ByteArray), .int .i64 0, .int .i64 0, .string (⟨#[]⟩ : ByteArray), .slice none 0 0]) ?_ 8 _ rfl; (with_reducible repeat (first | refine blk_drewN ?_ _ | refine blk_drew ?_ | refine blk_alloc ?_ _)); refine blk_put (cs := #[.int .i64 0, .int .i64 0, .int .i64 0, .int .i64 0, .string (⟨#[]⟩ : ByteArray), .int .i64 0, .int .i64 0, .string (⟨#[]⟩ : ByteArray), .slice none 0 0]) ?_ 7 _ rfl; (with_reducible repeat (first | refine blk_drewN ?_ _ | refine blk_drew ?_ | refine blk_alloc ?_ _)); refine blk_put (cs := #[.int .i64 0, .int .i64 0, .int .i64 0, .int .i64 0, .string (⟨#[]⟩ : ByteArray), .int .i64 0, .int .i64 0, .string (⟨#[]⟩ : ByteArray), .slice none 0 0]) ?_ 6 _ rfl; (with_reducible repeat (first | refine blk_drewN ?_ _ | refine blk_drew ?_ | refine blk_alloc ?_ _)); refine blk_put (cs := #[.int .i64 0, .int .i64 0, .int .i64 0, .int .i64 0, .string (⟨#[]⟩ : ByteArray), .int .i64 0, .int .i64 0, .string (⟨#[]⟩ : ByteArray), .slice none 0 0]) ?_ 5 _ rfl; (with_reducible repeat (first | refine blk_drewN ?_ _ | refine blk_drew ?_ | refine blk_alloc ?_ _)); refine blk_put (cs := #[.int .i64 0, .int .i64 0, .int .i64 0, .int .i64 0, .string (⟨#[]⟩ : ByteArray), .int .i64 0, .int .i64 0, .string (⟨#[]⟩ : ByteArray), .slice none 0 0]) ?_ 4 _ rfl; (with_reducible repeat (first | refine blk_drewN ?_ _ | refine blk_drew ?_ | refine blk_alloc ?_ _)); refine blk_put (cs := #[.int .i64 0, .int .i64 0, .int .i64 0, .int .i64 0, .string (⟨#[]⟩ : ByteArray), .int .i64 0, .int .i64 0, .string (⟨#[]⟩ : ByteArray), .slice none 0 0]) ?_ 3 _ rfl; (with_reducible repeat (first | refine blk_drewN ?_ _ | refine blk_drew ?_ | refine blk_alloc ?_ _)); refine blk_put (cs := #[.int .i64 0, .int .i64 0, .int .i64 0, .int .i64 0, .string (⟨#[]⟩ : ByteArray), .int .i64 0, .int .i64 0, .string (⟨#[]⟩ : ByteArray), .slice none 0 0]) ?_ 2 _ rfl; (with_reducible repeat (first | refine blk_drewN ?_ _ | refine blk_drew ?_ | refine blk_alloc ?_ _)); refine blk_put (cs := #[.int .i64 0, .int .i64 0, .int .i64 0, .int .i64 0, .string (⟨#[]⟩ : ByteArray), .int .i64 0, .int .i64 0, .string (⟨#[]⟩ : ByteArray), .slice none 0 0]) ?_ 1 _ rfl; (with_reducible repeat (first | refine blk_drewN ?_ _ | refine blk_drew ?_ | refine blk_alloc ?_ _)); refine blk_put (cs := #[.int .i64 0, .int .i64 0, .int .i64 0, .int .i64 0, .string (⟨#[]⟩ : ByteArray), .int .i64 0, .int .i64 0, .string (⟨#[]⟩ : ByteArray), .slice none 0 0]) ?_ 0 _ rfl; (with_reducible repeat (first | refine blk_drewN ?_ _ | refine blk_drew ?_ | refine blk_alloc ?_ _)); exact BK271.out) Try.underlying26 rfl (by kernel_rfl)) rfl ?_
    exact ⟨_, by first | rfl | (simp [errW_none, errW_some] <;> rfl) | (simp [*, errW_none, errW_some] <;> rfl), by first | exact Kd.R_nil _ _ _ _ _ | exact Kd.N_nil _ _ _ _ _ | exact Kd.V_nil _ _ _ _ _ | exact Kd.Q_nil _ _ _ _ _ | exact Kd.S_nil _ _ _ _ _, by repeat (first | (with_reducible first | exact HB.out | apply below_alloc | apply pw_below_drewN | apply below_drew1 | refine below_set ?_ GE271.out) | exact HB.out)⟩
  · rw [if_neg c2] at H
    have c2b0 : decide ((a0.size : Int) < 4) = false := decide_eq_false c2
    have c2b1 : decide (a0.size < 4) = false := decide_eq_false (by omega)
    clear c2
    by_cases c5 : 0 ≤ 4
    · rw [if_pos c5] at H
      have c5b0 := eq_true c5
      have c5b1 : decide (0 ≤ 4) = true := decide_eq_true c5
      clear c5
      by_cases c6 : 4 ≤ (a0.size : Int)
      · rw [if_pos c6] at H
        have c6b0 := eq_true c6
        have c6b1 : decide (4 ≤ (a0.size : Int)) = true := decide_eq_true c6
        clear c6
        replace H := Option.bind_eq_some_iff.mp H
        obtain ⟨t272, A70, H⟩ := H
        replace H : ((vitrineref01_Crc.f k (a0.extract 4 a0.size)).bind fun t273 => (if t272 = t273 then ((vitrineref20_reader_num.f k (a0.extract 4 a0.size) false 1).bind fun bt276 => ((vitrineref20_reader_num.f k bt276.2.1 bt276.2.2 2).bind fun bt279 => ((vitrineref20_reader_num.f k bt279.2.1 bt279.2.2 2).bind fun bt282 => ((vitrineref20_reader_num.f k bt282.2.1 bt282.2.2 8).bind fun bt285 => ((vitrineref20_reader_num.f k bt285.2.1 bt285.2.2 1).bind fun bt288 => ((vitrineref20_reader_text.f bt288.2.1 bt288.2.2 bt288.1).bind fun bt291 => ((vitrineref20_reader_num.f k bt291.2.1 bt291.2.2 8).bind fun bt294 => ((vitrineref20_reader_num.f k bt294.2.1 bt294.2.2 2).bind fun bt297 => ((vitrineref20_reader_num.f k bt297.2.1 bt297.2.2 4).bind fun bt300 => ((vitrineref20_reader_text.f bt300.2.1 bt300.2.2 bt300.1).bind fun bt303 => ((vitrineref20_reader_num.f k bt303.2.1 bt303.2.2 2).bind fun bt306 => (vitrineref20_Decode.l0 k bt306.1 bt306.2.1 bt306.2.2 bt276.1 bt279.1 bt282.1 bt285.1 bt291.1 bt294.1 bt297.1 bt303.1 ([] : List ByteArray))))))))))))) else (some (0, 0, 0, 0, (⟨#[]⟩ : ByteArray), 0, 0, (⟨#[]⟩ : ByteArray), ([] : List ByteArray), 17)))) = some (r1, r2, r3, r4, r5, r6, r7, r8, r9, r10) := H
        have A7 := Aside0.mk A70
        clear A70
        have c8b0 := eq_true (of_decide_eq_true (by first | (with_reducible assumption) | assumption) : 4 ≤ (a0.size : Int))
        replace H := Option.bind_eq_some_iff.mp H
        obtain ⟨t273, A90, H⟩ := H
        replace H : (if t272 = t273 then ((vitrineref20_reader_num.f k (a0.extract 4 a0.size) false 1).bind fun bt276 => ((vitrineref20_reader_num.f k bt276.2.1 bt276.2.2 2).bind fun bt279 => ((vitrineref20_reader_num.f k bt279.2.1 bt279.2.2 2).bind fun bt282 => ((vitrineref20_reader_num.f k bt282.2.1 bt282.2.2 8).bind fun bt285 => ((vitrineref20_reader_num.f k bt285.2.1 bt285.2.2 1).bind fun bt288 => ((vitrineref20_reader_text.f bt288.2.1 bt288.2.2 bt288.1).bind fun bt291 => ((vitrineref20_reader_num.f k bt291.2.1 bt291.2.2 8).bind fun bt294 => ((vitrineref20_reader_num.f k bt294.2.1 bt294.2.2 2).bind fun bt297 => ((vitrineref20_reader_num.f k bt297.2.1 bt297.2.2 4).bind fun bt300 => ((vitrineref20_reader_text.f bt300.2.1 bt300.2.2 bt300.1).bind fun bt303 => ((vitrineref20_reader_num.f k bt303.2.1 bt303.2.2 2).bind fun bt306 => (vitrineref20_Decode.l0 k bt306.1 bt306.2.1 bt306.2.2 bt276.1 bt279.1 bt282.1 bt285.1 bt291.1 bt294.1 bt297.1 bt303.1 ([] : List ByteArray))))))))))))) else (some (0, 0, 0, 0, (⟨#[]⟩ : ByteArray), 0, 0, (⟨#[]⟩ : ByteArray), ([] : List ByteArray), 17))) = some (r1, r2, r3, r4, r5, r6, r7, r8, r9, r10) := H
        have A9 := Aside0.mk A90
        clear A90
        by_cases c10 : t272 = t273
        · rw [if_pos c10] at H
          have c10b0 : (t272 == t273) = true := beq_iff_eq.mpr c10
          have c10b1 : (t272 != t273) = false := bne_eq_false_iff_eq.mpr c10
          clear c10
          have c11b0 := eq_true (of_decide_eq_true (by first | (with_reducible assumption) | assumption) : 4 ≤ (a0.size : Int))
          replace H := Option.bind_eq_some_iff.mp H
          obtain ⟨⟨t276, t277, t278⟩, A120, H⟩ := H
          replace H : ((vitrineref20_reader_num.f k t277 t278 2).bind fun bt279 => ((vitrineref20_reader_num.f k bt279.2.1 bt279.2.2 2).bind fun bt282 => ((vitrineref20_reader_num.f k bt282.2.1 bt282.2.2 8).bind fun bt285 => ((vitrineref20_reader_num.f k bt285.2.1 bt285.2.2 1).bind fun bt288 => ((vitrineref20_reader_text.f bt288.2.1 bt288.2.2 bt288.1).bind fun bt291 => ((vitrineref20_reader_num.f k bt291.2.1 bt291.2.2 8).bind fun bt294 => ((vitrineref20_reader_num.f k bt294.2.1 bt294.2.2 2).bind fun bt297 => ((vitrineref20_reader_num.f k bt297.2.1 bt297.2.2 4).bind fun bt300 => ((vitrineref20_reader_text.f bt300.2.1 bt300.2.2 bt300.1).bind fun bt303 => ((vitrineref20_reader_num.f k bt303.2.1 bt303.2.2 2).bind fun bt306 => (vitrineref20_Decode.l0 k bt306.1 bt306.2.1 bt306.2.2 t276 bt279.1 bt282.1 bt285.1 bt291.1 bt294.1 bt297.1 bt303.1 ([] : List ByteArray)))))))))))) = some (r1, r2, r3, r4, r5, r6, r7, r8, r9, r10) := H
          have A12 := Aside0.mk A120
          clear A120
          replace H := Option.bind_eq_some_iff.mp H
          obtain ⟨⟨t279, t280, t281⟩, A130, H⟩ := H
          replace H : ((vitrineref20_reader_num.f k t280 t281 2).bind fun bt282 => ((vitrineref20_reader_num.f k bt282.2.1 bt282.2.2 8).bind fun bt285 => ((vitrineref20_reader_num.f k bt285.2.1 bt285.2.2 1).bind fun bt288 => ((vitrineref20_reader_text.f bt288.2.1 bt288.2.2 bt288.1).bind fun bt291 => ((vitrineref20_reader_num.f k bt291.2.1 bt291.2.2 8).bind fun bt294 => ((vitrineref20_reader_num.f k bt294.2.1 bt294.2.2 2).bind fun bt297 => ((vitrineref20_reader_num.f k bt297.2.1 bt297.2.2 4).bind fun bt300 => ((vitrineref20_reader_text.f bt300.2.1 bt300.2.2 bt300.1).bind fun bt303 => ((vitrineref20_reader_num.f k bt303.2.1 bt303.2.2 2).bind fun bt306 => (vitrineref20_Decode.l0 k bt306.1 bt306.2.1 bt306.2.2 t276 t279 bt282.1 bt285.1 bt291.1 bt294.1 bt297.1 bt303.1 ([] : List ByteArray))))))))))) = some (r1, r2, r3, r4, r5, r6, r7, r8, r9, r10) := H
          have A13 := Aside0.mk A130
          clear A130
          replace H := Option.bind_eq_some_iff.mp H
          obtain ⟨⟨t282, t283, t284⟩, A140, H⟩ := H
          replace H : ((vitrineref20_reader_num.f k t283 t284 8).bind fun bt285 => ((vitrineref20_reader_num.f k bt285.2.1 bt285.2.2 1).bind fun bt288 => ((vitrineref20_reader_text.f bt288.2.1 bt288.2.2 bt288.1).bind fun bt291 => ((vitrineref20_reader_num.f k bt291.2.1 bt291.2.2 8).bind fun bt294 => ((vitrineref20_reader_num.f k bt294.2.1 bt294.2.2 2).bind fun bt297 => ((vitrineref20_reader_num.f k bt297.2.1 bt297.2.2 4).bind fun bt300 => ((vitrineref20_reader_text.f bt300.2.1 bt300.2.2 bt300.1).bind fun bt303 => ((vitrineref20_reader_num.f k bt303.2.1 bt303.2.2 2).bind fun bt306 => (vitrineref20_Decode.l0 k bt306.1 bt306.2.1 bt306.2.2 t276 t279 t282 bt285.1 bt291.1 bt294.1 bt297.1 bt303.1 ([] : List ByteArray)))))))))) = some (r1, r2, r3, r4, r5, r6, r7, r8, r9, r10) := H
          have A14 := Aside0.mk A140
          clear A140
          replace H := Option.bind_eq_some_iff.mp H
          obtain ⟨⟨t285, t286, t287⟩, A150, H⟩ := H
          replace H : ((vitrineref20_reader_num.f k t286 t287 1).bind fun bt288 => ((vitrineref20_reader_text.f bt288.2.1 bt288.2.2 bt288.1).bind fun bt291 => ((vitrineref20_reader_num.f k bt291.2.1 bt291.2.2 8).bind fun bt294 => ((vitrineref20_reader_num.f k bt294.2.1 bt294.2.2 2).bind fun bt297 => ((vitrineref20_reader_num.f k bt297.2.1 bt297.2.2 4).bind fun bt300 => ((vitrineref20_reader_text.f bt300.2.1 bt300.2.2 bt300.1).bind fun bt303 => ((vitrineref20_reader_num.f k bt303.2.1 bt303.2.2 2).bind fun bt306 => (vitrineref20_Decode.l0 k bt306.1 bt306.2.1 bt306.2.2 t276 t279 t282 t285 bt291.1 bt294.1 bt297.1 bt303.1 ([] : List ByteArray))))))))) = some (r1, r2, r3, r4, r5, r6, r7, r8, r9, r10) := H
          have A15 := Aside0.mk A150
          clear A150
          replace H := Option.bind_eq_some_iff.mp H
          obtain ⟨⟨t288, t289, t290⟩, A160, H⟩ := H
          replace H : ((vitrineref20_reader_text.f t289 t290 t288).bind fun bt291 => ((vitrineref20_reader_num.f k bt291.2.1 bt291.2.2 8).bind fun bt294 => ((vitrineref20_reader_num.f k bt294.2.1 bt294.2.2 2).bind fun bt297 => ((vitrineref20_reader_num.f k bt297.2.1 bt297.2.2 4).bind fun bt300 => ((vitrineref20_reader_text.f bt300.2.1 bt300.2.2 bt300.1).bind fun bt303 => ((vitrineref20_reader_num.f k bt303.2.1 bt303.2.2 2).bind fun bt306 => (vitrineref20_Decode.l0 k bt306.1 bt306.2.1 bt306.2.2 t276 t279 t282 t285 bt291.1 bt294.1 bt297.1 bt303.1 ([] : List ByteArray)))))))) = some (r1, r2, r3, r4, r5, r6, r7, r8, r9, r10) := H
          have A16 := Aside0.mk A160
          clear A160
          replace H := Option.bind_eq_some_iff.mp H
          obtain ⟨⟨t291, t292, t293⟩, A170, H⟩ := H
          replace H : ((vitrineref20_reader_num.f k t292 t293 8).bind fun bt294 => ((vitrineref20_reader_num.f k bt294.2.1 bt294.2.2 2).bind fun bt297 => ((vitrineref20_reader_num.f k bt297.2.1 bt297.2.2 4).bind fun bt300 => ((vitrineref20_reader_text.f bt300.2.1 bt300.2.2 bt300.1).bind fun bt303 => ((vitrineref20_reader_num.f k bt303.2.1 bt303.2.2 2).bind fun bt306 => (vitrineref20_Decode.l0 k bt306.1 bt306.2.1 bt306.2.2 t276 t279 t282 t285 t291 bt294.1 bt297.1 bt303.1 ([] : List ByteArray))))))) = some (r1, r2, r3, r4, r5, r6, r7, r8, r9, r10) := H
          have A17 := Aside0.mk A170
          clear A170
          replace H := Option.bind_eq_some_iff.mp H
          obtain ⟨⟨t294, t295, t296⟩, A180, H⟩ := H
          replace H : ((vitrineref20_reader_num.f k t295 t296 2).bind fun bt297 => ((vitrineref20_reader_num.f k bt297.2.1 bt297.2.2 4).bind fun bt300 => ((vitrineref20_reader_text.f bt300.2.1 bt300.2.2 bt300.1).bind fun bt303 => ((vitrineref20_reader_num.f k bt303.2.1 bt303.2.2 2).bind fun bt306 => (vitrineref20_Decode.l0 k bt306.1 bt306.2.1 bt306.2.2 t276 t279 t282 t285 t291 t294 bt297.1 bt303.1 ([] : List ByteArray)))))) = some (r1, r2, r3, r4, r5, r6, r7, r8, r9, r10) := H
          have A18 := Aside0.mk A180
          clear A180
          replace H := Option.bind_eq_some_iff.mp H
          obtain ⟨⟨t297, t298, t299⟩, A190, H⟩ := H
          replace H : ((vitrineref20_reader_num.f k t298 t299 4).bind fun bt300 => ((vitrineref20_reader_text.f bt300.2.1 bt300.2.2 bt300.1).bind fun bt303 => ((vitrineref20_reader_num.f k bt303.2.1 bt303.2.2 2).bind fun bt306 => (vitrineref20_Decode.l0 k bt306.1 bt306.2.1 bt306.2.2 t276 t279 t282 t285 t291 t294 t297 bt303.1 ([] : List ByteArray))))) = some (r1, r2, r3, r4, r5, r6, r7, r8, r9, r10) := H
          have A19 := Aside0.mk A190
          clear A190
          replace H := Option.bind_eq_some_iff.mp H
          obtain ⟨⟨t300, t301, t302⟩, A200, H⟩ := H
          replace H : ((vitrineref20_reader_text.f t301 t302 t300).bind fun bt303 => ((vitrineref20_reader_num.f k bt303.2.1 bt303.2.2 2).bind fun bt306 => (vitrineref20_Decode.l0 k bt306.1 bt306.2.1 bt306.2.2 t276 t279 t282 t285 t291 t294 t297 bt303.1 ([] : List ByteArray)))) = some (r1, r2, r3, r4, r5, r6, r7, r8, r9, r10) := H
          have A20 := Aside0.mk A200
          clear A200
          replace H := Option.bind_eq_some_iff.mp H
          obtain ⟨⟨t303, t304, t305⟩, A210, H⟩ := H
          replace H : ((vitrineref20_reader_num.f k t304 t305 2).bind fun bt306 => (vitrineref20_Decode.l0 k bt306.1 bt306.2.1 bt306.2.2 t276 t279 t282 t285 t291 t294 t297 t303 ([] : List ByteArray))) = some (r1, r2, r3, r4, r5, r6, r7, r8, r9, r10) := H
          have A21 := Aside0.mk A210
          clear A210
          replace H := Option.bind_eq_some_iff.mp H
          obtain ⟨⟨t306, t307, t308⟩, A220, H⟩ := H
          replace H : (vitrineref20_Decode.l0 k t306 t307 t308 t276 t279 t282 t285 t291 t294 t297 t303 ([] : List ByteArray)) = some (r1, r2, r3, r4, r5, r6, r7, r8, r9, r10) := H
          have A22 := Aside0.mk A220
          clear A220
          have H' := Aside0.mk H
          clear H
          go_enter Try.func16, Try.ntmps16
          try go_wp2_with (first | ((with_reducible refine gate_dst (N := 2) rfl ?_); refine box_event ?hg (N := 2) ?hd (cs := #[.int .i64 0, .int .i64 0, .int .i64 0, .int .i64 0, .string (⟨#[]⟩ : ByteArray), .int .i64 0, .int .i64 0, .string (⟨#[]⟩ : ByteArray), .slice none 0 0]) (t := 26) ?hr ?_; (case hd => rfl); (case hg => rfl); (case hr => first | (go_simp; done) | (go_simp; rfl)); intro gb271 hg w23 hbox hb; have n0_ := Aside0.mk (below_step (by repeat (first | (with_reducible first | exact HB.out | apply below_alloc | apply pw_below_drewN | apply below_drew1) | exact HB.out)) hb); have n1_ := Aside0.mk (hbox); have n2_ := Aside0.mk ((by rw [hg]; exact (below_size (by repeat (first | (with_reducible first | exact HB.out | apply below_alloc | apply pw_below_drewN | apply below_drew1) | exact HB.out))) : w.heap.size ≤ gb271)); have n3_ := Aside0.mk ((by rw [hg]; exact (below_size (by repeat (first | (with_reducible first | exact HB.out | apply below_alloc | apply pw_below_drewN | apply below_drew1) | exact HB.out))) : w.heap.size ≤ gb271)); clear HB; have HB := n0_; have BK271 := n1_; have GW271 := n2_; have GE271 := n3_; clear n0_ n1_ n2_ n3_; clear hb hbox hg))
          have n0_ := Aside0.mk (blk_drew BK271.out)
          have n1_ := Aside0.mk (below_drew1 HB.out)
          clear BK271
          clear HB
          have BK271 := n0_
          have HB := n1_
          clear n0_ n1_
          refine start_ (n := 7) (S := fun w' => True) (ds := []) #[false, false, false, false, false, false, false] (by kernel_rfl) rfl rfl trivial (fun hHeld => ?_)
          generalize w23.drew = w24 at BK271 HB hHeld ⊢
          refine pure_ (i := 0) (N := some 11) (v := ?_) (a' := ?_) #[true, false, false, false, false, false, false] rfl rfl (by kernel_rfl) (fun _ _ _ h => h) (Or.inl ⟨by rfl, ?_⟩) ?_ ?_
          rotate_left
          · intro w'
            go_simp
            with_reducible rfl
          rotate_left
          · simp only [Act.put, List.setIfInBounds_toArray, List.set_cons_zero, List.set_cons_succ, i64_w, i32_w]
            rfl
          refine pure_ (i := 1) (N := some 12) (v := ?_) (a' := ?_) #[true, true, false, false, false, false, false] rfl rfl (by kernel_rfl) (fun _ _ _ h => h) (Or.inl ⟨by rfl, ?_⟩) ?_ ?_
          rotate_left
          · intro w'
            go_simp
            with_reducible rfl
          rotate_left
          · simp only [Act.put, List.setIfInBounds_toArray, List.set_cons_zero, List.set_cons_succ, i64_w, i32_w]
            rfl
          refine pure_ (i := 3) (N := some 14) (v := ?_) (a' := ?_) #[true, true, false, true, false, false, false] rfl rfl (by kernel_rfl) (fun _ _ _ h => h) (Or.inl ⟨by rfl, ?_⟩) ?_ ?_
          rotate_left
          · intro w'
            go_simp
            with_reducible rfl
          rotate_left
          · simp only [Act.put, List.setIfInBounds_toArray, List.set_cons_zero, List.set_cons_succ, i64_w, i32_w]
            rfl
          refine pure_ (i := 4) (N := some 15) (v := ?_) (a' := ?_) #[true, true, false, true, true, false, false] rfl rfl (by kernel_rfl) (fun _ _ _ h => h) (Or.inl ⟨by rfl, ?_⟩) ?_ ?_
          rotate_left
          · intro w'
            go_simp
            with_reducible rfl
          rotate_left
          · simp only [Act.put, List.setIfInBounds_toArray, List.set_cons_zero, List.set_cons_succ, i64_w, i32_w]
            rfl
          refine one_ (i := 2) (N := some 13) #[true, true, true, true, true, false, false] rfl rfl (by kernel_rfl) (by decide) (fun K hK => ?_)
          refine goes_ Try.func29 (by kernel_rfl) rfl #[.string (a0.extract 0 4)] (by rfl) rfl rfl (by (try simp only [List.map_toArray, List.map_cons, List.map_nil]); first | done | rfl | (simp only [List.length_drop, List.length_take]; rfl) | (simp only [ByteArray.size_extract, Nat.min_self]; done) | (simp only [ByteArray.size_extract, Nat.min_self]; rfl)) ?_
          with_reducible refine (vitrineref06_Of.calls k (a0.extract 0 4) t272 _ A7.out).mono ?_
          rintro e w' ⟨rfl, ⟨nd, rfl⟩⟩
          refine ⟨_, rfl, ?_⟩
          refine hK.out _ _ trivial (fun hHeld => ?_)
          clear hK K
          refine norm_ (a' := ?_) ?_ ?_
          rotate_left
          · show Act.put _ (some 13) _ = _
            simp only [Act.put, List.setIfInBounds_toArray, List.set_cons_zero, List.set_cons_succ, i64_w, i32_w]
            rfl
          refine one_ (i := 5) (N := some 16) #[true, true, true, true, true, true, false] rfl rfl (by kernel_rfl) (by decide) (fun K hK => ?_)
          refine goes_ Try.func24 (by kernel_rfl) rfl #[.string (a0.extract 4 a0.size)] (by rfl) rfl rfl (by (try simp only [List.map_toArray, List.map_cons, List.map_nil]); first | done | rfl | (simp only [List.length_drop, List.length_take]; rfl) | (simp only [ByteArray.size_extract, Nat.min_self]; done) | (simp only [ByteArray.size_extract, Nat.min_self]; rfl)) ?_
          with_reducible refine (vitrineref01_Crc.calls k (a0.extract 4 a0.size) t273 _ A9.out).mono ?_
          rintro e w' ⟨rfl, ⟨nd, rfl⟩⟩
          refine ⟨_, rfl, ?_⟩
          refine hK.out _ _ trivial (fun hHeld => ?_)
          clear hK K
          refine norm_ (a' := ?_) ?_ ?_
          rotate_left
          · show Act.put _ (some 16) _ = _
            simp only [Act.put, List.setIfInBounds_toArray, List.set_cons_zero, List.set_cons_succ, i64_w, i32_w]
            rfl
          refine pure_ (i := 6) (N := some 17) (v := ?_) (a' := ?_) #[true, true, true, true, true, true, true] rfl rfl (by kernel_rfl) (fun _ _ _ h => h) (Or.inl ⟨by rfl, ?_⟩) ?_ ?_
          rotate_left
          · intro w'
            go_simp
            with_reducible rfl
          rotate_left
          · simp only [Act.put, List.setIfInBounds_toArray, List.set_cons_zero, List.set_cons_succ, i64_w, i32_w]
            rfl
          refine done_ (by kernel_rfl) ?_
          try go_wp2_with (first | ((with_reducible refine gate_dst (N := 22) rfl ?_); refine box_event ?hg (N := 22) ?hd (cs := #[.string (a0.extract 4 a0.size), .bool false]) (t := 59) ?hr ?_; (case hd => rfl); (case hg => rfl); (case hr => first | (go_simp; done) | (go_simp; rfl)); intro gb274 hg w25 hbox hb; have n0_ := Aside0.mk (blk_below (g := gb271) (o := .cells #[.int .i64 0, .int .i64 0, .int .i64 0, .int .i64 0, .string (⟨#[]⟩ : ByteArray), .int .i64 0, .int .i64 0, .string (⟨#[]⟩ : ByteArray), .slice none 0 0] 26 (0, 0)) (by (with_reducible repeat (first | refine blk_drewN ?_ _ | refine blk_drew ?_ | refine blk_alloc ?_ _)); exact BK271.out) hb); have n1_ := Aside0.mk (below_step (by repeat (first | (with_reducible first | exact HB.out | apply below_alloc | apply pw_below_drewN | apply below_drew1 | refine below_set ?_ GE271.out) | exact HB.out)) hb); have n2_ := Aside0.mk ((show IsS59 w _ _ (a0.extract 4 a0.size) false from ⟨hbox, by rw [hg]; exact (below_size (by repeat (first | (with_reducible first | exact HB.out | apply below_alloc | apply pw_below_drewN | apply below_drew1 | refine below_set ?_ GE271.out) | exact HB.out)))⟩)); have n3_ := Aside0.mk ((by rw [hg]; exact (below_size (by repeat (first | (with_reducible first | exact HB.out | apply below_alloc | apply pw_below_drewN | apply below_drew1 | refine below_set ?_ GE271.out) | exact HB.out))) : w.heap.size ≤ gb274)); have n4_ := Aside0.mk ((by rw [hg]; exact (below_size (by repeat (first | (with_reducible first | exact HB.out | apply below_alloc | apply pw_below_drewN | apply below_drew1 | refine below_set ?_ GE271.out) | exact HB.out))) : w.heap.size ≤ gb274)); have n5_ := Aside0.mk ((by rw [hg]; exact Nat.ne_of_lt (blk_lt (g := gb271) (o := .cells #[.int .i64 0, .int .i64 0, .int .i64 0, .int .i64 0, .string (⟨#[]⟩ : ByteArray), .int .i64 0, .int .i64 0, .string (⟨#[]⟩ : ByteArray), .slice none 0 0] 26 (0, 0)) (by (with_reducible repeat (first | refine blk_drewN ?_ _ | refine blk_drew ?_ | refine blk_alloc ?_ _)); exact BK271.out)) : gb271 ≠ gb274)); have n6_ := Aside0.mk ((by rw [hg]; exact Nat.ne_of_gt (blk_lt (g := gb271) (o := .cells #[.int .i64 0, .int .i64 0, .int .i64 0, .int .i64 0, .string (⟨#[]⟩ : ByteArray), .int .i64 0, .int .i64 0, .string (⟨#[]⟩ : ByteArray), .slice none 0 0] 26 (0, 0)) (by (with_reducible repeat (first | refine blk_drewN ?_ _ | refine blk_drew ?_ | refine blk_alloc ?_ _)); exact BK271.out)) : gb274 ≠ gb271)); clear BK271; clear HB; have BK271 := n0_; have HB := n1_; have HI274 := n2_; have GW274 := n3_; have GE274 := n4_; have NB271_274 := n5_; have NB274_271 := n6_; clear n0_ n1_ n2_ n3_ n4_ n5_ n6_; clear hb hbox hg) | ((with_reducible refine gate_dst (N := 5) rfl ?_); refine box_event ?hg (N := 5) ?hd (cs := #[.int .i64 0, .int .i64 0, .int .i64 0, .int .i64 0, .string (⟨#[]⟩ : ByteArray), .int .i64 0, .int .i64 0, .string (⟨#[]⟩ : ByteArray), .slice none 0 0]) (t := 26) ?hr ?_; (case hd => rfl); (case hg => rfl); (case hr => first | (go_simp; done) | (go_simp; rfl)); intro gb275 hg w26 hbox hb; have n0_ := Aside0.mk (blk_below (g := gb271) (o := .cells #[.int .i64 0, .int .i64 0, .int .i64 0, .int .i64 0, .string (⟨#[]⟩ : ByteArray), .int .i64 0, .int .i64 0, .string (⟨#[]⟩ : ByteArray), .slice none 0 0] 26 (0, 0)) (by (with_reducible repeat (first | refine blk_drewN ?_ _ | refine blk_drew ?_ | refine blk_alloc ?_ _)); exact BK271.out) hb); have n1_ := Aside0.mk (IsS59.below (by repeat (first | (with_reducible first | exact HI274.out | apply IsS59.alloc | apply IsS59.drewN | apply IsS59.drew | apply IsS59.set_0 | apply IsS59.set_1 | refine IsS59.far ?_ NB274_271.out _) | exact HI274.out)) hb); have n2_ := Aside0.mk (below_step (by repeat (first | (with_reducible first | exact HB.out | apply below_alloc | apply pw_below_drewN | apply below_drew1 | refine below_set ?_ (IsS59.ge HI274.out) | refine below_set ?_ GE271.out) | exact HB.out)) hb); have n3_ := Aside0.mk (hbox); have n4_ := Aside0.mk ((by rw [hg]; exact (below_size (by repeat (first | (with_reducible first | exact HB.out | apply below_alloc | apply pw_below_drewN | apply below_drew1 | refine below_set ?_ (IsS59.ge HI274.out) | refine below_set ?_ GE271.out) | exact HB.out))) : w.heap.size ≤ gb275)); have n5_ := Aside0.mk ((by rw [hg]; exact (below_size (by repeat (first | (with_reducible first | exact HB.out | apply below_alloc | apply pw_below_drewN | apply below_drew1 | refine below_set ?_ (IsS59.ge HI274.out) | refine below_set ?_ GE271.out) | exact HB.out))) : w.heap.size ≤ gb275)); have n6_ := Aside0.mk ((by rw [hg]; exact Nat.ne_of_lt (blk_lt (g := gb271) (o := .cells #[.int .i64 0, .int .i64 0, .int .i64 0, .int .i64 0, .string (⟨#[]⟩ : ByteArray), .int .i64 0, .int .i64 0, .string (⟨#[]⟩ : ByteArray), .slice none 0 0] 26 (0, 0)) (by (with_reducible repeat (first | refine blk_drewN ?_ _ | refine blk_drew ?_ | refine blk_alloc ?_ _)); exact BK271.out)) : gb271 ≠ gb275)); have n7_ := Aside0.mk ((by rw [hg]; exact Nat.ne_of_gt (blk_lt (g := gb271) (o := .cells #[.int .i64 0, .int .i64 0, .int .i64 0, .int .i64 0, .string (⟨#[]⟩ : ByteArray), .int .i64 0, .int .i64 0, .string (⟨#[]⟩ : ByteArray), .slice none 0 0] 26 (0, 0)) (by (with_reducible repeat (first | refine blk_drewN ?_ _ | refine blk_drew ?_ | refine blk_alloc ?_ _)); exact BK271.out)) : gb275 ≠ gb271)); have n8_ := Aside0.mk ((by rw [hg]; exact Nat.ne_of_lt (IsS59.lt (show IsS59 w _ gb274 (a0.extract 4 a0.size) false from by repeat (first | (with_reducible first | exact HI274.out | apply IsS59.alloc | apply IsS59.drewN | apply IsS59.drew | apply IsS59.set_0 | apply IsS59.set_1 | refine IsS59.far ?_ NB274_271.out _) | exact HI274.out))) : gb274 ≠ gb275)); have n9_ := Aside0.mk ((by rw [hg]; exact Nat.ne_of_gt (IsS59.lt (show IsS59 w _ gb274 (a0.extract 4 a0.size) false from by repeat (first | (with_reducible first | exact HI274.out | apply IsS59.alloc | apply IsS59.drewN | apply IsS59.drew | apply IsS59.set_0 | apply IsS59.set_1 | refine IsS59.far ?_ NB274_271.out _) | exact HI274.out))) : gb275 ≠ gb274)); clear BK271; clear HI274; clear HB; have BK271 := n0_; have HI274 := n1_; have HB := n2_; have BK275 := n3_; have GW275 := n4_; have GE275 := n5_; have NB271_275 := n6_; have NB275_271 := n7_; have NB274_275 := n8_; have NB275_274 := n9_; clear n0_ n1_ n2_ n3_ n4_ n5_ n6_ n7_ n8_ n9_; clear hb hbox hg) | ((with_reducible refine gate_callee (f := 30) rfl ?_); refine goesL_ (some 24) rfl rfl Try.func30 (by kernel_rfl) rfl #[.pointer (some ⟨gb274, 0, none⟩), .int .i64 1] rfl (by (try simp only [List.map_toArray, List.map_cons, List.map_nil]); first | done | rfl | (simp only [List.length_drop, List.length_take]; rfl) | (simp only [ByteArray.size_extract, Nat.min_self]; done) | (simp only [ByteArray.size_extract, Nat.min_self]; rfl)) ?_; (with_reducible refine (vitrineref20_reader_num.calls k gb274 (a0.extract 4 a0.size) false 1 t276 t277 t278 w _ ?side1 ?side2 A12.out).mono ?_); (case side1 => repeat (first | (with_reducible first | exact HI274.out | apply IsS59.alloc | apply IsS59.drewN | apply IsS59.drew | apply IsS59.set_0 | apply IsS59.set_1 | refine IsS59.far ?_ NB274_271.out _ | refine IsS59.far ?_ NB274_275.out _) | exact HI274.out)); (case side2 => repeat (first | (with_reducible first | exact HB.out | apply below_alloc | apply pw_below_drewN | apply below_drew1 | refine below_set ?_ (IsS59.ge HI274.out) | refine below_set ?_ GE271.out | refine below_set ?_ GE275.out) | exact HB.out)); rintro e w27 ⟨rfl, hi, hb, hk⟩; refine ⟨_, rfl, ?_⟩; have n0_ := Aside0.mk (KeepBut.blk hk (g' := gb271) (o := .cells #[.int .i64 0, .int .i64 0, .int .i64 0, .int .i64 0, .string (⟨#[]⟩ : ByteArray), .int .i64 0, .int .i64 0, .string (⟨#[]⟩ : ByteArray), .slice none 0 0] 26 (0, 0)) (by (with_reducible repeat (first | refine blk_drewN ?_ _ | refine blk_drew ?_ | refine blk_alloc ?_ _)); exact BK271.out) NB271_274.out (by simp)); have n1_ := Aside0.mk (KeepBut.blk hk (g' := gb275) (o := .cells #[.int .i64 0, .int .i64 0, .int .i64 0, .int .i64 0, .string (⟨#[]⟩ : ByteArray), .int .i64 0, .int .i64 0, .string (⟨#[]⟩ : ByteArray), .slice none 0 0] 26 (0, 0)) (by (with_reducible repeat (first | refine blk_drewN ?_ _ | refine blk_drew ?_ | refine blk_alloc ?_ _)); exact BK275.out) NB275_274.out (by simp)); have n2_ := Aside0.mk (hb); have n3_ := Aside0.mk (hi); clear BK271; clear BK275; clear HB; clear HI274; have BK271 := n0_; have BK275 := n1_; have HB := n2_; have HI274 := n3_; clear n0_ n1_ n2_ n3_; (try clear hb); (try clear hb2); (try clear hk); (try clear hi); have hnb28 := NB275_271.out; have hnc28 := NB271_275.out; have hnb29 := NB275_274.out; have hnc29 := NB274_275.out; have hcz30_0 : w27.cell? ⟨gb275, 0, none⟩ = some (.int .i64 0) := (blk_cell BK275.out 0).trans rfl; have hcz30_1 : w27.cell? ⟨gb275, 1, none⟩ = some (.int .i64 0) := (blk_cell BK275.out 1).trans rfl; have hcz30_2 : w27.cell? ⟨gb275, 2, none⟩ = some (.int .i64 0) := (blk_cell BK275.out 2).trans rfl; have hcz30_3 : w27.cell? ⟨gb275, 3, none⟩ = some (.int .i64 0) := (blk_cell BK275.out 3).trans rfl; have hcz30_4 : w27.cell? ⟨gb275, 4, none⟩ = some (.string (⟨#[]⟩ : ByteArray)) := (blk_cell BK275.out 4).trans rfl; have hcz30_5 : w27.cell? ⟨gb275, 5, none⟩ = some (.int .i64 0) := (blk_cell BK275.out 5).trans rfl; have hcz30_6 : w27.cell? ⟨gb275, 6, none⟩ = some (.int .i64 0) := (blk_cell BK275.out 6).trans rfl; have hcz30_7 : w27.cell? ⟨gb275, 7, none⟩ = some (.string (⟨#[]⟩ : ByteArray)) := (blk_cell BK275.out 7).trans rfl; have hcz30_8 : w27.cell? ⟨gb275, 8, none⟩ = some (.slice none 0 0) := (blk_cell BK275.out 8).trans rfl; have hfz30_0 := blk_frozen BK275.out 0; have hfz30_1 := blk_frozen BK275.out 1; have hfz30_2 := blk_frozen BK275.out 2; have hfz30_3 := blk_frozen BK275.out 3; have hfz30_4 := blk_frozen BK275.out 4; have hfz30_5 := blk_frozen BK275.out 5; have hfz30_6 := blk_frozen BK275.out 6; have hfz30_7 := blk_frozen BK275.out 7; have hfz30_8 := blk_frozen BK275.out 8) | ((with_reducible refine gate_callee (f := 30) rfl ?_); refine goesL_ (some 27) rfl rfl Try.func30 (by kernel_rfl) rfl #[.pointer (some ⟨gb274, 0, none⟩), .int .i64 2] rfl (by (try simp only [List.map_toArray, List.map_cons, List.map_nil]); first | done | rfl | (simp only [List.length_drop, List.length_take]; rfl) | (simp only [ByteArray.size_extract, Nat.min_self]; done) | (simp only [ByteArray.size_extract, Nat.min_self]; rfl)) ?_; (with_reducible refine (vitrineref20_reader_num.calls k gb274 t277 t278 2 t279 t280 t281 w _ ?side1 ?side2 A13.out).mono ?_); (case side1 => repeat (first | (with_reducible first | exact HI274.out | apply IsS59.alloc | apply IsS59.drewN | apply IsS59.drew | apply IsS59.set_0 | apply IsS59.set_1 | refine IsS59.far ?_ NB274_271.out _ | refine IsS59.far ?_ NB274_275.out _) | exact HI274.out)); (case side2 => repeat (first | (with_reducible first | exact HB.out | apply below_alloc | apply pw_below_drewN | apply below_drew1 | refine below_set ?_ (IsS59.ge HI274.out) | refine below_set ?_ GE271.out | refine below_set ?_ GE275.out) | exact HB.out)); rintro e w31 ⟨rfl, hi, hb, hk⟩; refine ⟨_, rfl, ?_⟩; have n0_ := Aside0.mk (KeepBut.blk hk (g' := gb271) (o := .cells #[.int .i64 0, .int .i64 0, .int .i64 0, .int .i64 0, .string (⟨#[]⟩ : ByteArray), .int .i64 0, .int .i64 0, .string (⟨#[]⟩ : ByteArray), .slice none 0 0] 26 (0, 0)) (by (with_reducible repeat (first | refine blk_drewN ?_ _ | refine blk_drew ?_ | refine blk_alloc ?_ _)); refine blk_far ?_ NB271_275.out _; (with_reducible repeat (first | refine blk_drewN ?_ _ | refine blk_drew ?_ | refine blk_alloc ?_ _)); exact BK271.out) NB271_274.out (by simp)); have n1_ := Aside0.mk (KeepBut.blk hk (g' := gb275) (o := .cells #[.int .i64 t276, .int .i64 0, .int .i64 0, .int .i64 0, .string (⟨#[]⟩ : ByteArray), .int .i64 0, .int .i64 0, .string (⟨#[]⟩ : ByteArray), .slice none 0 0] 26 (0, 0)) (by (with_reducible repeat (first | refine blk_drewN ?_ _ | refine blk_drew ?_ | refine blk_alloc ?_ _)); refine blk_put (cs := #[.int .i64 0, .int .i64 0, .int .i64 0, .int .i64 0, .string (⟨#[]⟩ : ByteArray), .int .i64 0, .int .i64 0, .string (⟨#[]⟩ : ByteArray), .slice none 0 0]) ?_ 0 _ rfl; (with_reducible repeat (first | refine blk_drewN ?_ _ | refine blk_drew ?_ | refine blk_alloc ?_ _)); exact BK275.out) NB275_274.out (by simp)); have n2_ := Aside0.mk (hb); have n3_ := Aside0.mk (hi); clear BK271; clear BK275; clear HB; clear HI274; have BK271 := n0_; have BK275 := n1_; have HB := n2_; have HI274 := n3_; clear n0_ n1_ n2_ n3_; (try clear hb); (try clear hb2); (try clear hk); (try clear hi); have hcz32_0 : w31.cell? ⟨gb275, 0, none⟩ = some (.int .i64 t276) := (blk_cell BK275.out 0).trans rfl; have hcz32_1 : w31.cell? ⟨gb275, 1, none⟩ = some (.int .i64 0) := (blk_cell BK275.out 1).trans rfl; have hcz32_2 : w31.cell? ⟨gb275, 2, none⟩ = some (.int .i64 0) := (blk_cell BK275.out 2).trans rfl; have hcz32_3 : w31.cell? ⟨gb275, 3, none⟩ = some (.int .i64 0) := (blk_cell BK275.out 3).trans rfl; have hcz32_4 : w31.cell? ⟨gb275, 4, none⟩ = some (.string (⟨#[]⟩ : ByteArray)) := (blk_cell BK275.out 4).trans rfl; have hcz32_5 : w31.cell? ⟨gb275, 5, none⟩ = some (.int .i64 0) := (blk_cell BK275.out 5).trans rfl; have hcz32_6 : w31.cell? ⟨gb275, 6, none⟩ = some (.int .i64 0) := (blk_cell BK275.out 6).trans rfl; have hcz32_7 : w31.cell? ⟨gb275, 7, none⟩ = some (.string (⟨#[]⟩ : ByteArray)) := (blk_cell BK275.out 7).trans rfl; have hcz32_8 : w31.cell? ⟨gb275, 8, none⟩ = some (.slice none 0 0) := (blk_cell BK275.out 8).trans rfl; have hfz32_0 := blk_frozen BK275.out 0; have hfz32_1 := blk_frozen BK275.out 1; have hfz32_2 := blk_frozen BK275.out 2; have hfz32_3 := blk_frozen BK275.out 3; have hfz32_4 := blk_frozen BK275.out 4; have hfz32_5 := blk_frozen BK275.out 5; have hfz32_6 := blk_frozen BK275.out 6; have hfz32_7 := blk_frozen BK275.out 7; have hfz32_8 := blk_frozen BK275.out 8) | ((with_reducible refine gate_callee (f := 30) rfl ?_); refine goesL_ (some 30) rfl rfl Try.func30 (by kernel_rfl) rfl #[.pointer (some ⟨gb274, 0, none⟩), .int .i64 2] rfl (by (try simp only [List.map_toArray, List.map_cons, List.map_nil]); first | done | rfl | (simp only [List.length_drop, List.length_take]; rfl) | (simp only [ByteArray.size_extract, Nat.min_self]; done) | (simp only [ByteArray.size_extract, Nat.min_self]; rfl)) ?_; (with_reducible refine (vitrineref20_reader_num.calls k gb274 t280 t281 2 t282 t283 t284 w _ ?side1 ?side2 A14.out).mono ?_); (case side1 => repeat (first | (with_reducible first | exact HI274.out | apply IsS59.alloc | apply IsS59.drewN | apply IsS59.drew | apply IsS59.set_0 | apply IsS59.set_1 | refine IsS59.far ?_ NB274_271.out _ | refine IsS59.far ?_ NB274_275.out _) | exact HI274.out)); (case side2 => repeat (first | (with_reducible first | exact HB.out | apply below_alloc | apply pw_below_drewN | apply below_drew1 | refine below_set ?_ (IsS59.ge HI274.out) | refine below_set ?_ GE271.out | refine below_set ?_ GE275.out) | exact HB.out)); rintro e w33 ⟨rfl, hi, hb, hk⟩; refine ⟨_, rfl, ?_⟩; have n0_ := Aside0.mk (KeepBut.blk hk (g' := gb271) (o := .cells #[.int .i64 0, .int .i64 0, .int .i64 0, .int .i64 0, .string (⟨#[]⟩ : ByteArray), .int .i64 0, .int .i64 0, .string (⟨#[]⟩ : ByteArray), .slice none 0 0] 26 (0, 0)) (by (with_reducible repeat (first | refine blk_drewN ?_ _ | refine blk_drew ?_ | refine blk_alloc ?_ _)); refine blk_far ?_ NB271_275.out _; (with_reducible repeat (first | refine blk_drewN ?_ _ | refine blk_drew ?_ | refine blk_alloc ?_ _)); exact BK271.out) NB271_274.out (by simp)); have n1_ := Aside0.mk (KeepBut.blk hk (g' := gb275) (o := .cells #[.int .i64 t276, .int .i64 t279, .int .i64 0, .int .i64 0, .string (⟨#[]⟩ : ByteArray), .int .i64 0, .int .i64 0, .string (⟨#[]⟩ : ByteArray), .slice none 0 0] 26 (0, 0)) (by (with_reducible repeat (first | refine blk_drewN ?_ _ | refine blk_drew ?_ | refine blk_alloc ?_ _)); refine blk_put (cs := #[.int .i64 t276, .int .i64 0, .int .i64 0, .int .i64 0, .string (⟨#[]⟩ : ByteArray), .int .i64 0, .int .i64 0, .string (⟨#[]⟩ : ByteArray), .slice none 0 0]) ?_ 1 _ rfl; (with_reducible repeat (first | refine blk_drewN ?_ _ | refine blk_drew ?_ | refine blk_alloc ?_ _)); exact BK275.out) NB275_274.out (by simp)); have n2_ := Aside0.mk (hb); have n3_ := Aside0.mk (hi); clear BK271; clear BK275; clear HB; clear HI274; have BK271 := n0_; have BK275 := n1_; have HB := n2_; have HI274 := n3_; clear n0_ n1_ n2_ n3_; (try clear hb); (try clear hb2); (try clear hk); (try clear hi); have hcz34_0 : w33.cell? ⟨gb275, 0, none⟩ = some (.int .i64 t276) := (blk_cell BK275.out 0).trans rfl; have hcz34_1 : w33.cell? ⟨gb275, 1, none⟩ = some (.int .i64 t279) := (blk_cell BK275.out 1).trans rfl; have hcz34_2 : w33.cell? ⟨gb275, 2, none⟩ = some (.int .i64 0) := (blk_cell BK275.out 2).trans rfl; have hcz34_3 : w33.cell? ⟨gb275, 3, none⟩ = some (.int .i64 0) := (blk_cell BK275.out 3).trans rfl; have hcz34_4 : w33.cell? ⟨gb275, 4, none⟩ = some (.string (⟨#[]⟩ : ByteArray)) := (blk_cell BK275.out 4).trans rfl; have hcz34_5 : w33.cell? ⟨gb275, 5, none⟩ = some (.int .i64 0) := (blk_cell BK275.out 5).trans rfl; have hcz34_6 : w33.cell? ⟨gb275, 6, none⟩ = some (.int .i64 0) := (blk_cell BK275.out 6).trans rfl; have hcz34_7 : w33.cell? ⟨gb275, 7, none⟩ = some (.string (⟨#[]⟩ : ByteArray)) := (blk_cell BK275.out 7).trans rfl; have hcz34_8 : w33.cell? ⟨gb275, 8, none⟩ = some (.slice none 0 0) := (blk_cell BK275.out 8).trans rfl; have hfz34_0 := blk_frozen BK275.out 0; have hfz34_1 := blk_frozen BK275.out 1; have hfz34_2 := blk_frozen BK275.out 2; have hfz34_3 := blk_frozen BK275.out 3; have hfz34_4 := blk_frozen BK275.out 4; have hfz34_5 := blk_frozen BK275.out 5; have hfz34_6 := blk_frozen BK275.out 6; have hfz34_7 := blk_frozen BK275.out 7; have hfz34_8 := blk_frozen BK275.out 8) | ((with_reducible refine gate_callee (f := 30) rfl ?_); refine goesL_ (some 33) rfl rfl Try.func30 (by kernel_rfl) rfl #[.pointer (some ⟨gb274, 0, none⟩), .int .i64 8] rfl (by (try simp only [List.map_toArray, List.map_cons, List.map_nil]); first | done | rfl | (simp only [List.length_drop, List.length_take]; rfl) | (simp only [ByteArray.size_extract, Nat.min_self]; done) | (simp only [ByteArray.size_extract, Nat.min_self]; rfl)) ?_; (with_reducible refine (vitrineref20_reader_num.calls k gb274 t283 t284 8 t285 t286 t287 w _ ?side1 ?side2 A15.out).mono ?_); (case side1 => repeat (first | (with_reducible first | exact HI274.out | apply IsS59.alloc | apply IsS59.drewN | apply IsS59.drew | apply IsS59.set_0 | apply IsS59.set_1 | refine IsS59.far ?_ NB274_271.out _ | refine IsS59.far ?_ NB274_275.out _) | exact HI274.out)); (case side2 => repeat (first | (with_reducible first | exact HB.out | apply below_alloc | apply pw_below_drewN | apply below_drew1 | refine below_set ?_ (IsS59.ge HI274.out) | refine below_set ?_ GE271.out | refine below_set ?_ GE275.out) | exact HB.out)); rintro e w35 ⟨rfl, hi, hb, hk⟩; refine ⟨_, rfl, ?_⟩; have n0_ := Aside0.mk (KeepBut.blk hk (g' := gb271) (o := .cells #[.int .i64 0, .int .i64 0, .int .i64 0, .int .i64 0, .string (⟨#[]⟩ : ByteArray), .int .i64 0, .int .i64 0, .string (⟨#[]⟩ : ByteArray), .slice none 0 0] 26 (0, 0)) (by (with_reducible repeat (first | refine blk_drewN ?_ _ | refine blk_drew ?_ | refine blk_alloc ?_ _)); refine blk_far ?_ NB271_275.out _; (with_reducible repeat (first | refine blk_drewN ?_ _ | refine blk_drew ?_ | refine blk_alloc ?_ _)); exact BK271.out) NB271_274.out (by simp)); have n1_ := Aside0.mk (KeepBut.blk hk (g' := gb275) (o := .cells #[.int .i64 t276, .int .i64 t279, .int .i64 t282, .int .i64 0, .string (⟨#[]⟩ : ByteArray), .int .i64 0, .int .i64 0, .string (⟨#[]⟩ : ByteArray), .slice none 0 0] 26 (0, 0)) (by (with_reducible repeat (first | refine blk_drewN ?_ _ | refine blk_drew ?_ | refine blk_alloc ?_ _)); refine blk_put (cs := #[.int .i64 t276, .int .i64 t279, .int .i64 0, .int .i64 0, .string (⟨#[]⟩ : ByteArray), .int .i64 0, .int .i64 0, .string (⟨#[]⟩ : ByteArray), .slice none 0 0]) ?_ 2 _ rfl; (with_reducible repeat (first | refine blk_drewN ?_ _ | refine blk_drew ?_ | refine blk_alloc ?_ _)); exact BK275.out) NB275_274.out (by simp)); have n2_ := Aside0.mk (hb); have n3_ := Aside0.mk (hi); clear BK271; clear BK275; clear HB; clear HI274; have BK271 := n0_; have BK275 := n1_; have HB := n2_; have HI274 := n3_; clear n0_ n1_ n2_ n3_; (try clear hb); (try clear hb2); (try clear hk); (try clear hi); have hcz36_0 : w35.cell? ⟨gb275, 0, none⟩ = some (.int .i64 t276) := (blk_cell BK275.out 0).trans rfl; have hcz36_1 : w35.cell? ⟨gb275, 1, none⟩ = some (.int .i64 t279) := (blk_cell BK275.out 1).trans rfl; have hcz36_2 : w35.cell? ⟨gb275, 2, none⟩ = some (.int .i64 t282) := (blk_cell BK275.out 2).trans rfl; have hcz36_3 : w35.cell? ⟨gb275, 3, none⟩ = some (.int .i64 0) := (blk_cell BK275.out 3).trans rfl; have hcz36_4 : w35.cell? ⟨gb275, 4, none⟩ = some (.string (⟨#[]⟩ : ByteArray)) := (blk_cell BK275.out 4).trans rfl; have hcz36_5 : w35.cell? ⟨gb275, 5, none⟩ = some (.int .i64 0) := (blk_cell BK275.out 5).trans rfl; have hcz36_6 : w35.cell? ⟨gb275, 6, none⟩ = some (.int .i64 0) := (blk_cell BK275.out 6).trans rfl; have hcz36_7 : w35.cell? ⟨gb275, 7, none⟩ = some (.string (⟨#[]⟩ : ByteArray)) := (blk_cell BK275.out 7).trans rfl; have hcz36_8 : w35.cell? ⟨gb275, 8, none⟩ = some (.slice none 0 0) := (blk_cell BK275.out 8).trans rfl; have hfz36_0 := blk_frozen BK275.out 0; have hfz36_1 := blk_frozen BK275.out 1; have hfz36_2 := blk_frozen BK275.out 2; have hfz36_3 := blk_frozen BK275.out 3; have hfz36_4 := blk_frozen BK275.out 4; have hfz36_5 := blk_frozen BK275.out 5; have hfz36_6 := blk_frozen BK275.out 6; have hfz36_7 := blk_frozen BK275.out 7; have hfz36_8 := blk_frozen BK275.out 8) | ((with_reducible refine gate_callee (f := 30) rfl ?_); refine goesL_ (some 37) rfl rfl Try.func30 (by kernel_rfl) rfl #[.pointer (some ⟨gb274, 0, none⟩), .int .i64 1] rfl (by (try simp only [List.map_toArray, List.map_cons, List.map_nil]); first | done | rfl | (simp only [List.length_drop, List.length_take]; rfl) | (simp only [ByteArray.size_extract, Nat.min_self]; done) | (simp only [ByteArray.size_extract, Nat.min_self]; rfl)) ?_; (with_reducible refine (vitrineref20_reader_num.calls k gb274 t286 t287 1 t288 t289 t290 w _ ?side1 ?side2 A16.out).mono ?_); (case side1 => repeat (first | (with_reducible first | exact HI274.out | apply IsS59.alloc | apply IsS59.drewN | apply IsS59.drew | apply IsS59.set_0 | apply IsS59.set_1 | refine IsS59.far ?_ NB274_271.out _ | refine IsS59.far ?_ NB274_275.out _) | exact HI274.out)); (case side2 => repeat (first | (with_reducible first | exact HB.out | apply below_alloc | apply pw_below_drewN | apply below_drew1 | refine below_set ?_ (IsS59.ge HI274.out) | refine below_set ?_ GE271.out | refine below_set ?_ GE275.out) | exact HB.out)); rintro e w37 ⟨rfl, hi, hb, hk⟩; refine ⟨_, rfl, ?_⟩; have n0_ := Aside0.mk (KeepBut.blk hk (g' := gb271) (o := .cells #[.int .i64 0, .int .i64 0, .int .i64 0, .int .i64 0, .string (⟨#[]⟩ : ByteArray), .int .i64 0, .int .i64 0, .string (⟨#[]⟩ : ByteArray), .slice none 0 0] 26 (0, 0)) (by (with_reducible repeat (first | refine blk_drewN ?_ _ | refine blk_drew ?_ | refine blk_alloc ?_ _)); refine blk_far ?_ NB271_275.out _; (with_reducible repeat (first | refine blk_drewN ?_ _ | refine blk_drew ?_ | refine blk_alloc ?_ _)); exact BK271.out) NB271_274.out (by simp)); have n1_ := Aside0.mk (KeepBut.blk hk (g' := gb275) (o := .cells #[.int .i64 t276, .int .i64 t279, .int .i64 t282, .int .i64 t285, .string (⟨#[]⟩ : ByteArray), .int .i64 0, .int .i64 0, .string (⟨#[]⟩ : ByteArray), .slice none 0 0] 26 (0, 0)) (by (with_reducible repeat (first | refine blk_drewN ?_ _ | refine blk_drew ?_ | refine blk_alloc ?_ _)); refine blk_put (cs := #[.int .i64 t276, .int .i64 t279, .int .i64 t282, .int .i64 0, .string (⟨#[]⟩ : ByteArray), .int .i64 0, .int .i64 0, .string (⟨#[]⟩ : ByteArray), .slice none 0 0]) ?_ 3 _ rfl; (with_reducible repeat (first | refine blk_drewN ?_ _ | refine blk_drew ?_ | refine blk_alloc ?_ _)); exact BK275.out) NB275_274.out (by simp)); have n2_ := Aside0.mk (hb); have n3_ := Aside0.mk (hi); clear BK271; clear BK275; clear HB; clear HI274; have BK271 := n0_; have BK275 := n1_; have HB := n2_; have HI274 := n3_; clear n0_ n1_ n2_ n3_; (try clear hb); (try clear hb2); (try clear hk); (try clear hi)) | ((with_reducible refine gate_callee (f := 31) rfl ?_); refine goesL_ (some 38) rfl rfl Try.func31 (by kernel_rfl) rfl #[.pointer (some ⟨gb274, 0, none⟩), .int .i64 t288] rfl (by (try simp only [List.map_toArray, List.map_cons, List.map_nil]); first | done | rfl | (simp only [List.length_drop, List.length_take]; rfl) | (simp only [ByteArray.size_extract, Nat.min_self]; done) | (simp only [ByteArray.size_extract, Nat.min_self]; rfl)) ?_; (with_reducible refine (vitrineref20_reader_text.calls gb274 t289 t290 t288 t291 t292 t293 w _ ?side1 ?side2 A17.out).mono ?_); (case side1 => repeat (first | (with_reducible first | exact HI274.out | apply IsS59.alloc | apply IsS59.drewN | apply IsS59.drew | apply IsS59.set_0 | apply IsS59.set_1 | refine IsS59.far ?_ NB274_271.out _ | refine IsS59.far ?_ NB274_275.out _) | exact HI274.out)); (case side2 => repeat (first | (with_reducible first | exact HB.out | apply below_alloc | apply pw_below_drewN | apply below_drew1 | refine below_set ?_ (IsS59.ge HI274.out) | refine below_set ?_ GE271.out | refine below_set ?_ GE275.out) | exact HB.out)); rintro e w38 ⟨rfl, hi, hb, hk⟩; refine ⟨_, rfl, ?_⟩; have n0_ := Aside0.mk (KeepBut.blk hk (g' := gb271) (o := .cells #[.int .i64 0, .int .i64 0, .int .i64 0, .int .i64 0, .string (⟨#[]⟩ : ByteArray), .int .i64 0, .int .i64 0, .string (⟨#[]⟩ : ByteArray), .slice none 0 0] 26 (0, 0)) (by (with_reducible repeat (first | refine blk_drewN ?_ _ | refine blk_drew ?_ | refine blk_alloc ?_ _)); exact BK271.out) NB271_274.out (by simp)); have n1_ := Aside0.mk (KeepBut.blk hk (g' := gb275) (o := .cells #[.int .i64 t276, .int .i64 t279, .int .i64 t282, .int .i64 t285, .string (⟨#[]⟩ : ByteArray), .int .i64 0, .int .i64 0, .string (⟨#[]⟩ : ByteArray), .slice none 0 0] 26 (0, 0)) (by (with_reducible repeat (first | refine blk_drewN ?_ _ | refine blk_drew ?_ | refine blk_alloc ?_ _)); exact BK275.out) NB275_274.out (by simp)); have n2_ := Aside0.mk (hb); have n3_ := Aside0.mk (hi); clear BK271; clear BK275; clear HB; clear HI274; have BK271 := n0_; have BK275 := n1_; have HB := n2_; have HI274 := n3_; clear n0_ n1_ n2_ n3_; (try clear hb); (try clear hb2); (try clear hk); (try clear hi); have hcz39_0 : w38.cell? ⟨gb275, 0, none⟩ = some (.int .i64 t276) := (blk_cell BK275.out 0).trans rfl; have hcz39_1 : w38.cell? ⟨gb275, 1, none⟩ = some (.int .i64 t279) := (blk_cell BK275.out 1).trans rfl; have hcz39_2 : w38.cell? ⟨gb275, 2, none⟩ = some (.int .i64 t282) := (blk_cell BK275.out 2).trans rfl; have hcz39_3 : w38.cell? ⟨gb275, 3, none⟩ = some (.int .i64 t285) := (blk_cell BK275.out 3).trans rfl; have hcz39_4 : w38.cell? ⟨gb275, 4, none⟩ = some (.string (⟨#[]⟩ : ByteArray)) := (blk_cell BK275.out 4).trans rfl; have hcz39_5 : w38.cell? ⟨gb275, 5, none⟩ = some (.int .i64 0) := (blk_cell BK275.out 5).trans rfl; have hcz39_6 : w38.cell? ⟨gb275, 6, none⟩ = some (.int .i64 0) := (blk_cell BK275.out 6).trans rfl; have hcz39_7 : w38.cell? ⟨gb275, 7, none⟩ = some (.string (⟨#[]⟩ : ByteArray)) := (blk_cell BK275.out 7).trans rfl; have hcz39_8 : w38.cell? ⟨gb275, 8, none⟩ = some (.slice none 0 0) := (blk_cell BK275.out 8).trans rfl; have hfz39_0 := blk_frozen BK275.out 0; have hfz39_1 := blk_frozen BK275.out 1; have hfz39_2 := blk_frozen BK275.out 2; have hfz39_3 := blk_frozen BK275.out 3; have hfz39_4 := blk_frozen BK275.out 4; have hfz39_5 := blk_frozen BK275.out 5; have hfz39_6 := blk_frozen BK275.out 6; have hfz39_7 := blk_frozen BK275.out 7; have hfz39_8 := blk_frozen BK275.out 8) | ((with_reducible refine gate_callee (f := 30) rfl ?_); refine goesL_ (some 41) rfl rfl Try.func30 (by kernel_rfl) rfl #[.pointer (some ⟨gb274, 0, none⟩), .int .i64 8] rfl (by (try simp only [List.map_toArray, List.map_cons, List.map_nil]); first | done | rfl | (simp only [List.length_drop, List.length_take]; rfl) | (simp only [ByteArray.size_extract, Nat.min_self]; done) | (simp only [ByteArray.size_extract, Nat.min_self]; rfl)) ?_; (with_reducible refine (vitrineref20_reader_num.calls k gb274 t292 t293 8 t294 t295 t296 w _ ?side1 ?side2 A18.out).mono ?_); (case side1 => repeat (first | (with_reducible first | exact HI274.out | apply IsS59.alloc | apply IsS59.drewN | apply IsS59.drew | apply IsS59.set_0 | apply IsS59.set_1 | refine IsS59.far ?_ NB274_271.out _ | refine IsS59.far ?_ NB274_275.out _) | exact HI274.out)); (case side2 => repeat (first | (with_reducible first | exact HB.out | apply below_alloc | apply pw_below_drewN | apply below_drew1 | refine below_set ?_ (IsS59.ge HI274.out) | refine below_set ?_ GE271.out | refine below_set ?_ GE275.out) | exact HB.out)); rintro e w40 ⟨rfl, hi, hb, hk⟩; refine ⟨_, rfl, ?_⟩; have n0_ := Aside0.mk (KeepBut.blk hk (g' := gb271) (o := .cells #[.int .i64 0, .int .i64 0, .int .i64 0, .int .i64 0, .string (⟨#[]⟩ : ByteArray), .int .i64 0, .int .i64 0, .string (⟨#[]⟩ : ByteArray), .slice none 0 0] 26 (0, 0)) (by (with_reducible repeat (first | refine blk_drewN ?_ _ | refine blk_drew ?_ | refine blk_alloc ?_ _)); refine blk_far ?_ NB271_275.out _; (with_reducible repeat (first | refine blk_drewN ?_ _ | refine blk_drew ?_ | refine blk_alloc ?_ _)); exact BK271.out) NB271_274.out (by simp)); have n1_ := Aside0.mk (KeepBut.blk hk (g' := gb275) (o := .cells #[.int .i64 t276, .int .i64 t279, .int .i64 t282, .int .i64 t285, .string t291, .int .i64 0, .int .i64 0, .string (⟨#[]⟩ : ByteArray), .slice none 0 0] 26 (0, 0)) (by (with_reducible repeat (first | refine blk_drewN ?_ _ | refine blk_drew ?_ | refine blk_alloc ?_ _)); refine blk_put (cs := #[.int .i64 t276, .int .i64 t279, .int .i64 t282, .int .i64 t285, .string (⟨#[]⟩ : ByteArray), .int .i64 0, .int .i64 0, .string (⟨#[]⟩ : ByteArray), .slice none 0 0]) ?_ 4 _ rfl; (with_reducible repeat (first | refine blk_drewN ?_ _ | refine blk_drew ?_ | refine blk_alloc ?_ _)); exact BK275.out) NB275_274.out (by simp)); have n2_ := Aside0.mk (hb); have n3_ := Aside0.mk (hi); clear BK271; clear BK275; clear HB; clear HI274; have BK271 := n0_; have BK275 := n1_; have HB := n2_; have HI274 := n3_; clear n0_ n1_ n2_ n3_; (try clear hb); (try clear hb2); (try clear hk); (try clear hi); have hcz41_0 : w40.cell? ⟨gb275, 0, none⟩ = some (.int .i64 t276) := (blk_cell BK275.out 0).trans rfl; have hcz41_1 : w40.cell? ⟨gb275, 1, none⟩ = some (.int .i64 t279) := (blk_cell BK275.out 1).trans rfl; have hcz41_2 : w40.cell? ⟨gb275, 2, none⟩ = some (.int .i64 t282) := (blk_cell BK275.out 2).trans rfl; have hcz41_3 : w40.cell? ⟨gb275, 3, none⟩ = some (.int .i64 t285) := (blk_cell BK275.out 3).trans rfl; have hcz41_4 : w40.cell? ⟨gb275, 4, none⟩ = some (.string t291) := (blk_cell BK275.out 4).trans rfl; have hcz41_5 : w40.cell? ⟨gb275, 5, none⟩ = some (.int .i64 0) := (blk_cell BK275.out 5).trans rfl; have hcz41_6 : w40.cell? ⟨gb275, 6, none⟩ = some (.int .i64 0) := (blk_cell BK275.out 6).trans rfl; have hcz41_7 : w40.cell? ⟨gb275, 7, none⟩ = some (.string (⟨#[]⟩ : ByteArray)) := (blk_cell BK275.out 7).trans rfl; have hcz41_8 : w40.cell? ⟨gb275, 8, none⟩ = some (.slice none 0 0) := (blk_cell BK275.out 8).trans rfl; have hfz41_0 := blk_frozen BK275.out 0; have hfz41_1 := blk_frozen BK275.out 1; have hfz41_2 := blk_frozen BK275.out 2; have hfz41_3 := blk_frozen BK275.out 3; have hfz41_4 := blk_frozen BK275.out 4; have hfz41_5 := blk_frozen BK275.out 5; have hfz41_6 := blk_frozen BK275.out 6; have hfz41_7 := blk_frozen BK275.out 7; have hfz41_8 := blk_frozen BK275.out 8) | ((with_reducible refine gate_callee (f := 30) rfl ?_); refine goesL_ (some 45) rfl rfl Try.func30 (by kernel_rfl) rfl #[.pointer (some ⟨gb274, 0, none⟩), .int .i64 2] rfl (by (try simp only [List.map_toArray, List.map_cons, List.map_nil]); first | done | rfl | (simp only [List.length_drop, List.length_take]; rfl) | (simp only [ByteArray.size_extract, Nat.min_self]; done) | (simp only [ByteArray.size_extract, Nat.min_self]; rfl)) ?_; (with_reducible refine (vitrineref20_reader_num.calls k gb274 t295 t296 2 t297 t298 t299 w _ ?side1 ?side2 A19.out).mono ?_); (case side1 => repeat (first | (with_reducible first | exact HI274.out | apply IsS59.alloc | apply IsS59.drewN | apply IsS59.drew | apply IsS59.set_0 | apply IsS59.set_1 | refine IsS59.far ?_ NB274_271.out _ | refine IsS59.far ?_ NB274_275.out _) | exact HI274.out)); (case side2 => repeat (first | (with_reducible first | exact HB.out | apply below_alloc | apply pw_below_drewN | apply below_drew1 | refine below_set ?_ (IsS59.ge HI274.out) | refine below_set ?_ GE271.out | refine below_set ?_ GE275.out) | exact HB.out)); rintro e w42 ⟨rfl, hi, hb, hk⟩; refine ⟨_, rfl, ?_⟩; have n0_ := Aside0.mk (KeepBut.blk hk (g' := gb271) (o := .cells #[.int .i64 0, .int .i64 0, .int .i64 0, .int .i64 0, .string (⟨#[]⟩ : ByteArray), .int .i64 0, .int .i64 0, .string (⟨#[]⟩ : ByteArray), .slice none 0 0] 26 (0, 0)) (by (with_reducible repeat (first | refine blk_drewN ?_ _ | refine blk_drew ?_ | refine blk_alloc ?_ _)); refine blk_far ?_ NB271_275.out _; (with_reducible repeat (first | refine blk_drewN ?_ _ | refine blk_drew ?_ | refine blk_alloc ?_ _)); exact BK271.out) NB271_274.out (by simp)); have n1_ := Aside0.mk (KeepBut.blk hk (g' := gb275) (o := .cells #[.int .i64 t276, .int .i64 t279, .int .i64 t282, .int .i64 t285, .string t291, .int .i64 t294, .int .i64 0, .string (⟨#[]⟩ : ByteArray), .slice none 0 0] 26 (0, 0)) (by (with_reducible repeat (first | refine blk_drewN ?_ _ | refine blk_drew ?_ | refine blk_alloc ?_ _)); refine blk_put (cs := #[.int .i64 t276, .int .i64 t279, .int .i64 t282, .int .i64 t285, .string t291, .int .i64 0, .int .i64 0, .string (⟨#[]⟩ : ByteArray), .slice none 0 0]) ?_ 5 _ rfl; (with_reducible repeat (first | refine blk_drewN ?_ _ | refine blk_drew ?_ | refine blk_alloc ?_ _)); exact BK275.out) NB275_274.out (by simp)); have n2_ := Aside0.mk (hb); have n3_ := Aside0.mk (hi); clear BK271; clear BK275; clear HB; clear HI274; have BK271 := n0_; have BK275 := n1_; have HB := n2_; have HI274 := n3_; clear n0_ n1_ n2_ n3_; (try clear hb); (try clear hb2); (try clear hk); (try clear hi); have hcz43_0 : w42.cell? ⟨gb275, 0, none⟩ = some (.int .i64 t276) := (blk_cell BK275.out 0).trans rfl; have hcz43_1 : w42.cell? ⟨gb275, 1, none⟩ = some (.int .i64 t279) := (blk_cell BK275.out 1).trans rfl; have hcz43_2 : w42.cell? ⟨gb275, 2, none⟩ = some (.int .i64 t282) := (blk_cell BK275.out 2).trans rfl; have hcz43_3 : w42.cell? ⟨gb275, 3, none⟩ = some (.int .i64 t285) := (blk_cell BK275.out 3).trans rfl; have hcz43_4 : w42.cell? ⟨gb275, 4, none⟩ = some (.string t291) := (blk_cell BK275.out 4).trans rfl; have hcz43_5 : w42.cell? ⟨gb275, 5, none⟩ = some (.int .i64 t294) := (blk_cell BK275.out 5).trans rfl; have hcz43_6 : w42.cell? ⟨gb275, 6, none⟩ = some (.int .i64 0) := (blk_cell BK275.out 6).trans rfl; have hcz43_7 : w42.cell? ⟨gb275, 7, none⟩ = some (.string (⟨#[]⟩ : ByteArray)) := (blk_cell BK275.out 7).trans rfl; have hcz43_8 : w42.cell? ⟨gb275, 8, none⟩ = some (.slice none 0 0) := (blk_cell BK275.out 8).trans rfl; have hfz43_0 := blk_frozen BK275.out 0; have hfz43_1 := blk_frozen BK275.out 1; have hfz43_2 := blk_frozen BK275.out 2; have hfz43_3 := blk_frozen BK275.out 3; have hfz43_4 := blk_frozen BK275.out 4; have hfz43_5 := blk_frozen BK275.out 5; have hfz43_6 := blk_frozen BK275.out 6; have hfz43_7 := blk_frozen BK275.out 7; have hfz43_8 := blk_frozen BK275.out 8) | ((with_reducible refine gate_callee (f := 30) rfl ?_); refine goesL_ (some 50) rfl rfl Try.func30 (by kernel_rfl) rfl #[.pointer (some ⟨gb274, 0, none⟩), .int .i64 4] rfl (by (try simp only [List.map_toArray, List.map_cons, List.map_nil]); first | done | rfl | (simp only [List.length_drop, List.length_take]; rfl) | (simp only [ByteArray.size_extract, Nat.min_self]; done) | (simp only [ByteArray.size_extract, Nat.min_self]; rfl)) ?_; (with_reducible refine (vitrineref20_reader_num.calls k gb274 t298 t299 4 t300 t301 t302 w _ ?side1 ?side2 A20.out).mono ?_); (case side1 => repeat (first | (with_reducible first | exact HI274.out | apply IsS59.alloc | apply IsS59.drewN | apply IsS59.drew | apply IsS59.set_0 | apply IsS59.set_1 | refine IsS59.far ?_ NB274_271.out _ | refine IsS59.far ?_ NB274_275.out _) | exact HI274.out)); (case side2 => repeat (first | (with_reducible first | exact HB.out | apply below_alloc | apply pw_below_drewN | apply below_drew1 | refine below_set ?_ (IsS59.ge HI274.out) | refine below_set ?_ GE271.out | refine below_set ?_ GE275.out) | exact HB.out)); rintro e w44 ⟨rfl, hi, hb, hk⟩; refine ⟨_, rfl, ?_⟩; have n0_ := Aside0.mk (KeepBut.blk hk (g' := gb271) (o := .cells #[.int .i64 0, .int .i64 0, .int .i64 0, .int .i64 0, .string (⟨#[]⟩ : ByteArray), .int .i64 0, .int .i64 0, .string (⟨#[]⟩ : ByteArray), .slice none 0 0] 26 (0, 0)) (by (with_reducible repeat (first | refine blk_drewN ?_ _ | refine blk_drew ?_ | refine blk_alloc ?_ _)); refine blk_far ?_ NB271_275.out _; (with_reducible repeat (first | refine blk_drewN ?_ _ | refine blk_drew ?_ | refine blk_alloc ?_ _)); exact BK271.out) NB271_274.out (by simp)); have n1_ := Aside0.mk (KeepBut.blk hk (g' := gb275) (o := .cells #[.int .i64 t276, .int .i64 t279, .int .i64 t282, .int .i64 t285, .string t291, .int .i64 t294, .int .i64 t297, .string (⟨#[]⟩ : ByteArray), .slice none 0 0] 26 (0, 0)) (by (with_reducible repeat (first | refine blk_drewN ?_ _ | refine blk_drew ?_ | refine blk_alloc ?_ _)); refine blk_put (cs := #[.int .i64 t276, .int .i64 t279, .int .i64 t282, .int .i64 t285, .string t291, .int .i64 t294, .int .i64 0, .string (⟨#[]⟩ : ByteArray), .slice none 0 0]) ?_ 6 _ rfl; (with_reducible repeat (first | refine blk_drewN ?_ _ | refine blk_drew ?_ | refine blk_alloc ?_ _)); exact BK275.out) NB275_274.out (by simp)); have n2_ := Aside0.mk (hb); have n3_ := Aside0.mk (hi); clear BK271; clear BK275; clear HB; clear HI274; have BK271 := n0_; have BK275 := n1_; have HB := n2_; have HI274 := n3_; clear n0_ n1_ n2_ n3_; (try clear hb); (try clear hb2); (try clear hk); (try clear hi)) | ((with_reducible refine gate_callee (f := 31) rfl ?_); refine goesL_ (some 51) rfl rfl Try.func31 (by kernel_rfl) rfl #[.pointer (some ⟨gb274, 0, none⟩), .int .i64 t300] rfl (by (try simp only [List.map_toArray, List.map_cons, List.map_nil]); first | done | rfl | (simp only [List.length_drop, List.length_take]; rfl) | (simp only [ByteArray.size_extract, Nat.min_self]; done) | (simp only [ByteArray.size_extract, Nat.min_self]; rfl)) ?_; (with_reducible refine (vitrineref20_reader_text.calls gb274 t301 t302 t300 t303 t304 t305 w _ ?side1 ?side2 A21.out).mono ?_); (case side1 => repeat (first | (with_reducible first | exact HI274.out | apply IsS59.alloc | apply IsS59.drewN | apply IsS59.drew | apply IsS59.set_0 | apply IsS59.set_1 | refine IsS59.far ?_ NB274_271.out _ | refine IsS59.far ?_ NB274_275.out _) | exact HI274.out)); (case side2 => repeat (first | (with_reducible first | exact HB.out | apply below_alloc | apply pw_below_drewN | apply below_drew1 | refine below_set ?_ (IsS59.ge HI274.out) | refine below_set ?_ GE271.out | refine below_set ?_ GE275.out) | exact HB.out)); rintro e w45 ⟨rfl, hi, hb, hk⟩; refine ⟨_, rfl, ?_⟩; have n0_ := Aside0.mk (KeepBut.blk hk (g' := gb271) (o := .cells #[.int .i64 0, .int .i64 0, .int .i64 0, .int .i64 0, .string (⟨#[]⟩ : ByteArray), .int .i64 0, .int .i64 0, .string (⟨#[]⟩ : ByteArray), .slice none 0 0] 26 (0, 0)) (by (with_reducible repeat (first | refine blk_drewN ?_ _ | refine blk_drew ?_ | refine blk_alloc ?_ _)); exact BK271.out) NB271_274.out (by simp)); have n1_ := Aside0.mk (KeepBut.blk hk (g' := gb275) (o := .cells #[.int .i64 t276, .int .i64 t279, .int .i64 t282, .int .i64 t285, .string t291, .int .i64 t294, .int .i64 t297, .string (⟨#[]⟩ : ByteArray), .slice none 0 0] 26 (0, 0)) (by (with_reducible repeat (first | refine blk_drewN ?_ _ | refine blk_drew ?_ | refine blk_alloc ?_ _)); exact BK275.out) NB275_274.out (by simp)); have n2_ := Aside0.mk (hb); have n3_ := Aside0.mk (hi); clear BK271; clear BK275; clear HB; clear HI274; have BK271 := n0_; have BK275 := n1_; have HB := n2_; have HI274 := n3_; clear n0_ n1_ n2_ n3_; (try clear hb); (try clear hb2); (try clear hk); (try clear hi); have hcz46_0 : w45.cell? ⟨gb275, 0, none⟩ = some (.int .i64 t276) := (blk_cell BK275.out 0).trans rfl; have hcz46_1 : w45.cell? ⟨gb275, 1, none⟩ = some (.int .i64 t279) := (blk_cell BK275.out 1).trans rfl; have hcz46_2 : w45.cell? ⟨gb275, 2, none⟩ = some (.int .i64 t282) := (blk_cell BK275.out 2).trans rfl; have hcz46_3 : w45.cell? ⟨gb275, 3, none⟩ = some (.int .i64 t285) := (blk_cell BK275.out 3).trans rfl; have hcz46_4 : w45.cell? ⟨gb275, 4, none⟩ = some (.string t291) := (blk_cell BK275.out 4).trans rfl; have hcz46_5 : w45.cell? ⟨gb275, 5, none⟩ = some (.int .i64 t294) := (blk_cell BK275.out 5).trans rfl; have hcz46_6 : w45.cell? ⟨gb275, 6, none⟩ = some (.int .i64 t297) := (blk_cell BK275.out 6).trans rfl; have hcz46_7 : w45.cell? ⟨gb275, 7, none⟩ = some (.string (⟨#[]⟩ : ByteArray)) := (blk_cell BK275.out 7).trans rfl; have hcz46_8 : w45.cell? ⟨gb275, 8, none⟩ = some (.slice none 0 0) := (blk_cell BK275.out 8).trans rfl; have hfz46_0 := blk_frozen BK275.out 0; have hfz46_1 := blk_frozen BK275.out 1; have hfz46_2 := blk_frozen BK275.out 2; have hfz46_3 := blk_frozen BK275.out 3; have hfz46_4 := blk_frozen BK275.out 4; have hfz46_5 := blk_frozen BK275.out 5; have hfz46_6 := blk_frozen BK275.out 6; have hfz46_7 := blk_frozen BK275.out 7; have hfz46_8 := blk_frozen BK275.out 8) | ((with_reducible refine gate_callee (f := 30) rfl ?_); refine goesL_ (some 54) rfl rfl Try.func30 (by kernel_rfl) rfl #[.pointer (some ⟨gb274, 0, none⟩), .int .i64 2] rfl (by (try simp only [List.map_toArray, List.map_cons, List.map_nil]); first | done | rfl | (simp only [List.length_drop, List.length_take]; rfl) | (simp only [ByteArray.size_extract, Nat.min_self]; done) | (simp only [ByteArray.size_extract, Nat.min_self]; rfl)) ?_; (with_reducible refine (vitrineref20_reader_num.calls k gb274 t304 t305 2 t306 t307 t308 w _ ?side1 ?side2 A22.out).mono ?_); (case side1 => repeat (first | (with_reducible first | exact HI274.out | apply IsS59.alloc | apply IsS59.drewN | apply IsS59.drew | apply IsS59.set_0 | apply IsS59.set_1 | refine IsS59.far ?_ NB274_271.out _ | refine IsS59.far ?_ NB274_275.out _) | exact HI274.out)); (case side2 => repeat (first | (with_reducible first | exact HB.out | apply below_alloc | apply pw_below_drewN | apply below_drew1 | refine below_set ?_ (IsS59.ge HI274.out) | refine below_set ?_ GE271.out | refine below_set ?_ GE275.out) | exact HB.out)); rintro e w47 ⟨rfl, hi, hb, hk⟩; refine ⟨_, rfl, ?_⟩; have n0_ := Aside0.mk (KeepBut.blk hk (g' := gb271) (o := .cells #[.int .i64 0, .int .i64 0, .int .i64 0, .int .i64 0, .string (⟨#[]⟩ : ByteArray), .int .i64 0, .int .i64 0, .string (⟨#[]⟩ : ByteArray), .slice none 0 0] 26 (0, 0)) (by (with_reducible repeat (first | refine blk_drewN ?_ _ | refine blk_drew ?_ | refine blk_alloc ?_ _)); refine blk_far ?_ NB271_275.out _; (with_reducible repeat (first | refine blk_drewN ?_ _ | refine blk_drew ?_ | refine blk_alloc ?_ _)); exact BK271.out) NB271_274.out (by simp)); have n1_ := Aside0.mk (KeepBut.blk hk (g' := gb275) (o := .cells #[.int .i64 t276, .int .i64 t279, .int .i64 t282, .int .i64 t285, .string t291, .int .i64 t294, .int .i64 t297, .string t303, .slice none 0 0] 26 (0, 0)) (by (with_reducible repeat (first | refine blk_drewN ?_ _ | refine blk_drew ?_ | refine blk_alloc ?_ _)); refine blk_put (cs := #[.int .i64 t276, .int .i64 t279, .int .i64 t282, .int .i64 t285, .string t291, .int .i64 t294, .int .i64 t297, .string (⟨#[]⟩ : ByteArray), .slice none 0 0]) ?_ 7 _ rfl; (with_reducible repeat (first | refine blk_drewN ?_ _ | refine blk_drew ?_ | refine blk_alloc ?_ _)); exact BK275.out) NB275_274.out (by simp)); have n2_ := Aside0.mk (hb); have n3_ := Aside0.mk (hi); clear BK271; clear BK275; clear HB; clear HI274; have BK271 := n0_; have BK275 := n1_; have HB := n2_; have HI274 := n3_; clear n0_ n1_ n2_ n3_; (try clear hb); (try clear hb2); (try clear hk); (try clear hi)))
          go_loopg [6] k (fun kq v6 w' => ∃ (x6_1 : Int) (x275000_1 : ByteArray) (x275001_1 : Bool) (x276008_1 : List ByteArray) (u276008 : Value), v6 = .int .i64 x6_1 ∧ Aside0 (vitrineref20_Decode.l0 kq x6_1 x275000_1 x275001_1 t276 t279 t282 t285 t291 t294 t297 t303 x276008_1 = some (r1, r2, r3, r4, r5, r6, r7, r8, r9, r10)) ∧ Aside0 (kq ≤ k) ∧ Aside0 (Kd.R Kd.string 9 w' w.heap.size (fun _ => True) u276008 x276008_1) ∧ Aside0 (w'.heap[gb271]? = some (.cells #[.int .i64 0, .int .i64 0, .int .i64 0, .int .i64 0, .string (⟨#[]⟩ : ByteArray), .int .i64 0, .int .i64 0, .string (⟨#[]⟩ : ByteArray), (.slice none 0 0)] 26 (0, 0))) ∧ Aside0 (w'.heap[gb275]? = some (.cells #[.int .i64 t276, .int .i64 t279, .int .i64 t282, .int .i64 t285, .string t291, .int .i64 t294, .int .i64 t297, .string t303, u276008] 26 (0, 0))) ∧ Aside0 (IsS59 w w' gb274 x275000_1 x275001_1) ∧ Aside0 (Below w.heap.size w w'))
          case atStart => exact ⟨(t306), (t307), (t308), (([] : List ByteArray)), (.slice none 0 0), (by first | rfl | (simp; done) | (simp [*]; done)), H', ⟨Nat.le_refl _⟩, ⟨by first | exact Kd.R_nil _ _ _ _ _ | exact Kd.N_nil _ _ _ _ _ | exact Kd.V_nil _ _ _ _ _ | exact Kd.Q_nil _ _ _ _ _ | exact Kd.S_nil _ _ _ _ _⟩, ⟨by (with_reducible repeat (first | refine blk_drewN ?_ _ | refine blk_drew ?_ | refine blk_alloc ?_ _)); exact BK271.out⟩, ⟨by (with_reducible repeat (first | refine blk_drewN ?_ _ | refine blk_drew ?_ | refine blk_alloc ?_ _)); exact BK275.out⟩, ⟨by repeat (first | (with_reducible first | exact HI274.out | apply IsS59.alloc | apply IsS59.drewN | apply IsS59.drew | apply IsS59.set_0 | apply IsS59.set_1 | refine IsS59.far ?_ NB274_271.out _ | refine IsS59.far ?_ NB274_275.out _) | exact HI274.out)⟩, ⟨by repeat (first | (with_reducible first | exact HB.out | apply below_alloc | apply pw_below_drewN | apply below_drew1 | refine below_set ?_ (IsS59.ge HI274.out) | refine below_set ?_ GE271.out | refine below_set ?_ GE275.out) | exact HB.out)⟩⟩
          case round =>
            clear H'
            try clear c1
            try clear c2
            try clear c2b0
            try clear c2b1
            try clear p2
            try clear c3
            try clear c5
            try clear c5b0
            try clear c5b1
            try clear c6
            try clear c6b0
            try clear c6b1
            try clear c8
            try clear c8b0
            try clear c10
            try clear c10b0
            try clear c10b1
            try clear c11
            try clear c11b0
            try clear c16
            try clear c24
            try clear c28
            try clear c29
            try clear c30
            try clear c31
            try clear hcz30_0
            try clear hcz30_1
            try clear hcz30_2
            try clear hcz30_3
            try clear hcz30_4
            try clear hcz30_5
            try clear hcz30_6
            try clear hcz30_7
            try clear hcz30_8
            try clear hcz32_0
            try clear hcz32_1
            try clear hcz32_2
            try clear hcz32_3
            try clear hcz32_4
            try clear hcz32_5
            try clear hcz32_6
            try clear hcz32_7
            try clear hcz32_8
            try clear hcz34_0
            try clear hcz34_1
            try clear hcz34_2
            try clear hcz34_3
            try clear hcz34_4
            try clear hcz34_5
            try clear hcz34_6
            try clear hcz34_7
            try clear hcz34_8
            try clear hcz36_0
            try clear hcz36_1
            try clear hcz36_2
            try clear hcz36_3
            try clear hcz36_4
            try clear hcz36_5
            try clear hcz36_6
            try clear hcz36_7
            try clear hcz36_8
            try clear hcz39_0
            try clear hcz39_1
            try clear hcz39_2
            try clear hcz39_3
            try clear hcz39_4
            try clear hcz39_5
            try clear hcz39_6
            try clear hcz39_7
            try clear hcz39_8
            try clear hcz41_0
            try clear hcz41_1
            try clear hcz41_2
            try clear hcz41_3
            try clear hcz41_4
            try clear hcz41_5
            try clear hcz41_6
            try clear hcz41_7
            try clear hcz41_8
            try clear hcz43_0
            try clear hcz43_1
            try clear hcz43_2
            try clear hcz43_3
            try clear hcz43_4
            try clear hcz43_5
            try clear hcz43_6
            try clear hcz43_7
            try clear hcz43_8
            try clear hcz46_0
            try clear hcz46_1
            try clear hcz46_2
            try clear hcz46_3
            try clear hcz46_4
            try clear hcz46_5
            try clear hcz46_6
            try clear hcz46_7
            try clear hcz46_8
            try clear hcz4_0
            try clear hcz4_1
            try clear hcz4_2
            try clear hcz4_3
            try clear hcz4_4
            try clear hcz4_5
            try clear hcz4_6
            try clear hcz4_7
            try clear hcz4_8
            try clear hfz30_0
            try clear hfz30_1
            try clear hfz30_2
            try clear hfz30_3
            try clear hfz30_4
            try clear hfz30_5
            try clear hfz30_6
            try clear hfz30_7
            try clear hfz30_8
            try clear hfz32_0
            try clear hfz32_1
            try clear hfz32_2
            try clear hfz32_3
            try clear hfz32_4
            try clear hfz32_5
            try clear hfz32_6
            try clear hfz32_7
            try clear hfz32_8
            try clear hfz34_0
            try clear hfz34_1
            try clear hfz34_2
            try clear hfz34_3
            try clear hfz34_4
            try clear hfz34_5
            try clear hfz34_6
            try clear hfz34_7
            try clear hfz34_8
            try clear hfz36_0
            try clear hfz36_1
            try clear hfz36_2
            try clear hfz36_3
            try clear hfz36_4
            try clear hfz36_5
            try clear hfz36_6
            try clear hfz36_7
            try clear hfz36_8
            try clear hfz39_0
            try clear hfz39_1
            try clear hfz39_2
            try clear hfz39_3
            try clear hfz39_4
            try clear hfz39_5
            try clear hfz39_6
            try clear hfz39_7
            try clear hfz39_8
            try clear hfz41_0
            try clear hfz41_1
            try clear hfz41_2
            try clear hfz41_3
            try clear hfz41_4
            try clear hfz41_5
            try clear hfz41_6
            try clear hfz41_7
            try clear hfz41_8
            try clear hfz43_0
            try clear hfz43_1
            try clear hfz43_2
            try clear hfz43_3
            try clear hfz43_4
            try clear hfz43_5
            try clear hfz43_6
            try clear hfz43_7
            try clear hfz43_8
            try clear hfz46_0
            try clear hfz46_1
            try clear hfz46_2
            try clear hfz46_3
            try clear hfz46_4
            try clear hfz46_5
            try clear hfz46_6
            try clear hfz46_7
            try clear hfz46_8
            try clear hfz4_0
            try clear hfz4_1
            try clear hfz4_2
            try clear hfz4_3
            try clear hfz4_4
            try clear hfz4_5
            try clear hfz4_6
            try clear hfz4_7
            try clear hfz4_8
            obtain ⟨x6_1, x275000_1, x275001_1, x276008_1, u276008, rfl, HA, HK1, HO_276008, BK271, BK275, HI274, HB⟩ := hrel
            cases gk with
            | zero => exact absurd HA.out (by simp [vitrineref20_Decode.l0])
            | succ k1 =>
              have H := HA.out
              clear HA
              simp only [vitrineref20_Decode.l0] at H
              have HC48 := Aside0.mk H
              clear H
              go_upto_region 16 with (fail)
              go_cut [63] (fun v63 wc => ∃ (kq : Nat) (x63_47 : Bool), v63 = .bool x63_47 ∧ Aside0 (vitrineref20_Decode.j1 kq x6_1 x63_47 x275000_1 x275001_1 t276 t279 t282 t285 t291 t294 t297 t303 x276008_1 = some (r1, r2, r3, r4, r5, r6, r7, r8, r9, r10)) ∧ Aside0 (kq ≤ k1) ∧ Aside0 (Kd.R Kd.string 9 wc w.heap.size (fun _ => True) u276008 x276008_1) ∧ Aside0 (wc.heap[gb271]? = some (.cells #[.int .i64 0, .int .i64 0, .int .i64 0, .int .i64 0, .string (⟨#[]⟩ : ByteArray), .int .i64 0, .int .i64 0, .string (⟨#[]⟩ : ByteArray), (.slice none 0 0)] 26 (0, 0))) ∧ Aside0 (wc.heap[gb275]? = some (.cells #[.int .i64 t276, .int .i64 t279, .int .i64 t282, .int .i64 t285, .string t291, .int .i64 t294, .int .i64 t297, .string t303, u276008] 26 (0, 0))) ∧ Aside0 (IsS59 w wc gb274 x275000_1 x275001_1) ∧ Aside0 (Below w.heap.size w wc))
              case first =>
                have H := HC48.out
                clear HC48
                by_cases c49 : x6_1 > 0
                · rw [if_pos c49] at H
                  have c49b0 : decide (0 < x6_1) = true := decide_eq_true c49
                  clear c49
                  (first | rw [c49b0] | (simp only [i64_w, i32_w]; rw [c49b0]) | skip)
                  have H' := Aside0.mk H
                  clear H
                  obtain ⟨HGz50, hgz50⟩ := HI274.out
                  have hcz50_0 := cellS59_0 HGz50
                  have hcz50_1 := cellS59_1 HGz50
                  have hfz50_0 := blk_frozen HGz50 0
                  have hfz50_1 := blk_frozen HGz50 1
                  clear HGz50 hgz50
                  go_wp2
                  go_meet
                  case rel => exact ⟨_, (!x275001_1), (by first | rfl | (simp; done) | (simp [*]; done)), H', ⟨by have := HK1.out; first | omega | exact Nat.le_refl _⟩, ⟨by (with_reducible repeat (first | apply Kd.R_alloc | apply Kd.R_drewN | apply Kd.R_drew)); exact HO_276008.out⟩, ⟨by (with_reducible repeat (first | refine blk_drewN ?_ _ | refine blk_drew ?_ | refine blk_alloc ?_ _)); exact BK271.out⟩, ⟨by (with_reducible repeat (first | refine blk_drewN ?_ _ | refine blk_drew ?_ | refine blk_alloc ?_ _)); exact BK275.out⟩, ⟨by repeat (first | (with_reducible first | exact HI274.out | apply IsS59.alloc | apply IsS59.drewN | apply IsS59.drew | apply IsS59.set_0 | apply IsS59.set_1 | refine IsS59.far ?_ NB274_271.out _ | refine IsS59.far ?_ NB274_275.out _) | exact HI274.out)⟩, ⟨by repeat (first | (with_reducible first | exact HB.out | apply below_alloc | apply pw_below_drewN | apply below_drew1 | refine below_set ?_ (IsS59.ge HI274.out) | refine below_set ?_ GE271.out | refine below_set ?_ GE275.out) | exact HB.out)⟩⟩
                · rw [if_neg c49] at H
                  have c49b0 : decide (0 < x6_1) = false := decide_eq_false c49
                  clear c49
                  (first | rw [c49b0] | (simp only [i64_w, i32_w]; rw [c49b0]) | skip)
                  have H' := Aside0.mk H
                  clear H
                  go_wp2
                  go_meet
                  case rel => exact ⟨_, (false), (by first | rfl | (simp; done) | (simp [*]; done)), H', ⟨by have := HK1.out; first | omega | exact Nat.le_refl _⟩, ⟨by (with_reducible repeat (first | apply Kd.R_alloc | apply Kd.R_drewN | apply Kd.R_drew)); exact HO_276008.out⟩, ⟨by (with_reducible repeat (first | refine blk_drewN ?_ _ | refine blk_drew ?_ | refine blk_alloc ?_ _)); exact BK271.out⟩, ⟨by (with_reducible repeat (first | refine blk_drewN ?_ _ | refine blk_drew ?_ | refine blk_alloc ?_ _)); exact BK275.out⟩, ⟨by repeat (first | (with_reducible first | exact HI274.out | apply IsS59.alloc | apply IsS59.drewN | apply IsS59.drew | apply IsS59.set_0 | apply IsS59.set_1 | refine IsS59.far ?_ NB274_271.out _ | refine IsS59.far ?_ NB274_275.out _) | exact HI274.out)⟩, ⟨by repeat (first | (with_reducible first | exact HB.out | apply below_alloc | apply pw_below_drewN | apply below_drew1 | refine below_set ?_ (IsS59.ge HI274.out) | refine below_set ?_ GE271.out | refine below_set ?_ GE275.out) | exact HB.out)⟩⟩
              case rest =>
                clear HC48
                try clear c1
                try clear c2
                try clear c2b0
                try clear c2b1
                try clear p2
                try clear c3
                try clear c4
                try clear c5
                try clear c5b0
                try clear c5b1
                try clear c6
                try clear c6b0
                try clear c6b1
                try clear c8
                try clear c8b0
                try clear c10
                try clear c10b0
                try clear c10b1
                try clear c11
                try clear c11b0
                try clear c16
                try clear c24
                try clear c28
                try clear c29
                try clear c30
                try clear c31
                try clear c49
                try clear c49b0
                try clear hcz30_0
                try clear hcz30_1
                try clear hcz30_2
                try clear hcz30_3
                try clear hcz30_4
                try clear hcz30_5
                try clear hcz30_6
                try clear hcz30_7
                try clear hcz30_8
                try clear hcz32_0
                try clear hcz32_1
                try clear hcz32_2
                try clear hcz32_3
                try clear hcz32_4
                try clear hcz32_5
                try clear hcz32_6
                try clear hcz32_7
                try clear hcz32_8
                try clear hcz34_0
                try clear hcz34_1
                try clear hcz34_2
                try clear hcz34_3
                try clear hcz34_4
                try clear hcz34_5
                try clear hcz34_6
                try clear hcz34_7
                try clear hcz34_8
                try clear hcz36_0
                try clear hcz36_1
                try clear hcz36_2
                try clear hcz36_3
                try clear hcz36_4
                try clear hcz36_5
                try clear hcz36_6
                try clear hcz36_7
                try clear hcz36_8
                try clear hcz39_0
                try clear hcz39_1
                try clear hcz39_2
                try clear hcz39_3
                try clear hcz39_4
                try clear hcz39_5
                try clear hcz39_6
                try clear hcz39_7
                try clear hcz39_8
                try clear hcz41_0
                try clear hcz41_1
                try clear hcz41_2
                try clear hcz41_3
                try clear hcz41_4
                try clear hcz41_5
                try clear hcz41_6
                try clear hcz41_7
                try clear hcz41_8
                try clear hcz43_0
                try clear hcz43_1
                try clear hcz43_2
                try clear hcz43_3
                try clear hcz43_4
                try clear hcz43_5
                try clear hcz43_6
                try clear hcz43_7
                try clear hcz43_8
                try clear hcz46_0
                try clear hcz46_1
                try clear hcz46_2
                try clear hcz46_3
                try clear hcz46_4
                try clear hcz46_5
                try clear hcz46_6
                try clear hcz46_7
                try clear hcz46_8
                try clear hcz4_0
                try clear hcz4_1
                try clear hcz4_2
                try clear hcz4_3
                try clear hcz4_4
                try clear hcz4_5
                try clear hcz4_6
                try clear hcz4_7
                try clear hcz4_8
                try clear hcz50_0
                try clear hcz50_1
                try clear hfz30_0
                try clear hfz30_1
                try clear hfz30_2
                try clear hfz30_3
                try clear hfz30_4
                try clear hfz30_5
                try clear hfz30_6
                try clear hfz30_7
                try clear hfz30_8
                try clear hfz32_0
                try clear hfz32_1
                try clear hfz32_2
                try clear hfz32_3
                try clear hfz32_4
                try clear hfz32_5
                try clear hfz32_6
                try clear hfz32_7
                try clear hfz32_8
                try clear hfz34_0
                try clear hfz34_1
                try clear hfz34_2
                try clear hfz34_3
                try clear hfz34_4
                try clear hfz34_5
                try clear hfz34_6
                try clear hfz34_7
                try clear hfz34_8
                try clear hfz36_0
                try clear hfz36_1
                try clear hfz36_2
                try clear hfz36_3
                try clear hfz36_4
                try clear hfz36_5
                try clear hfz36_6
                try clear hfz36_7
                try clear hfz36_8
                try clear hfz39_0
                try clear hfz39_1
                try clear hfz39_2
                try clear hfz39_3
                try clear hfz39_4
                try clear hfz39_5
                try clear hfz39_6
                try clear hfz39_7
                try clear hfz39_8
                try clear hfz41_0
                try clear hfz41_1
                try clear hfz41_2
                try clear hfz41_3
                try clear hfz41_4
                try clear hfz41_5
                try clear hfz41_6
                try clear hfz41_7
                try clear hfz41_8
                try clear hfz43_0
                try clear hfz43_1
                try clear hfz43_2
                try clear hfz43_3
                try clear hfz43_4
                try clear hfz43_5
                try clear hfz43_6
                try clear hfz43_7
                try clear hfz43_8
                try clear hfz46_0
                try clear hfz46_1
                try clear hfz46_2
                try clear hfz46_3
                try clear hfz46_4
                try clear hfz46_5
                try clear hfz46_6
                try clear hfz46_7
                try clear hfz46_8
                try clear hfz4_0
                try clear hfz4_1
                try clear hfz4_2
                try clear hfz4_3
                try clear hfz4_4
                try clear hfz4_5
                try clear hfz4_6
                try clear hfz4_7
                try clear hfz4_8
                try clear hfz50_0
                try clear hfz50_1
                try clear p2
                obtain ⟨kq, x63_47, rfl, HA, HJ47, HO_276008, BK271, BK275, HI274, HB⟩ := hcut
                cases kq with
                | zero => exact absurd HA.out (by simp [vitrineref20_Decode.j1])
                | succ kj47 =>
                  have H := HA.out
                  clear HA
                  simp only [vitrineref20_Decode.j1] at H
                  by_cases c51 : x63_47 = true
                  · subst c51
                    have H1 : ((vitrineref20_reader_num.f kj47 x275000_1 x275001_1 4).bind fun bt309 => ((vitrineref20_reader_text.f bt309.2.1 bt309.2.2 bt309.1).bind fun bt312 => (if x276008_1.length < 8796093022208 then (vitrineref20_Decode.l0 kj47 (wrap64 (x6_1 - 1)) bt312.2.1 bt312.2.2 t276 t279 t282 t285 t291 t294 t297 t303 (x276008_1 ++ [bt312.1])) else (none)))) = some (r1, r2, r3, r4, r5, r6, r7, r8, r9, r10) := by rw [if_pos rfl] at H; exact H
                    clear H
                    have H := H1
                    clear H1
                    replace H := Option.bind_eq_some_iff.mp H
                    obtain ⟨⟨t309, t310, t311⟩, A520, H⟩ := H
                    replace H : ((vitrineref20_reader_text.f t310 t311 t309).bind fun bt312 => (if x276008_1.length < 8796093022208 then (vitrineref20_Decode.l0 kj47 (wrap64 (x6_1 - 1)) bt312.2.1 bt312.2.2 t276 t279 t282 t285 t291 t294 t297 t303 (x276008_1 ++ [bt312.1])) else (none))) = some (r1, r2, r3, r4, r5, r6, r7, r8, r9, r10) := H
                    have A52 := Aside0.mk A520
                    clear A520
                    replace H := Option.bind_eq_some_iff.mp H
                    obtain ⟨⟨t312, t313, t314⟩, A530, H⟩ := H
                    replace H : (if x276008_1.length < 8796093022208 then (vitrineref20_Decode.l0 kj47 (wrap64 (x6_1 - 1)) t313 t314 t276 t279 t282 t285 t291 t294 t297 t303 (x276008_1 ++ [t312])) else (none)) = some (r1, r2, r3, r4, r5, r6, r7, r8, r9, r10) := H
                    have A53 := Aside0.mk A530
                    clear A530
                    by_cases c54 : x276008_1.length < 8796093022208
                    · rw [if_pos c54] at H
                      have LMc54 := Aside0.mk c54
                      clear c54
                      obtain ⟨y315, hy315⟩ : ∃ y_ : List ByteArray, y_ = (x276008_1 ++ [t312]) := ⟨_, rfl⟩
                      replace H : (vitrineref20_Decode.l0 kj47 (wrap64 (x6_1 - 1)) t313 t314 t276 t279 t282 t285 t291 t294 t297 t303 y315) = some (r1, r2, r3, r4, r5, r6, r7, r8, r9, r10) := by first | (rw [hy315]; with_reducible exact H) | (have H2_ := (Option.bind_some _ _).symm.trans H; rw [hy315]; with_reducible exact H2_) | (have H2_ := (Option.bind_some _ _).symm.trans H; with_reducible exact H2_) | with_reducible exact H | (rw [hy315]; exact H) | exact H
                      have Ny315 := Aside0.mk hy315
                      clear hy315
                      have H' := Aside0.mk H
                      clear H
                      try go_wp2
                      have n0_ := Aside0.mk (Kd.R_drew HO_276008.out)
                      have n1_ := Aside0.mk (blk_drew BK271.out)
                      have n2_ := Aside0.mk (blk_drew BK275.out)
                      have n3_ := Aside0.mk (IsS59.drew HI274.out)
                      have n4_ := Aside0.mk (below_drew1 HB.out)
                      clear HO_276008
                      clear BK271
                      clear BK275
                      clear HI274
                      clear HB
                      have HO_276008 := n0_
                      have BK271 := n1_
                      have BK275 := n2_
                      have HI274 := n3_
                      have HB := n4_
                      clear n0_ n1_ n2_ n3_ n4_
                      refine start_ (n := 10) (S := fun w' => w'.cell? ⟨gb275, 0, none⟩ = some (.int .i64 t276) ∧ w'.cell? ⟨gb275, 1, none⟩ = some (.int .i64 t279) ∧ w'.cell? ⟨gb275, 2, none⟩ = some (.int .i64 t282) ∧ w'.cell? ⟨gb275, 3, none⟩ = some (.int .i64 t285) ∧ w'.cell? ⟨gb275, 4, none⟩ = some (.string t291) ∧ w'.cell? ⟨gb275, 5, none⟩ = some (.int .i64 t294) ∧ w'.cell? ⟨gb275, 6, none⟩ = some (.int .i64 t297) ∧ w'.cell? ⟨gb275, 7, none⟩ = some (.string t303) ∧ w'.cell? ⟨gb275, 8, none⟩ = some (u276008)) (ds := [9]) #[false, false, false, false, false, false, false, false, false, false] (by kernel_rfl) rfl rfl ⟨(blk_cell BK275.out 0).trans rfl, (blk_cell BK275.out 1).trans rfl, (blk_cell BK275.out 2).trans rfl, (blk_cell BK275.out 3).trans rfl, (blk_cell BK275.out 4).trans rfl, (blk_cell BK275.out 5).trans rfl, (blk_cell BK275.out 6).trans rfl, (blk_cell BK275.out 7).trans rfl, (blk_cell BK275.out 8).trans rfl⟩ (fun hHeld => ?_); refine with_tabW vitrineref20_Decode.tab18 vitrineref20_Decode.bits18 (fun HT_ HW_ => ?_)
                      generalize wc.drew = w55 at HO_276008 BK271 BK275 HI274 HB hHeld ⊢
                      refine pure_ (i := 0) (N := some 66) (v := ?_) (a' := ?_) #[true, false, false, false, false, false, false, false, false, false] rfl rfl (any_of HT_.out (by kernel_rfl)) (fun _ _ _ h => h) (Or.inl ⟨by rfl, ?_⟩) ?_ ?_
                      rotate_left
                      · intro w'
                        go_simp
                        with_reducible rfl
                      rotate_left
                      · simp only [Act.put, List.setIfInBounds_toArray, List.set_cons_zero, List.set_cons_succ, i64_w, i32_w]
                        rfl
                      refine pure_ (i := 2) (N := some 68) (v := ?_) (a' := ?_) #[true, false, true, false, false, false, false, false, false, false] rfl rfl (any_of HT_.out (by kernel_rfl)) (fun _ _ _ h => h) (Or.inl ⟨by rfl, ?_⟩) ?_ ?_
                      rotate_left
                      · intro w'
                        go_simp
                        with_reducible rfl
                      rotate_left
                      · simp only [Act.put, List.setIfInBounds_toArray, List.set_cons_zero, List.set_cons_succ, i64_w, i32_w]
                        rfl
                      refine pure_ (i := 3) (N := some 69) (v := ?_) (a' := ?_) #[true, false, true, true, false, false, false, false, false, false] rfl rfl (any_of HT_.out (by kernel_rfl)) (fun _ _ _ h => h) (Or.inl ⟨by rfl, ?_⟩) ?_ ?_
                      rotate_left
                      · intro w'
                        go_simp
                        with_reducible rfl
                      rotate_left
                      · simp only [Act.put, List.setIfInBounds_toArray, List.set_cons_zero, List.set_cons_succ, i64_w, i32_w]
                        rfl
                      refine take_ (i := 1) (N := some 67) (v := ?_) (a' := ?_) #[true, true, true, true, false, false, false, false, false, false] rfl rfl (take_ofW HT_.out HW_.out (by kernel_rfl)) (fun _ _ _ h => h) (Or.inl ⟨by rfl, ?_⟩) hHeld ?_ ?_
                      rotate_left
                      · rintro w' ⟨s0, s1, s2, s3, s4, s5, s6, s7, s8⟩
                        go_simp
                        with_reducible rfl
                      rotate_left
                      · simp only [Act.put, List.setIfInBounds_toArray, List.set_cons_zero, List.set_cons_succ, i64_w, i32_w]
                        rfl
                      refine one_ (i := 4) (N := some 70) #[true, true, true, true, true, false, false, false, false, false] rfl rfl (one_of HT_.out (by kernel_rfl)) (by decide) (fun K hK => ?_)
                      refine goes_ Try.func30 (by kernel_rfl) rfl #[.pointer (some ⟨gb274, 0, none⟩), .int .i64 4] (by rfl) rfl rfl (by (try simp only [List.map_toArray, List.map_cons, List.map_nil]); first | done | rfl | (simp only [List.length_drop, List.length_take]; rfl) | (simp only [ByteArray.size_extract, Nat.min_self]; done) | (simp only [ByteArray.size_extract, Nat.min_self]; rfl)) ?_
                      with_reducible refine (vitrineref20_reader_num.calls kj47 gb274 x275000_1 x275001_1 4 t309 t310 t311 w _ ?side1 ?side2 A52.out).mono ?_
                      (case side1 => repeat (first | (with_reducible first | exact HI274.out | apply IsS59.alloc | apply IsS59.drewN | apply IsS59.drew | apply IsS59.set_0 | apply IsS59.set_1 | refine IsS59.far ?_ NB274_271.out _ | refine IsS59.far ?_ NB274_275.out _) | exact HI274.out))
                      (case side2 => repeat (first | (with_reducible first | exact HB.out | apply below_alloc | apply pw_below_drewN | apply below_drew1 | refine below_set ?_ (IsS59.ge HI274.out) | refine below_set ?_ GE271.out | refine below_set ?_ GE275.out) | exact HB.out))
                      rintro e w56 ⟨rfl, hi, hb, hk⟩
                      refine ⟨_, rfl, ?_⟩
                      have n0_ := Aside0.mk (Kd.R_mono (Kd.R_keep (IsS59.apart (show IsS59 w _ gb274 x275000_1 x275001_1 from by repeat (first | (with_reducible first | exact HI274.out | apply IsS59.alloc | apply IsS59.drewN | apply IsS59.drew | apply IsS59.set_0 | apply IsS59.set_1 | refine IsS59.far ?_ NB274_271.out _ | refine IsS59.far ?_ NB274_275.out _) | exact HI274.out)) (by (with_reducible repeat (first | apply Kd.R_alloc | apply Kd.R_drewN | apply Kd.R_drew)); exact HO_276008.out) (by decide)) hk (fun _ h => h.2)) (fun _ h => h.1))
                      have n1_ := Aside0.mk (KeepBut.blk hk (g' := gb271) (o := .cells #[.int .i64 0, .int .i64 0, .int .i64 0, .int .i64 0, .string (⟨#[]⟩ : ByteArray), .int .i64 0, .int .i64 0, .string (⟨#[]⟩ : ByteArray), .slice none 0 0] 26 (0, 0)) (by (with_reducible repeat (first | refine blk_drewN ?_ _ | refine blk_drew ?_ | refine blk_alloc ?_ _)); exact BK271.out) NB271_274.out (by simp))
                      have n2_ := Aside0.mk (KeepBut.blk hk (g' := gb275) (o := .cells #[.int .i64 t276, .int .i64 t279, .int .i64 t282, .int .i64 t285, .string t291, .int .i64 t294, .int .i64 t297, .string t303, u276008] 26 (0, 0)) (by (with_reducible repeat (first | refine blk_drewN ?_ _ | refine blk_drew ?_ | refine blk_alloc ?_ _)); exact BK275.out) NB275_274.out (by simp))
                      have n3_ := Aside0.mk (hb)
                      have n4_ := Aside0.mk (hi)
                      clear HO_276008
                      clear BK271
                      clear BK275
                      clear HB
                      clear HI274
                      have HO_276008 := n0_
                      have BK271 := n1_
                      have BK275 := n2_
                      have HB := n3_
                      have HI274 := n4_
                      clear n0_ n1_ n2_ n3_ n4_
                      (try clear hb)
                      (try clear hb2)
                      (try clear hk)
                      (try clear hi)
                      refine hK.out _ _ ⟨(blk_cell BK275.out 0).trans rfl, (blk_cell BK275.out 1).trans rfl, (blk_cell BK275.out 2).trans rfl, (blk_cell BK275.out 3).trans rfl, (blk_cell BK275.out 4).trans rfl, (blk_cell BK275.out 5).trans rfl, (blk_cell BK275.out 6).trans rfl, (blk_cell BK275.out 7).trans rfl, (blk_cell BK275.out 8).trans rfl⟩ (fun hHeld => ?_)
                      clear hK K
                      refine norm_ (a' := ?_) ?_ ?_
                      rotate_left
                      · show Act.put _ (some 70) _ = _
                        simp only [Act.put, List.setIfInBounds_toArray, List.set_cons_zero, List.set_cons_succ, i64_w, i32_w]
                        rfl
                      refine one_ (i := 5) (N := some 71) #[true, true, true, true, true, true, false, false, false, false] rfl rfl (one_of HT_.out (by kernel_rfl)) (by decide) (fun K hK => ?_)
                      refine goes_ Try.func31 (by kernel_rfl) rfl #[.pointer (some ⟨gb274, 0, none⟩), .int .i64 t309] (by rfl) rfl rfl (by (try simp only [List.map_toArray, List.map_cons, List.map_nil]); first | done | rfl | (simp only [List.length_drop, List.length_take]; rfl) | (simp only [ByteArray.size_extract, Nat.min_self]; done) | (simp only [ByteArray.size_extract, Nat.min_self]; rfl)) ?_
                      with_reducible refine (vitrineref20_reader_text.calls gb274 t310 t311 t309 t312 t313 t314 w _ ?side1 ?side2 A53.out).mono ?_
                      (case side1 => repeat (first | (with_reducible first | exact HI274.out | apply IsS59.alloc | apply IsS59.drewN | apply IsS59.drew | apply IsS59.set_0 | apply IsS59.set_1 | refine IsS59.far ?_ NB274_271.out _ | refine IsS59.far ?_ NB274_275.out _) | exact HI274.out))
                      (case side2 => repeat (first | (with_reducible first | exact HB.out | apply below_alloc | apply pw_below_drewN | apply below_drew1 | refine below_set ?_ (IsS59.ge HI274.out) | refine below_set ?_ GE271.out | refine below_set ?_ GE275.out) | exact HB.out))
                      rintro e w57 ⟨rfl, hi, hb, hk⟩
                      refine ⟨_, rfl, ?_⟩
                      have n0_ := Aside0.mk (Kd.R_mono (Kd.R_keep (IsS59.apart (show IsS59 w _ gb274 t310 t311 from by repeat (first | (with_reducible first | exact HI274.out | apply IsS59.alloc | apply IsS59.drewN | apply IsS59.drew | apply IsS59.set_0 | apply IsS59.set_1 | refine IsS59.far ?_ NB274_271.out _ | refine IsS59.far ?_ NB274_275.out _) | exact HI274.out)) (by (with_reducible repeat (first | apply Kd.R_alloc | apply Kd.R_drewN | apply Kd.R_drew)); exact HO_276008.out) (by decide)) hk (fun _ h => h.2)) (fun _ h => h.1))
                      have n1_ := Aside0.mk (KeepBut.blk hk (g' := gb271) (o := .cells #[.int .i64 0, .int .i64 0, .int .i64 0, .int .i64 0, .string (⟨#[]⟩ : ByteArray), .int .i64 0, .int .i64 0, .string (⟨#[]⟩ : ByteArray), .slice none 0 0] 26 (0, 0)) (by (with_reducible repeat (first | refine blk_drewN ?_ _ | refine blk_drew ?_ | refine blk_alloc ?_ _)); exact BK271.out) NB271_274.out (by simp))
                      have n2_ := Aside0.mk (KeepBut.blk hk (g' := gb275) (o := .cells #[.int .i64 t276, .int .i64 t279, .int .i64 t282, .int .i64 t285, .string t291, .int .i64 t294, .int .i64 t297, .string t303, u276008] 26 (0, 0)) (by (with_reducible repeat (first | refine blk_drewN ?_ _ | refine blk_drew ?_ | refine blk_alloc ?_ _)); exact BK275.out) NB275_274.out (by simp))
                      have n3_ := Aside0.mk (hb)
                      have n4_ := Aside0.mk (hi)
                      clear HO_276008
                      clear BK271
                      clear BK275
                      clear HB
                      clear HI274
                      have HO_276008 := n0_
                      have BK271 := n1_
                      have BK275 := n2_
                      have HB := n3_
                      have HI274 := n4_
                      clear n0_ n1_ n2_ n3_ n4_
                      (try clear hb)
                      (try clear hb2)
                      (try clear hk)
                      (try clear hi)
                      refine hK.out _ _ ⟨(blk_cell BK275.out 0).trans rfl, (blk_cell BK275.out 1).trans rfl, (blk_cell BK275.out 2).trans rfl, (blk_cell BK275.out 3).trans rfl, (blk_cell BK275.out 4).trans rfl, (blk_cell BK275.out 5).trans rfl, (blk_cell BK275.out 6).trans rfl, (blk_cell BK275.out 7).trans rfl, (blk_cell BK275.out 8).trans rfl⟩ (fun hHeld => ?_)
                      clear hK K
                      refine norm_ (a' := ?_) ?_ ?_
                      rotate_left
                      · show Act.put _ (some 71) _ = _
                        simp only [Act.put, List.setIfInBounds_toArray, List.set_cons_zero, List.set_cons_succ, i64_w, i32_w]
                        rfl
                      refine one_ (i := 6) (N := some 72) #[true, true, true, true, true, true, true, false, false, false] rfl rfl (one_of HT_.out (by kernel_rfl)) (by decide) (fun K hK => ?_)
                      refine value_ (w1 := ?_) (v := ?_) (by rfl) rfl ?_ ?_
                      rotate_left 2
                      · go_simp
                        constructor
                        · rfl
                        · rfl
                      refine hK.out _ _ ⟨(blk_cell (blk_alloc BK275.out _) 0).trans rfl, (blk_cell (blk_alloc BK275.out _) 1).trans rfl, (blk_cell (blk_alloc BK275.out _) 2).trans rfl, (blk_cell (blk_alloc BK275.out _) 3).trans rfl, (blk_cell (blk_alloc BK275.out _) 4).trans rfl, (blk_cell (blk_alloc BK275.out _) 5).trans rfl, (blk_cell (blk_alloc BK275.out _) 6).trans rfl, (blk_cell (blk_alloc BK275.out _) 7).trans rfl, (blk_cell (blk_alloc BK275.out _) 8).trans rfl⟩ (fun hHeld => ?_)
                      clear hK K
                      refine norm_ (a' := ?_) ?_ ?_
                      rotate_left
                      · show Act.put _ (some 72) _ = _
                        simp only [Act.put, List.setIfInBounds_toArray, List.set_cons_zero, List.set_cons_succ, i64_w, i32_w]
                        rfl
                      refine one_ (i := 7) (N := some 73) #[true, true, true, true, true, true, true, true, false, false] rfl rfl (one_of HT_.out (by kernel_rfl)) (by decide) (fun K hK => ?_)
                      refine Kd.R_append_step Kd.string (w0 := w) w.heap.size (by rfl) (.tmp 67) (.tmp 72) 24 9 (.string ⟨#[]⟩) 16 rfl Try.underlying24 info9 rfl (by decide) (by omega) u276008 x276008_1 t312 [.string t312] (fun _ => True) (fun _ => False) rfl rfl ?aP (fun _ hk => hk.elim) ?aF ?aO ?aB ?aS ?aL ?_
                      (case aP => exact rfl)
                      (case aB => exact (by repeat (first | (with_reducible first | exact HB.out | apply below_alloc | apply pw_below_drewN | apply below_drew1 | refine below_set ?_ (IsS59.ge HI274.out) | refine below_set ?_ GE271.out | refine below_set ?_ GE275.out) | exact HB.out)))
                      (case aF => exact (fun _ _ => trivial))
                      (case aO => exact (by (with_reducible repeat (first | apply Kd.R_alloc | apply Kd.R_drewN | apply Kd.R_drew)); exact HO_276008.out))
                      (case aS => exact (below_size (by repeat (first | (with_reducible first | exact HB.out | apply below_alloc | apply pw_below_drewN | apply below_drew1 | refine below_set ?_ (IsS59.ge HI274.out) | refine below_set ?_ GE271.out | refine below_set ?_ GE275.out) | exact HB.out))))
                      (case aL => have := LMc54.out; omega)
                      intro v316 w58 ho hb hg hat
                      rw [← Ny315.out] at ho
                      have n0_ := Aside0.mk (blk_grown (g := gb271) (o := .cells #[.int .i64 0, .int .i64 0, .int .i64 0, .int .i64 0, .string (⟨#[]⟩ : ByteArray), .int .i64 0, .int .i64 0, .string (⟨#[]⟩ : ByteArray), .slice none 0 0] 26 (0, 0)) (by (with_reducible repeat (first | refine blk_drewN ?_ _ | refine blk_drew ?_ | refine blk_alloc ?_ _)); exact BK271.out) hg (Kd.R_ne HO_276008.out BK271.out (by decide)))
                      have n1_ := Aside0.mk (blk_grown (g := gb275) (o := .cells #[.int .i64 t276, .int .i64 t279, .int .i64 t282, .int .i64 t285, .string t291, .int .i64 t294, .int .i64 t297, .string t303, u276008] 26 (0, 0)) (by (with_reducible repeat (first | refine blk_drewN ?_ _ | refine blk_drew ?_ | refine blk_alloc ?_ _)); exact BK275.out) hg (Kd.R_ne HO_276008.out BK275.out (by decide)))
                      have n2_ := Aside0.mk (IsS59.grown (by repeat (first | (with_reducible first | exact HI274.out | apply IsS59.alloc | apply IsS59.drewN | apply IsS59.drew | apply IsS59.set_0 | apply IsS59.set_1 | refine IsS59.far ?_ NB274_271.out _ | refine IsS59.far ?_ NB274_275.out _) | exact HI274.out)) hg (IsS59.own_ne HI274.out HO_276008.out (by decide)))
                      have n3_ := Aside0.mk (hb)
                      have n4_ := Aside0.mk (ho)
                      clear BK271
                      clear BK275
                      clear HI274
                      clear HB
                      clear HO_276008
                      have BK271 := n0_
                      have BK275 := n1_
                      have HI274 := n2_
                      have HB := n3_
                      have HO317 := n4_
                      clear n0_ n1_ n2_ n3_ n4_
                      clear ho hb hg hat
                      obtain ⟨Ao59, co59, eo59⟩ := Kd.R_slice HO317.out
                      (first | subst eo59 | (injection eo59 with f1_ f2_ f3_; have f4_ := f1_.symm; have f5_ := f3_.symm; clear f1_ f2_ f3_; subst f4_; subst f5_))
                      refine hK.out _ _ ⟨(blk_cell BK275.out 0).trans rfl, (blk_cell BK275.out 1).trans rfl, (blk_cell BK275.out 2).trans rfl, (blk_cell BK275.out 3).trans rfl, (blk_cell BK275.out 4).trans rfl, (blk_cell BK275.out 5).trans rfl, (blk_cell BK275.out 6).trans rfl, (blk_cell BK275.out 7).trans rfl, (blk_cell BK275.out 8).trans rfl⟩ (fun hHeld => ?_)
                      clear hK K
                      refine norm_ (a' := ?_) ?_ ?_
                      rotate_left
                      · show Act.put _ (some 73) _ = _
                        simp only [Act.put, List.setIfInBounds_toArray, List.set_cons_zero, List.set_cons_succ, i64_w, i32_w]
                        rfl
                      refine pure_ (i := 8) (N := some 74) (v := ?_) (a' := ?_) #[true, true, true, true, true, true, true, true, true, false] rfl rfl (any_of HT_.out (by kernel_rfl)) (fun _ _ _ h => h) (Or.inl ⟨by rfl, ?_⟩) ?_ ?_
                      rotate_left
                      · intro w'
                        go_simp
                        with_reducible rfl
                      rotate_left
                      · simp only [Act.put, List.setIfInBounds_toArray, List.set_cons_zero, List.set_cons_succ, i64_w, i32_w]
                        rfl
                      refine last_ (i := 9) (N := none) #[true, true, true, true, true, true, true, true, true, true] rfl rfl (one_of HT_.out (by kernel_rfl)) (by decide) (fun K hK => ?_)
                      have hs60 : w58.cell? ⟨gb275, 8, none⟩ = some (u276008) := (blk_cell BK275.out 8).trans rfl
                      have hfs60 := blk_frozen BK275.out 8
                      have hns60_0 := NB271_275.out
                      have hms60_0 := NB275_271.out
                      refine skip_ (w1 := ?_) (by rfl) rfl ?_ ?_
                      rotate_left
                      · go_simp
                        rfl
                      refine hK.out _ _ ?_
                      clear hK K
                      refine done_ (done_of HT_.out (by kernel_rfl)) ?_
                      try go_wp2
                      go_roundg kj47
                      case measure => have := HK1.out; have := HJ47.out; omega
                      case rel => exact ⟨(wrap64 (x6_1 - 1)), (t313), (t314), (y315), (.slice Ao59 y315.length co59), (by first | rfl | (simp; done) | (simp [*]; done)), H', ⟨by have := HK1.out; have := HJ47.out; omega⟩, ⟨by (with_reducible repeat (first | apply Kd.R_alloc | apply Kd.R_drewN | apply Kd.R_drew)); exact Kd.R_mono (Kd.R_far (p := ⟨gb275, 8, none⟩) (Kd.R_types HO317.out BK275.out (by decide)) (fun _ hk => hk.2) (.slice Ao59 y315.length co59)) (fun _ hk => trivial)⟩, ⟨by (with_reducible repeat (first | refine blk_drewN ?_ _ | refine blk_drew ?_ | refine blk_alloc ?_ _)); refine blk_far ?_ NB271_275.out _; (with_reducible repeat (first | refine blk_drewN ?_ _ | refine blk_drew ?_ | refine blk_alloc ?_ _)); exact BK271.out⟩, ⟨by (with_reducible repeat (first | refine blk_drewN ?_ _ | refine blk_drew ?_ | refine blk_alloc ?_ _)); refine blk_put (cs := #[.int .i64 t276, .int .i64 t279, .int .i64 t282, .int .i64 t285, .string t291, .int .i64 t294, .int .i64 t297, .string t303, u276008]) ?_ 8 _ rfl; (with_reducible repeat (first | refine blk_drewN ?_ _ | refine blk_drew ?_ | refine blk_alloc ?_ _)); exact BK275.out⟩, ⟨by repeat (first | (with_reducible first | exact HI274.out | apply IsS59.alloc | apply IsS59.drewN | apply IsS59.drew | apply IsS59.set_0 | apply IsS59.set_1 | refine IsS59.far ?_ NB274_271.out _ | refine IsS59.far ?_ NB274_275.out _) | exact HI274.out)⟩, ⟨by repeat (first | (with_reducible first | exact HB.out | apply below_alloc | apply pw_below_drewN | apply below_drew1 | refine below_set ?_ (IsS59.ge HI274.out) | refine below_set ?_ GE271.out | refine below_set ?_ GE275.out) | exact HB.out)⟩⟩
                    · rw [if_neg c54] at H
                      exact absurd H (by simp)
                  · replace c51 := Bool.eq_false_iff.mpr c51
                    subst c51
                    have H1 : (if x275001_1 = true then (some (0, 0, 0, 0, (⟨#[]⟩ : ByteArray), 0, 0, (⟨#[]⟩ : ByteArray), ([] : List ByteArray), 3)) else (if x275000_1.toList = ([] : List UInt8) then ((vitrineref20_Right.f kj47 t276 t279 t282 t285 t291 t294 t297 t303 x276008_1).bind fun t318 => (if t318 = true then (some (t276, t279, t282, t285, t291, t294, t297, t303, x276008_1, 0)) else (some (0, 0, 0, 0, (⟨#[]⟩ : ByteArray), 0, 0, (⟨#[]⟩ : ByteArray), ([] : List ByteArray), 60)))) else (some (0, 0, 0, 0, (⟨#[]⟩ : ByteArray), 0, 0, (⟨#[]⟩ : ByteArray), ([] : List ByteArray), 4)))) = some (r1, r2, r3, r4, r5, r6, r7, r8, r9, r10) := by rw [if_neg (show ¬ (false = true) by decide)] at H; exact H
                    clear H
                    have H := H1
                    clear H1
                    by_cases c61 : x275001_1 = true
                    · subst c61
                      have H1 : (some (0, 0, 0, 0, (⟨#[]⟩ : ByteArray), 0, 0, (⟨#[]⟩ : ByteArray), ([] : List ByteArray), 3)) = some (r1, r2, r3, r4, r5, r6, r7, r8, r9, r10) := by rw [if_pos rfl] at H; exact H
                      clear H
                      have H := H1
                      clear H1
                      simp only [Option.some.injEq, Prod.mk.injEq] at H
                      obtain ⟨rfl, rfl, rfl, rfl, rfl, rfl, rfl, rfl, rfl, rfl⟩ := H
                      obtain ⟨HGz62, hgz62⟩ := HI274.out
                      have hcz62_0 := cellS59_0 HGz62
                      have hcz62_1 := cellS59_1 HGz62
                      have hfz62_0 := blk_frozen HGz62 0
                      have hfz62_1 := blk_frozen HGz62 1
                      clear HGz62 hgz62
                      have hnb63 := NB271_275.out
                      have hnc63 := NB275_271.out
                      have hnb64 := NB271_274.out
                      have hnc64 := NB274_271.out
                      have hcz65_0 : wc.cell? ⟨gb271, 0, none⟩ = some (.int .i64 0) := (blk_cell BK271.out 0).trans rfl
                      have hcz65_1 : wc.cell? ⟨gb271, 1, none⟩ = some (.int .i64 0) := (blk_cell BK271.out 1).trans rfl
                      have hcz65_2 : wc.cell? ⟨gb271, 2, none⟩ = some (.int .i64 0) := (blk_cell BK271.out 2).trans rfl
                      have hcz65_3 : wc.cell? ⟨gb271, 3, none⟩ = some (.int .i64 0) := (blk_cell BK271.out 3).trans rfl
                      have hcz65_4 : wc.cell? ⟨gb271, 4, none⟩ = some (.string (⟨#[]⟩ : ByteArray)) := (blk_cell BK271.out 4).trans rfl
                      have hcz65_5 : wc.cell? ⟨gb271, 5, none⟩ = some (.int .i64 0) := (blk_cell BK271.out 5).trans rfl
                      have hcz65_6 : wc.cell? ⟨gb271, 6, none⟩ = some (.int .i64 0) := (blk_cell BK271.out 6).trans rfl
                      have hcz65_7 : wc.cell? ⟨gb271, 7, none⟩ = some (.string (⟨#[]⟩ : ByteArray)) := (blk_cell BK271.out 7).trans rfl
                      have hcz65_8 : wc.cell? ⟨gb271, 8, none⟩ = some (.slice none 0 0) := (blk_cell BK271.out 8).trans rfl
                      have hfz65_0 := blk_frozen BK271.out 0
                      have hfz65_1 := blk_frozen BK271.out 1
                      have hfz65_2 := blk_frozen BK271.out 2
                      have hfz65_3 := blk_frozen BK271.out 3
                      have hfz65_4 := blk_frozen BK271.out 4
                      have hfz65_5 := blk_frozen BK271.out 5
                      have hfz65_6 := blk_frozen BK271.out 6
                      have hfz65_7 := blk_frozen BK271.out 7
                      have hfz65_8 := blk_frozen BK271.out 8
                      go_wp2
                      refine bodyPost_ret (results_ct rfl _ _ gb271 26 #[.int .i64 0, .int .i64 0, .int .i64 0, .int .i64 0, .string (⟨#[]⟩ : ByteArray), .int .i64 0, .int .i64 0, .string (⟨#[]⟩ : ByteArray), .slice none 0 0] (0, 0) _ rfl (by (with_reducible repeat (first | refine blk_drewN ?_ _ | refine blk_drew ?_ | refine blk_alloc ?_ _)); refine blk_put (cs := #[.int .i64 0, .int .i64 0, .int .i64 0, .int .i64 0, .string (⟨#[]⟩ : ByteArray), .int .i64 0, .int .i64 0, .string (⟨#[]⟩ : ByteArray), .slice none 0 0]) ?_ 8 _ rfl; (with_reducible repeat (first | refine blk_drewN ?_ _ | refine blk_drew ?_ | refine blk_alloc ?_ _)); refine blk_put (cs := #[.int .i64 0, .int .i64 0, .int .i64 0, .int .i64 0, .string (⟨#[]⟩ : ByteArray), .int .i64 0, .int .i64 0, .string (⟨#[]⟩ : ByteArray), .slice none 0 0]) ?_ 7 _ rfl; (with_reducible repeat (first | refine blk_drewN ?_ _ | refine blk_drew ?_ | refine blk_alloc ?_ _)); refine blk_put (cs := #[.int .i64 0, .int .i64 0, .int .i64 0, .int .i64 0, .string (⟨#[]⟩ : ByteArray), .int .i64 0, .int .i64 0, .string (⟨#[]⟩ : ByteArray), .slice none 0 0]) ?_ 6 _ rfl; (with_reducible repeat (first | refine blk_drewN ?_ _ | refine blk_drew ?_ | refine blk_alloc ?_ _)); refine blk_put (cs := #[.int .i64 0, .int .i64 0, .int .i64 0, .int .i64 0, .string (⟨#[]⟩ : ByteArray), .int .i64 0, .int .i64 0, .string (⟨#[]⟩ : ByteArray), .slice none 0 0]) ?_ 5 _ rfl; (with_reducible repeat (first | refine blk_drewN ?_ _ | refine blk_drew ?_ | refine blk_alloc ?_ _)); refine blk_put (cs := #[.int .i64 0, .int .i64 0, .int .i64 0, .int .i64 0, .string (⟨#[]⟩ : ByteArray), .int .i64 0, .int .i64 0, .string (⟨#[]⟩ : ByteArray), .slice none 0 0]) ?_ 4 _ rfl; (with_reducible repeat (first | refine blk_drewN ?_ _ | refine blk_drew ?_ | refine blk_alloc ?_ _)); refine blk_put (cs := #[.int .i64 0, .int .i64 0, .int .i64 0, .int .i64 0, .string (⟨#[]⟩ : ByteArray), .int .i64 0, .int .i64 0, .string (⟨#[]⟩ : ByteArray), .slice none 0 0]) ?_ 3 _ rfl; (with_reducible repeat (first | refine blk_drewN ?_ _ | refine blk_drew ?_ | refine blk_alloc ?_ _)); refine blk_put (cs := #[.int .i64 0, .int .i64 0, .int .i64 0, .int .i64 0, .string (⟨#[]⟩ : ByteArray), .int .i64 0, .int .i64 0, .string (⟨#[]⟩ : ByteArray), .slice none 0 0]) ?_ 2 _ rfl; (with_reducible repeat (first | refine blk_drewN ?_ _ | refine blk_drew ?_ | refine blk_alloc ?_ _)); refine blk_put (cs := #[.int .i64 0, .int .i64 0, .int .i64 0, .int .i64 0, .string (⟨#[]⟩ : ByteArray), .int .i64 0, .int .i64 0, .string (⟨#[]⟩ : ByteArray), .slice none 0 0]) ?_ 1 _ rfl; (with_reducible repeat (first | refine blk_drewN ?_ _ | refine blk_drew ?_ | refine blk_alloc ?_ _)); refine blk_put (cs := #[.int .i64 0, .int .i64 0, .int .i64 0, .int .i64 0, .string (⟨#[]⟩ : ByteArray), .int .i64 0, .int .i64 0, .string (⟨#[]⟩ : ByteArray), .slice none 0 0]) ?_ 0 _ rfl; (with_reducible repeat (first | refine blk_drewN ?_ _ | refine blk_drew ?_ | refine blk_alloc ?_ _)); exact BK271.out) Try.underlying26 rfl (by kernel_rfl)) rfl ?_
                      exact ⟨_, by first | rfl | (simp [errW_none, errW_some] <;> rfl) | (simp [*, errW_none, errW_some] <;> rfl), by first | exact Kd.R_nil _ _ _ _ _ | exact Kd.N_nil _ _ _ _ _ | exact Kd.V_nil _ _ _ _ _ | exact Kd.Q_nil _ _ _ _ _ | exact Kd.S_nil _ _ _ _ _, by repeat (first | (with_reducible first | exact HB.out | apply below_alloc | apply pw_below_drewN | apply below_drew1 | refine below_set ?_ (IsS59.ge HI274.out) | refine below_set ?_ GE271.out | refine below_set ?_ GE275.out) | exact HB.out)⟩
                    · replace c61 := Bool.eq_false_iff.mpr c61
                      subst c61
                      have H1 : (if x275000_1.toList = ([] : List UInt8) then ((vitrineref20_Right.f kj47 t276 t279 t282 t285 t291 t294 t297 t303 x276008_1).bind fun t318 => (if t318 = true then (some (t276, t279, t282, t285, t291, t294, t297, t303, x276008_1, 0)) else (some (0, 0, 0, 0, (⟨#[]⟩ : ByteArray), 0, 0, (⟨#[]⟩ : ByteArray), ([] : List ByteArray), 60)))) else (some (0, 0, 0, 0, (⟨#[]⟩ : ByteArray), 0, 0, (⟨#[]⟩ : ByteArray), ([] : List ByteArray), 4))) = some (r1, r2, r3, r4, r5, r6, r7, r8, r9, r10) := by rw [if_neg (show ¬ (false = true) by decide)] at H; exact H
                      clear H
                      have H := H1
                      clear H1
                      by_cases c66 : x275000_1.toList = ([] : List UInt8)
                      · rw [if_pos c66] at H
                        have c66b0 : (x275000_1.toList == ([] : List UInt8)) = true := beq_iff_eq.mpr c66
                        have c66b1 : (x275000_1.toList != ([] : List UInt8)) = false := bne_eq_false_iff_eq.mpr c66
                        clear c66
                        replace H := Option.bind_eq_some_iff.mp H
                        obtain ⟨t318, A670, H⟩ := H
                        replace H : (if t318 = true then (some (t276, t279, t282, t285, t291, t294, t297, t303, x276008_1, 0)) else (some (0, 0, 0, 0, (⟨#[]⟩ : ByteArray), 0, 0, (⟨#[]⟩ : ByteArray), ([] : List ByteArray), 60))) = some (r1, r2, r3, r4, r5, r6, r7, r8, r9, r10) := H
                        have A67 := Aside0.mk A670
                        clear A670
                        by_cases c68 : t318 = true
                        · subst c68
                          have H1 : (some (t276, t279, t282, t285, t291, t294, t297, t303, x276008_1, 0)) = some (r1, r2, r3, r4, r5, r6, r7, r8, r9, r10) := by rw [if_pos rfl] at H; exact H
                          clear H
                          have H := H1
                          clear H1
                          simp only [Option.some.injEq, Prod.mk.injEq] at H
                          obtain ⟨rfl, rfl, rfl, rfl, rfl, rfl, rfl, rfl, rfl, rfl⟩ := H
                          obtain ⟨HGz69, hgz69⟩ := HI274.out
                          have hcz69_0 := cellS59_0 HGz69
                          have hcz69_1 := cellS59_1 HGz69
                          have hfz69_0 := blk_frozen HGz69 0
                          have hfz69_1 := blk_frozen HGz69 1
                          clear HGz69 hgz69
                          have hnb70 := NB275_271.out
                          have hnc70 := NB271_275.out
                          have hnb71 := NB275_274.out
                          have hnc71 := NB274_275.out
                          have hcz72_0 : wc.cell? ⟨gb275, 0, none⟩ = some (.int .i64 t276) := (blk_cell BK275.out 0).trans rfl
                          have hcz72_1 : wc.cell? ⟨gb275, 1, none⟩ = some (.int .i64 t279) := (blk_cell BK275.out 1).trans rfl
                          have hcz72_2 : wc.cell? ⟨gb275, 2, none⟩ = some (.int .i64 t282) := (blk_cell BK275.out 2).trans rfl
                          have hcz72_3 : wc.cell? ⟨gb275, 3, none⟩ = some (.int .i64 t285) := (blk_cell BK275.out 3).trans rfl
                          have hcz72_4 : wc.cell? ⟨gb275, 4, none⟩ = some (.string t291) := (blk_cell BK275.out 4).trans rfl
                          have hcz72_5 : wc.cell? ⟨gb275, 5, none⟩ = some (.int .i64 t294) := (blk_cell BK275.out 5).trans rfl
                          have hcz72_6 : wc.cell? ⟨gb275, 6, none⟩ = some (.int .i64 t297) := (blk_cell BK275.out 6).trans rfl
                          have hcz72_7 : wc.cell? ⟨gb275, 7, none⟩ = some (.string t303) := (blk_cell BK275.out 7).trans rfl
                          have hcz72_8 : wc.cell? ⟨gb275, 8, none⟩ = some (u276008) := (blk_cell BK275.out 8).trans rfl
                          have hfz72_0 := blk_frozen BK275.out 0
                          have hfz72_1 := blk_frozen BK275.out 1
                          have hfz72_2 := blk_frozen BK275.out 2
                          have hfz72_3 := blk_frozen BK275.out 3
                          have hfz72_4 := blk_frozen BK275.out 4
                          have hfz72_5 := blk_frozen BK275.out 5
                          have hfz72_6 := blk_frozen BK275.out 6
                          have hfz72_7 := blk_frozen BK275.out 7
                          have hfz72_8 := blk_frozen BK275.out 8
                          obtain ⟨Ao73, co73, eo73⟩ := Kd.R_slice HO_276008.out
                          subst eo73
                          go_wp2_with (first | ((with_reducible refine gate_callee (f := 22) rfl ?_); refine goesL_ (some 87) rfl rfl Try.func22 (by kernel_rfl) rfl #[.agg #[.int .i64 t276, .int .i64 t279, .int .i64 t282, .int .i64 t285, .string t291, .int .i64 t294, .int .i64 t297, .string t303, .slice Ao73 x276008_1.length co73]] rfl (by (try simp only [List.map_toArray, List.map_cons, List.map_nil]); first | done | rfl | (simp only [List.length_drop, List.length_take]; rfl) | (simp only [ByteArray.size_extract, Nat.min_self]; done) | (simp only [ByteArray.size_extract, Nat.min_self]; rfl)) ?_; (with_reducible refine (vitrineref20_Right.calls kj47 t276 t279 t282 t285 t291 t294 t297 t303 _ _ x276008_1 true _ ?side1 ?side2 A67.out).mono ?_); (case side1 => repeat (first | exact (Kd.R_reads' HO_276008.out).2.2 | (with_reducible refine Kd.C_alloc ?_ _) | (with_reducible refine Kd.C_drewN ?_ _) | (with_reducible refine Kd.C_drew ?_))); (case side2 => exact (Kd.R_reads' HO_276008.out).2.1); rintro e w74 ⟨rfl, hb⟩; refine ⟨_, rfl, ?_⟩; have n0_ := Aside0.mk (Kd.R_below (by (with_reducible repeat (first | apply Kd.R_alloc | apply Kd.R_drewN | apply Kd.R_drew)); exact HO_276008.out) hb); have n1_ := Aside0.mk (blk_below (g := gb271) (o := .cells #[.int .i64 0, .int .i64 0, .int .i64 0, .int .i64 0, .string (⟨#[]⟩ : ByteArray), .int .i64 0, .int .i64 0, .string (⟨#[]⟩ : ByteArray), .slice none 0 0] 26 (0, 0)) (by (with_reducible repeat (first | refine blk_drewN ?_ _ | refine blk_drew ?_ | refine blk_alloc ?_ _)); exact BK271.out) hb); have n2_ := Aside0.mk (blk_below (g := gb275) (o := .cells #[.int .i64 t276, .int .i64 t279, .int .i64 t282, .int .i64 t285, .string t291, .int .i64 t294, .int .i64 t297, .string t303, .slice Ao73 x276008_1.length co73] 26 (0, 0)) (by (with_reducible repeat (first | refine blk_drewN ?_ _ | refine blk_drew ?_ | refine blk_alloc ?_ _)); exact BK275.out) hb); have n3_ := Aside0.mk (IsS59.below (by repeat (first | (with_reducible first | exact HI274.out | apply IsS59.alloc | apply IsS59.drewN | apply IsS59.drew | apply IsS59.set_0 | apply IsS59.set_1 | refine IsS59.far ?_ NB274_271.out _ | refine IsS59.far ?_ NB274_275.out _) | exact HI274.out)) hb); have n4_ := Aside0.mk (below_step (by repeat (first | (with_reducible first | exact HB.out | apply below_alloc | apply pw_below_drewN | apply below_drew1 | refine below_set ?_ (IsS59.ge HI274.out) | refine below_set ?_ GE271.out | refine below_set ?_ GE275.out) | exact HB.out)) hb); clear HO_276008; clear BK271; clear BK275; clear HI274; clear HB; have HO_276008 := n0_; have BK271 := n1_; have BK275 := n2_; have HI274 := n3_; have HB := n4_; clear n0_ n1_ n2_ n3_ n4_; (try clear hb); (try clear hb2); (try clear hk); (try clear hi); have hcz75_0 : w74.cell? ⟨gb275, 0, none⟩ = some (.int .i64 t276) := (blk_cell BK275.out 0).trans rfl; have hcz75_1 : w74.cell? ⟨gb275, 1, none⟩ = some (.int .i64 t279) := (blk_cell BK275.out 1).trans rfl; have hcz75_2 : w74.cell? ⟨gb275, 2, none⟩ = some (.int .i64 t282) := (blk_cell BK275.out 2).trans rfl; have hcz75_3 : w74.cell? ⟨gb275, 3, none⟩ = some (.int .i64 t285) := (blk_cell BK275.out 3).trans rfl; have hcz75_4 : w74.cell? ⟨gb275, 4, none⟩ = some (.string t291) := (blk_cell BK275.out 4).trans rfl; have hcz75_5 : w74.cell? ⟨gb275, 5, none⟩ = some (.int .i64 t294) := (blk_cell BK275.out 5).trans rfl; have hcz75_6 : w74.cell? ⟨gb275, 6, none⟩ = some (.int .i64 t297) := (blk_cell BK275.out 6).trans rfl; have hcz75_7 : w74.cell? ⟨gb275, 7, none⟩ = some (.string t303) := (blk_cell BK275.out 7).trans rfl; have hcz75_8 : w74.cell? ⟨gb275, 8, none⟩ = some (.slice Ao73 x276008_1.length co73) := (blk_cell BK275.out 8).trans rfl; have hfz75_0 := blk_frozen BK275.out 0; have hfz75_1 := blk_frozen BK275.out 1; have hfz75_2 := blk_frozen BK275.out 2; have hfz75_3 := blk_frozen BK275.out 3; have hfz75_4 := blk_frozen BK275.out 4; have hfz75_5 := blk_frozen BK275.out 5; have hfz75_6 := blk_frozen BK275.out 6; have hfz75_7 := blk_frozen BK275.out 7; have hfz75_8 := blk_frozen BK275.out 8; have hnb76 := NB271_274.out; have hnc76 := NB274_271.out; have hcz77_0 : w74.cell? ⟨gb271, 0, none⟩ = some (.int .i64 0) := (blk_cell BK271.out 0).trans rfl; have hcz77_1 : w74.cell? ⟨gb271, 1, none⟩ = some (.int .i64 0) := (blk_cell BK271.out 1).trans rfl; have hcz77_2 : w74.cell? ⟨gb271, 2, none⟩ = some (.int .i64 0) := (blk_cell BK271.out 2).trans rfl; have hcz77_3 : w74.cell? ⟨gb271, 3, none⟩ = some (.int .i64 0) := (blk_cell BK271.out 3).trans rfl; have hcz77_4 : w74.cell? ⟨gb271, 4, none⟩ = some (.string (⟨#[]⟩ : ByteArray)) := (blk_cell BK271.out 4).trans rfl; have hcz77_5 : w74.cell? ⟨gb271, 5, none⟩ = some (.int .i64 0) := (blk_cell BK271.out 5).trans rfl; have hcz77_6 : w74.cell? ⟨gb271, 6, none⟩ = some (.int .i64 0) := (blk_cell BK271.out 6).trans rfl; have hcz77_7 : w74.cell? ⟨gb271, 7, none⟩ = some (.string (⟨#[]⟩ : ByteArray)) := (blk_cell BK271.out 7).trans rfl; have hcz77_8 : w74.cell? ⟨gb271, 8, none⟩ = some (.slice none 0 0) := (blk_cell BK271.out 8).trans rfl; have hfz77_0 := blk_frozen BK271.out 0; have hfz77_1 := blk_frozen BK271.out 1; have hfz77_2 := blk_frozen BK271.out 2; have hfz77_3 := blk_frozen BK271.out 3; have hfz77_4 := blk_frozen BK271.out 4; have hfz77_5 := blk_frozen BK271.out 5; have hfz77_6 := blk_frozen BK271.out 6; have hfz77_7 := blk_frozen BK271.out 7; have hfz77_8 := blk_frozen BK271.out 8))
                          refine bodyPost_ret (results_ct rfl _ _ gb271 26 #[.int .i64 t276, .int .i64 t279, .int .i64 t282, .int .i64 t285, .string t291, .int .i64 t294, .int .i64 t297, .string t303, .slice Ao73 x276008_1.length co73] (0, 0) _ rfl (by (with_reducible repeat (first | refine blk_drewN ?_ _ | refine blk_drew ?_ | refine blk_alloc ?_ _)); refine blk_put (cs := #[.int .i64 t276, .int .i64 t279, .int .i64 t282, .int .i64 t285, .string t291, .int .i64 t294, .int .i64 t297, .string t303, .slice none 0 0]) ?_ 8 _ rfl; (with_reducible repeat (first | refine blk_drewN ?_ _ | refine blk_drew ?_ | refine blk_alloc ?_ _)); refine blk_put (cs := #[.int .i64 t276, .int .i64 t279, .int .i64 t282, .int .i64 t285, .string t291, .int .i64 t294, .int .i64 t297, .string (⟨#[]⟩ : ByteArray), .slice none 0 0]) ?_ 7 _ rfl; (with_reducible repeat (first | refine blk_drewN ?_ _ | refine blk_drew ?_ | refine blk_alloc ?_ _)); refine blk_put (cs := #[.int .i64 t276, .int .i64 t279, .int .i64 t282, .int .i64 t285, .string t291, .int .i64 t294, .int .i64 0, .string (⟨#[]⟩ : ByteArray), .slice none 0 0]) ?_ 6 _ rfl; (with_reducible repeat (first | refine blk_drewN ?_ _ | refine blk_drew ?_ | refine blk_alloc ?_ _)); refine blk_put (cs := #[.int .i64 t276, .int .i64 t279, .int .i64 t282, .int .i64 t285, .string t291, .int .i64 0, .int .i64 0, .string (⟨#[]⟩ : ByteArray), .slice none 0 0]) ?_ 5 _ rfl; (with_reducible repeat (first | refine blk_drewN ?_ _ | refine blk_drew ?_ | refine blk_alloc ?_ _)); refine blk_put (cs := #[.int .i64 t276, .int .i64 t279, .int .i64 t282, .int .i64 t285, .string (⟨#[]⟩ : ByteArray), .int .i64 0, .int .i64 0, .string (⟨#[]⟩ : ByteArray), .slice none 0 0]) ?_ 4 _ rfl; (with_reducible repeat (first | refine blk_drewN ?_ _ | refine blk_drew ?_ | refine blk_alloc ?_ _)); refine blk_put (cs := #[.int .i64 t276, .int .i64 t279, .int .i64 t282, .int .i64 0, .string (⟨#[]⟩ : ByteArray), .int .i64 0, .int .i64 0, .string (⟨#[]⟩ : ByteArray), .slice none 0 0]) ?_ 3 _ rfl; (with_reducible repeat (first | refine blk_drewN ?_ _ | refine blk_drew ?_ | refine blk_alloc ?_ _)); refine blk_put (cs := #[.int .i64 t276, .int .i64 t279, .int .i64 0, .int .i64 0, .string (⟨#[]⟩ : ByteArray), .int .i64 0, .int .i64 0, .string (⟨#[]⟩ : ByteArray), .slice none 0 0]) ?_ 2 _ rfl; (with_reducible repeat (first | refine blk_drewN ?_ _ | refine blk_drew ?_ | refine blk_alloc ?_ _)); refine blk_put (cs := #[.int .i64 t276, .int .i64 0, .int .i64 0, .int .i64 0, .string (⟨#[]⟩ : ByteArray), .int .i64 0, .int .i64 0, .string (⟨#[]⟩ : ByteArray), .slice none 0 0]) ?_ 1 _ rfl; (with_reducible repeat (first | refine blk_drewN ?_ _ | refine blk_drew ?_ | refine blk_alloc ?_ _)); refine blk_put (cs := #[.int .i64 0, .int .i64 0, .int .i64 0, .int .i64 0, .string (⟨#[]⟩ : ByteArray), .int .i64 0, .int .i64 0, .string (⟨#[]⟩ : ByteArray), .slice none 0 0]) ?_ 0 _ rfl; (with_reducible repeat (first | refine blk_drewN ?_ _ | refine blk_drew ?_ | refine blk_alloc ?_ _)); exact BK271.out) Try.underlying26 rfl (by kernel_rfl)) rfl ?_
                          exact ⟨_, by first | rfl | (simp [errW_none, errW_some] <;> rfl) | (simp [*, errW_none, errW_some] <;> rfl), by (with_reducible repeat (first | apply Kd.R_alloc | apply Kd.R_drewN | apply Kd.R_drew)); exact Kd.R_mono (Kd.R_far (p := ⟨gb271, 8, none⟩) (Kd.R_far (p := ⟨gb271, 7, none⟩) (Kd.R_far (p := ⟨gb271, 6, none⟩) (Kd.R_far (p := ⟨gb271, 5, none⟩) (Kd.R_far (p := ⟨gb271, 4, none⟩) (Kd.R_far (p := ⟨gb271, 3, none⟩) (Kd.R_far (p := ⟨gb271, 2, none⟩) (Kd.R_far (p := ⟨gb271, 1, none⟩) (Kd.R_far (p := ⟨gb271, 0, none⟩) (Kd.R_types HO_276008.out BK271.out (by decide)) (fun _ hk => hk.2) (.int .i64 t276)) (fun _ hk => hk.2) (.int .i64 t279)) (fun _ hk => hk.2) (.int .i64 t282)) (fun _ hk => hk.2) (.int .i64 t285)) (fun _ hk => hk.2) (.string t291)) (fun _ hk => hk.2) (.int .i64 t294)) (fun _ hk => hk.2) (.int .i64 t297)) (fun _ hk => hk.2) (.string t303)) (fun _ hk => hk.2) (.slice Ao73 x276008_1.length co73)) (fun _ hk => trivial), by repeat (first | (with_reducible first | exact HB.out | apply below_alloc | apply pw_below_drewN | apply below_drew1 | refine below_set ?_ (IsS59.ge HI274.out) | refine below_set ?_ GE271.out | refine below_set ?_ GE275.out) | exact HB.out)⟩
                        · replace c68 := Bool.eq_false_iff.mpr c68
                          subst c68
                          have H1 : (some (0, 0, 0, 0, (⟨#[]⟩ : ByteArray), 0, 0, (⟨#[]⟩ : ByteArray), ([] : List ByteArray), 60)) = some (r1, r2, r3, r4, r5, r6, r7, r8, r9, r10) := by rw [if_neg (show ¬ (false = true) by decide)] at H; exact H
                          clear H
                          have H := H1
                          clear H1
                          simp only [Option.some.injEq, Prod.mk.injEq] at H
                          obtain ⟨rfl, rfl, rfl, rfl, rfl, rfl, rfl, rfl, rfl, rfl⟩ := H
                          obtain ⟨HGz78, hgz78⟩ := HI274.out
                          have hcz78_0 := cellS59_0 HGz78
                          have hcz78_1 := cellS59_1 HGz78
                          have hfz78_0 := blk_frozen HGz78 0
                          have hfz78_1 := blk_frozen HGz78 1
                          clear HGz78 hgz78
                          have hnb79 := NB275_271.out
                          have hnc79 := NB271_275.out
                          have hnb80 := NB275_274.out
                          have hnc80 := NB274_275.out
                          have hcz81_0 : wc.cell? ⟨gb275, 0, none⟩ = some (.int .i64 t276) := (blk_cell BK275.out 0).trans rfl
                          have hcz81_1 : wc.cell? ⟨gb275, 1, none⟩ = some (.int .i64 t279) := (blk_cell BK275.out 1).trans rfl
                          have hcz81_2 : wc.cell? ⟨gb275, 2, none⟩ = some (.int .i64 t282) := (blk_cell BK275.out 2).trans rfl
                          have hcz81_3 : wc.cell? ⟨gb275, 3, none⟩ = some (.int .i64 t285) := (blk_cell BK275.out 3).trans rfl
                          have hcz81_4 : wc.cell? ⟨gb275, 4, none⟩ = some (.string t291) := (blk_cell BK275.out 4).trans rfl
                          have hcz81_5 : wc.cell? ⟨gb275, 5, none⟩ = some (.int .i64 t294) := (blk_cell BK275.out 5).trans rfl
                          have hcz81_6 : wc.cell? ⟨gb275, 6, none⟩ = some (.int .i64 t297) := (blk_cell BK275.out 6).trans rfl
                          have hcz81_7 : wc.cell? ⟨gb275, 7, none⟩ = some (.string t303) := (blk_cell BK275.out 7).trans rfl
                          have hcz81_8 : wc.cell? ⟨gb275, 8, none⟩ = some (u276008) := (blk_cell BK275.out 8).trans rfl
                          have hfz81_0 := blk_frozen BK275.out 0
                          have hfz81_1 := blk_frozen BK275.out 1
                          have hfz81_2 := blk_frozen BK275.out 2
                          have hfz81_3 := blk_frozen BK275.out 3
                          have hfz81_4 := blk_frozen BK275.out 4
                          have hfz81_5 := blk_frozen BK275.out 5
                          have hfz81_6 := blk_frozen BK275.out 6
                          have hfz81_7 := blk_frozen BK275.out 7
                          have hfz81_8 := blk_frozen BK275.out 8
                          obtain ⟨Ao82, co82, eo82⟩ := Kd.R_slice HO_276008.out
                          subst eo82
                          go_wp2_with (first | ((with_reducible refine gate_callee (f := 22) rfl ?_); refine goesL_ (some 87) rfl rfl Try.func22 (by kernel_rfl) rfl #[.agg #[.int .i64 t276, .int .i64 t279, .int .i64 t282, .int .i64 t285, .string t291, .int .i64 t294, .int .i64 t297, .string t303, .slice Ao82 x276008_1.length co82]] rfl (by (try simp only [List.map_toArray, List.map_cons, List.map_nil]); first | done | rfl | (simp only [List.length_drop, List.length_take]; rfl) | (simp only [ByteArray.size_extract, Nat.min_self]; done) | (simp only [ByteArray.size_extract, Nat.min_self]; rfl)) ?_; (with_reducible refine (vitrineref20_Right.calls kj47 t276 t279 t282 t285 t291 t294 t297 t303 _ _ x276008_1 false _ ?side1 ?side2 A67.out).mono ?_); (case side1 => repeat (first | exact (Kd.R_reads' HO_276008.out).2.2 | (with_reducible refine Kd.C_alloc ?_ _) | (with_reducible refine Kd.C_drewN ?_ _) | (with_reducible refine Kd.C_drew ?_))); (case side2 => exact (Kd.R_reads' HO_276008.out).2.1); rintro e w83 ⟨rfl, hb⟩; refine ⟨_, rfl, ?_⟩; have n0_ := Aside0.mk (Kd.R_below (by (with_reducible repeat (first | apply Kd.R_alloc | apply Kd.R_drewN | apply Kd.R_drew)); exact HO_276008.out) hb); have n1_ := Aside0.mk (blk_below (g := gb271) (o := .cells #[.int .i64 0, .int .i64 0, .int .i64 0, .int .i64 0, .string (⟨#[]⟩ : ByteArray), .int .i64 0, .int .i64 0, .string (⟨#[]⟩ : ByteArray), .slice none 0 0] 26 (0, 0)) (by (with_reducible repeat (first | refine blk_drewN ?_ _ | refine blk_drew ?_ | refine blk_alloc ?_ _)); exact BK271.out) hb); have n2_ := Aside0.mk (blk_below (g := gb275) (o := .cells #[.int .i64 t276, .int .i64 t279, .int .i64 t282, .int .i64 t285, .string t291, .int .i64 t294, .int .i64 t297, .string t303, .slice Ao82 x276008_1.length co82] 26 (0, 0)) (by (with_reducible repeat (first | refine blk_drewN ?_ _ | refine blk_drew ?_ | refine blk_alloc ?_ _)); exact BK275.out) hb); have n3_ := Aside0.mk (IsS59.below (by repeat (first | (with_reducible first | exact HI274.out | apply IsS59.alloc | apply IsS59.drewN | apply IsS59.drew | apply IsS59.set_0 | apply IsS59.set_1 | refine IsS59.far ?_ NB274_271.out _ | refine IsS59.far ?_ NB274_275.out _) | exact HI274.out)) hb); have n4_ := Aside0.mk (below_step (by repeat (first | (with_reducible first | exact HB.out | apply below_alloc | apply pw_below_drewN | apply below_drew1 | refine below_set ?_ (IsS59.ge HI274.out) | refine below_set ?_ GE271.out | refine below_set ?_ GE275.out) | exact HB.out)) hb); clear HO_276008; clear BK271; clear BK275; clear HI274; clear HB; have HO_276008 := n0_; have BK271 := n1_; have BK275 := n2_; have HI274 := n3_; have HB := n4_; clear n0_ n1_ n2_ n3_ n4_; (try clear hb); (try clear hb2); (try clear hk); (try clear hi); have hnb84 := NB271_274.out; have hnc84 := NB274_271.out; have hcz85_0 : w83.cell? ⟨gb271, 0, none⟩ = some (.int .i64 0) := (blk_cell BK271.out 0).trans rfl; have hcz85_1 : w83.cell? ⟨gb271, 1, none⟩ = some (.int .i64 0) := (blk_cell BK271.out 1).trans rfl; have hcz85_2 : w83.cell? ⟨gb271, 2, none⟩ = some (.int .i64 0) := (blk_cell BK271.out 2).trans rfl; have hcz85_3 : w83.cell? ⟨gb271, 3, none⟩ = some (.int .i64 0) := (blk_cell BK271.out 3).trans rfl; have hcz85_4 : w83.cell? ⟨gb271, 4, none⟩ = some (.string (⟨#[]⟩ : ByteArray)) := (blk_cell BK271.out 4).trans rfl; have hcz85_5 : w83.cell? ⟨gb271, 5, none⟩ = some (.int .i64 0) := (blk_cell BK271.out 5).trans rfl; have hcz85_6 : w83.cell? ⟨gb271, 6, none⟩ = some (.int .i64 0) := (blk_cell BK271.out 6).trans rfl; have hcz85_7 : w83.cell? ⟨gb271, 7, none⟩ = some (.string (⟨#[]⟩ : ByteArray)) := (blk_cell BK271.out 7).trans rfl; have hcz85_8 : w83.cell? ⟨gb271, 8, none⟩ = some (.slice none 0 0) := (blk_cell BK271.out 8).trans rfl; have hfz85_0 := blk_frozen BK271.out 0; have hfz85_1 := blk_frozen BK271.out 1; have hfz85_2 := blk_frozen BK271.out 2; have hfz85_3 := blk_frozen BK271.out 3; have hfz85_4 := blk_frozen BK271.out 4; have hfz85_5 := blk_frozen BK271.out 5; have hfz85_6 := blk_frozen BK271.out 6; have hfz85_7 := blk_frozen BK271.out 7; have hfz85_8 := blk_frozen BK271.out 8))
                          refine bodyPost_ret (results_ct rfl _ _ gb271 26 #[.int .i64 0, .int .i64 0, .int .i64 0, .int .i64 0, .string (⟨#[]⟩ : ByteArray), .int .i64 0, .int .i64 0, .string (⟨#[]⟩ : ByteArray), .slice none 0 0] (0, 0) _ rfl (by (with_reducible repeat (first | refine blk_drewN ?_ _ | refine blk_drew ?_ | refine blk_alloc ?_ _)); refine blk_put (cs := #[.int .i64 0, .int .i64 0, .int .i64 0, .int .i64 0, .string (⟨#[]⟩ : ByteArray), .int .i64 0, .int .i64 0, .string (⟨#[]⟩ : ByteArray), .slice none 0 0]) ?_ 8 _ rfl; (with_reducible repeat (first | refine blk_drewN ?_ _ | refine blk_drew ?_ | refine blk_alloc ?_ _)); refine blk_put (cs := #[.int .i64 0, .int .i64 0, .int .i64 0, .int .i64 0, .string (⟨#[]⟩ : ByteArray), .int .i64 0, .int .i64 0, .string (⟨#[]⟩ : ByteArray), .slice none 0 0]) ?_ 7 _ rfl; (with_reducible repeat (first | refine blk_drewN ?_ _ | refine blk_drew ?_ | refine blk_alloc ?_ _)); refine blk_put (cs := #[.int .i64 0, .int .i64 0, .int .i64 0, .int .i64 0, .string (⟨#[]⟩ : ByteArray), .int .i64 0, .int .i64 0, .string (⟨#[]⟩ : ByteArray), .slice none 0 0]) ?_ 6 _ rfl; (with_reducible repeat (first | refine blk_drewN ?_ _ | refine blk_drew ?_ | refine blk_alloc ?_ _)); refine blk_put (cs := #[.int .i64 0, .int .i64 0, .int .i64 0, .int .i64 0, .string (⟨#[]⟩ : ByteArray), .int .i64 0, .int .i64 0, .string (⟨#[]⟩ : ByteArray), .slice none 0 0]) ?_ 5 _ rfl; (with_reducible repeat (first | refine blk_drewN ?_ _ | refine blk_drew ?_ | refine blk_alloc ?_ _)); refine blk_put (cs := #[.int .i64 0, .int .i64 0, .int .i64 0, .int .i64 0, .string (⟨#[]⟩ : ByteArray), .int .i64 0, .int .i64 0, .string (⟨#[]⟩ : ByteArray), .slice none 0 0]) ?_ 4 _ rfl; (with_reducible repeat (first | refine blk_drewN ?_ _ | refine blk_drew ?_ | refine blk_alloc ?_ _)); refine blk_put (cs := #[.int .i64 0, .int .i64 0, .int .i64 0, .int .i64 0, .string (⟨#[]⟩ : ByteArray), .int .i64 0, .int .i64 0, .string (⟨#[]⟩ : ByteArray), .slice none 0 0]) ?_ 3 _ rfl; (with_reducible repeat (first | refine blk_drewN ?_ _ | refine blk_drew ?_ | refine blk_alloc ?_ _)); refine blk_put (cs := #[.int .i64 0, .int .i64 0, .int .i64 0, .int .i64 0, .string (⟨#[]⟩ : ByteArray), .int .i64 0, .int .i64 0, .string (⟨#[]⟩ : ByteArray), .slice none 0 0]) ?_ 2 _ rfl; (with_reducible repeat (first | refine blk_drewN ?_ _ | refine blk_drew ?_ | refine blk_alloc ?_ _)); refine blk_put (cs := #[.int .i64 0, .int .i64 0, .int .i64 0, .int .i64 0, .string (⟨#[]⟩ : ByteArray), .int .i64 0, .int .i64 0, .string (⟨#[]⟩ : ByteArray), .slice none 0 0]) ?_ 1 _ rfl; (with_reducible repeat (first | refine blk_drewN ?_ _ | refine blk_drew ?_ | refine blk_alloc ?_ _)); refine blk_put (cs := #[.int .i64 0, .int .i64 0, .int .i64 0, .int .i64 0, .string (⟨#[]⟩ : ByteArray), .int .i64 0, .int .i64 0, .string (⟨#[]⟩ : ByteArray), .slice none 0 0]) ?_ 0 _ rfl; (with_reducible repeat (first | refine blk_drewN ?_ _ | refine blk_drew ?_ | refine blk_alloc ?_ _)); exact BK271.out) Try.underlying26 rfl (by kernel_rfl)) rfl ?_
                          exact ⟨_, by first | rfl | (simp [errW_none, errW_some] <;> rfl) | (simp [*, errW_none, errW_some] <;> rfl), by first | exact Kd.R_nil _ _ _ _ _ | exact Kd.N_nil _ _ _ _ _ | exact Kd.V_nil _ _ _ _ _ | exact Kd.Q_nil _ _ _ _ _ | exact Kd.S_nil _ _ _ _ _, by repeat (first | (with_reducible first | exact HB.out | apply below_alloc | apply pw_below_drewN | apply below_drew1 | refine below_set ?_ (IsS59.ge HI274.out) | refine below_set ?_ GE271.out | refine below_set ?_ GE275.out) | exact HB.out)⟩
                      · rw [if_neg c66] at H
                        have c66b0 : (x275000_1.toList == ([] : List UInt8)) = false := beq_eq_false_iff_ne.mpr c66
                        have c66b1 : (x275000_1.toList != ([] : List UInt8)) = true := bne_iff_ne.mpr c66
                        simp only [Option.some.injEq, Prod.mk.injEq] at H
                        obtain ⟨rfl, rfl, rfl, rfl, rfl, rfl, rfl, rfl, rfl, rfl⟩ := H
                        obtain ⟨HGz86, hgz86⟩ := HI274.out
                        have hcz86_0 := cellS59_0 HGz86
                        have hcz86_1 := cellS59_1 HGz86
                        have hfz86_0 := blk_frozen HGz86 0
                        have hfz86_1 := blk_frozen HGz86 1
                        clear HGz86 hgz86
                        have hnb87 := NB271_275.out
                        have hnc87 := NB275_271.out
                        have hnb88 := NB271_274.out
                        have hnc88 := NB274_271.out
                        have hcz89_0 : wc.cell? ⟨gb271, 0, none⟩ = some (.int .i64 0) := (blk_cell BK271.out 0).trans rfl
                        have hcz89_1 : wc.cell? ⟨gb271, 1, none⟩ = some (.int .i64 0) := (blk_cell BK271.out 1).trans rfl
                        have hcz89_2 : wc.cell? ⟨gb271, 2, none⟩ = some (.int .i64 0) := (blk_cell BK271.out 2).trans rfl
                        have hcz89_3 : wc.cell? ⟨gb271, 3, none⟩ = some (.int .i64 0) := (blk_cell BK271.out 3).trans rfl
                        have hcz89_4 : wc.cell? ⟨gb271, 4, none⟩ = some (.string (⟨#[]⟩ : ByteArray)) := (blk_cell BK271.out 4).trans rfl
                        have hcz89_5 : wc.cell? ⟨gb271, 5, none⟩ = some (.int .i64 0) := (blk_cell BK271.out 5).trans rfl
                        have hcz89_6 : wc.cell? ⟨gb271, 6, none⟩ = some (.int .i64 0) := (blk_cell BK271.out 6).trans rfl
                        have hcz89_7 : wc.cell? ⟨gb271, 7, none⟩ = some (.string (⟨#[]⟩ : ByteArray)) := (blk_cell BK271.out 7).trans rfl
                        have hcz89_8 : wc.cell? ⟨gb271, 8, none⟩ = some (.slice none 0 0) := (blk_cell BK271.out 8).trans rfl
                        have hfz89_0 := blk_frozen BK271.out 0
                        have hfz89_1 := blk_frozen BK271.out 1
                        have hfz89_2 := blk_frozen BK271.out 2
                        have hfz89_3 := blk_frozen BK271.out 3
                        have hfz89_4 := blk_frozen BK271.out 4
                        have hfz89_5 := blk_frozen BK271.out 5
                        have hfz89_6 := blk_frozen BK271.out 6
                        have hfz89_7 := blk_frozen BK271.out 7
                        have hfz89_8 := blk_frozen BK271.out 8
                        go_wp2
                        refine bodyPost_ret (results_ct rfl _ _ gb271 26 #[.int .i64 0, .int .i64 0, .int .i64 0, .int .i64 0, .string (⟨#[]⟩ : ByteArray), .int .i64 0, .int .i64 0, .string (⟨#[]⟩ : ByteArray), .slice none 0 0] (0, 0) _ rfl (by (with_reducible repeat (first | refine blk_drewN ?_ _ | refine blk_drew ?_ | refine blk_alloc ?_ _)); refine blk_put (cs := #[.int .i64 0, .int .i64 0, .int .i64 0, .int .i64 0, .string (⟨#[]⟩ : ByteArray), .int .i64 0, .int .i64 0, .string (⟨#[]⟩ : ByteArray), .slice none 0 0]) ?_ 8 _ rfl; (with_reducible repeat (first | refine blk_drewN ?_ _ | refine blk_drew ?_ | refine blk_alloc ?_ _)); refine blk_put (cs := #[.int .i64 0, .int .i64 0, .int .i64 0, .int .i64 0, .string (⟨#[]⟩ : ByteArray), .int .i64 0, .int .i64 0, .string (⟨#[]⟩ : ByteArray), .slice none 0 0]) ?_ 7 _ rfl; (with_reducible repeat (first | refine blk_drewN ?_ _ | refine blk_drew ?_ | refine blk_alloc ?_ _)); refine blk_put (cs := #[.int .i64 0, .int .i64 0, .int .i64 0, .int .i64 0, .string (⟨#[]⟩ : ByteArray), .int .i64 0, .int .i64 0, .string (⟨#[]⟩ : ByteArray), .slice none 0 0]) ?_ 6 _ rfl; (with_reducible repeat (first | refine blk_drewN ?_ _ | refine blk_drew ?_ | refine blk_alloc ?_ _)); refine blk_put (cs := #[.int .i64 0, .int .i64 0, .int .i64 0, .int .i64 0, .string (⟨#[]⟩ : ByteArray), .int .i64 0, .int .i64 0, .string (⟨#[]⟩ : ByteArray), .slice none 0 0]) ?_ 5 _ rfl; (with_reducible repeat (first | refine blk_drewN ?_ _ | refine blk_drew ?_ | refine blk_alloc ?_ _)); refine blk_put (cs := #[.int .i64 0, .int .i64 0, .int .i64 0, .int .i64 0, .string (⟨#[]⟩ : ByteArray), .int .i64 0, .int .i64 0, .string (⟨#[]⟩ : ByteArray), .slice none 0 0]) ?_ 4 _ rfl; (with_reducible repeat (first | refine blk_drewN ?_ _ | refine blk_drew ?_ | refine blk_alloc ?_ _)); refine blk_put (cs := #[.int .i64 0, .int .i64 0, .int .i64 0, .int .i64 0, .string (⟨#[]⟩ : ByteArray), .int .i64 0, .int .i64 0, .string (⟨#[]⟩ : ByteArray), .slice none 0 0]) ?_ 3 _ rfl; (with_reducible repeat (first | refine blk_drewN ?_ _ | refine blk_drew ?_ | refine blk_alloc ?_ _)); refine blk_put (cs := #[.int .i64 0, .int .i64 0, .int .i64 0, .int .i64 0, .string (⟨#[]⟩ : ByteArray), .int .i64 0, .int .i64 0, .string (⟨#[]⟩ : ByteArray), .slice none 0 0]) ?_ 2 _ rfl; (with_reducible repeat (first | refine blk_drewN ?_ _ | refine blk_drew ?_ | refine blk_alloc ?_ _)); refine blk_put (cs := #[.int .i64 0, .int .i64 0, .int .i64 0, .int .i64 0, .string (⟨#[]⟩ : ByteArray), .int .i64 0, .int .i64 0, .string (⟨#[]⟩ : ByteArray), .slice none 0 0]) ?_ 1 _ rfl; (with_reducible repeat (first | refine blk_drewN ?_ _ | refine blk_drew ?_ | refine blk_alloc ?_ _)); refine blk_put (cs := #[.int .i64 0, .int .i64 0, .int .i64 0, .int .i64 0, .string (⟨#[]⟩ : ByteArray), .int .i64 0, .int .i64 0, .string (⟨#[]⟩ : ByteArray), .slice none 0 0]) ?_ 0 _ rfl; (with_reducible repeat (first | refine blk_drewN ?_ _ | refine blk_drew ?_ | refine blk_alloc ?_ _)); exact BK271.out) Try.underlying26 rfl (by kernel_rfl)) rfl ?_
                        exact ⟨_, by first | rfl | (simp [errW_none, errW_some] <;> rfl) | (simp [*, errW_none, errW_some] <;> rfl), by first | exact Kd.R_nil _ _ _ _ _ | exact Kd.N_nil _ _ _ _ _ | exact Kd.V_nil _ _ _ _ _ | exact Kd.Q_nil _ _ _ _ _ | exact Kd.S_nil _ _ _ _ _, by repeat (first | (with_reducible first | exact HB.out | apply below_alloc | apply pw_below_drewN | apply below_drew1 | refine below_set ?_ (IsS59.ge HI274.out) | refine below_set ?_ GE271.out | refine below_set ?_ GE275.out) | exact HB.out)⟩
        · rw [if_neg c10] at H
          have c10b0 : (t272 == t273) = false := beq_eq_false_iff_ne.mpr c10
          have c10b1 : (t272 != t273) = true := bne_iff_ne.mpr c10
          simp only [Option.some.injEq, Prod.mk.injEq] at H
          obtain ⟨rfl, rfl, rfl, rfl, rfl, rfl, rfl, rfl, rfl, rfl⟩ := H
          go_enter Try.func16, Try.ntmps16
          try go_wp2_with (first | ((with_reducible refine gate_dst (N := 2) rfl ?_); refine box_event ?hg (N := 2) ?hd (cs := #[.int .i64 0, .int .i64 0, .int .i64 0, .int .i64 0, .string (⟨#[]⟩ : ByteArray), .int .i64 0, .int .i64 0, .string (⟨#[]⟩ : ByteArray), .slice none 0 0]) (t := 26) ?hr ?_; (case hd => rfl); (case hg => rfl); (case hr => first | (go_simp; done) | (go_simp; rfl)); intro gb271 hg w90 hbox hb; have n0_ := Aside0.mk (below_step (by repeat (first | (with_reducible first | exact HB.out | apply below_alloc | apply pw_below_drewN | apply below_drew1) | exact HB.out)) hb); have n1_ := Aside0.mk (hbox); have n2_ := Aside0.mk ((by rw [hg]; exact (below_size (by repeat (first | (with_reducible first | exact HB.out | apply below_alloc | apply pw_below_drewN | apply below_drew1) | exact HB.out))) : w.heap.size ≤ gb271)); have n3_ := Aside0.mk ((by rw [hg]; exact (below_size (by repeat (first | (with_reducible first | exact HB.out | apply below_alloc | apply pw_below_drewN | apply below_drew1) | exact HB.out))) : w.heap.size ≤ gb271)); clear HB; have HB := n0_; have BK271 := n1_; have GW271 := n2_; have GE271 := n3_; clear n0_ n1_ n2_ n3_; clear hb hbox hg))
          have n0_ := Aside0.mk (blk_drew BK271.out)
          have n1_ := Aside0.mk (below_drew1 HB.out)
          clear BK271
          clear HB
          have BK271 := n0_
          have HB := n1_
          clear n0_ n1_
          refine start_ (n := 7) (S := fun w' => True) (ds := []) #[false, false, false, false, false, false, false] (by kernel_rfl) rfl rfl trivial (fun hHeld => ?_)
          generalize w90.drew = w91 at BK271 HB hHeld ⊢
          refine pure_ (i := 0) (N := some 11) (v := ?_) (a' := ?_) #[true, false, false, false, false, false, false] rfl rfl (by kernel_rfl) (fun _ _ _ h => h) (Or.inl ⟨by rfl, ?_⟩) ?_ ?_
          rotate_left
          · intro w'
            go_simp
            with_reducible rfl
          rotate_left
          · simp only [Act.put, List.setIfInBounds_toArray, List.set_cons_zero, List.set_cons_succ, i64_w, i32_w]
            rfl
          refine pure_ (i := 1) (N := some 12) (v := ?_) (a' := ?_) #[true, true, false, false, false, false, false] rfl rfl (by kernel_rfl) (fun _ _ _ h => h) (Or.inl ⟨by rfl, ?_⟩) ?_ ?_
          rotate_left
          · intro w'
            go_simp
            with_reducible rfl
          rotate_left
          · simp only [Act.put, List.setIfInBounds_toArray, List.set_cons_zero, List.set_cons_succ, i64_w, i32_w]
            rfl
          refine pure_ (i := 3) (N := some 14) (v := ?_) (a' := ?_) #[true, true, false, true, false, false, false] rfl rfl (by kernel_rfl) (fun _ _ _ h => h) (Or.inl ⟨by rfl, ?_⟩) ?_ ?_
          rotate_left
          · intro w'
            go_simp
            with_reducible rfl
          rotate_left
          · simp only [Act.put, List.setIfInBounds_toArray, List.set_cons_zero, List.set_cons_succ, i64_w, i32_w]
            rfl
          refine pure_ (i := 4) (N := some 15) (v := ?_) (a' := ?_) #[true, true, false, true, true, false, false] rfl rfl (by kernel_rfl) (fun _ _ _ h => h) (Or.inl ⟨by rfl, ?_⟩) ?_ ?_
          rotate_left
          · intro w'
            go_simp
            with_reducible rfl
          rotate_left
          · simp only [Act.put, List.setIfInBounds_toArray, List.set_cons_zero, List.set_cons_succ, i64_w, i32_w]
            rfl
          refine one_ (i := 2) (N := some 13) #[true, true, true, true, true, false, false] rfl rfl (by kernel_rfl) (by decide) (fun K hK => ?_)
          refine goes_ Try.func29 (by kernel_rfl) rfl #[.string (a0.extract 0 4)] (by rfl) rfl rfl (by (try simp only [List.map_toArray, List.map_cons, List.map_nil]); first | done | rfl | (simp only [List.length_drop, List.length_take]; rfl) | (simp only [ByteArray.size_extract, Nat.min_self]; done) | (simp only [ByteArray.size_extract, Nat.min_self]; rfl)) ?_
          with_reducible refine (vitrineref06_Of.calls k (a0.extract 0 4) t272 _ A7.out).mono ?_
          rintro e w' ⟨rfl, ⟨nd, rfl⟩⟩
          refine ⟨_, rfl, ?_⟩
          refine hK.out _ _ trivial (fun hHeld => ?_)
          clear hK K
          refine norm_ (a' := ?_) ?_ ?_
          rotate_left
          · show Act.put _ (some 13) _ = _
            simp only [Act.put, List.setIfInBounds_toArray, List.set_cons_zero, List.set_cons_succ, i64_w, i32_w]
            rfl
          refine one_ (i := 5) (N := some 16) #[true, true, true, true, true, true, false] rfl rfl (by kernel_rfl) (by decide) (fun K hK => ?_)
          refine goes_ Try.func24 (by kernel_rfl) rfl #[.string (a0.extract 4 a0.size)] (by rfl) rfl rfl (by (try simp only [List.map_toArray, List.map_cons, List.map_nil]); first | done | rfl | (simp only [List.length_drop, List.length_take]; rfl) | (simp only [ByteArray.size_extract, Nat.min_self]; done) | (simp only [ByteArray.size_extract, Nat.min_self]; rfl)) ?_
          with_reducible refine (vitrineref01_Crc.calls k (a0.extract 4 a0.size) t273 _ A9.out).mono ?_
          rintro e w' ⟨rfl, ⟨nd, rfl⟩⟩
          refine ⟨_, rfl, ?_⟩
          refine hK.out _ _ trivial (fun hHeld => ?_)
          clear hK K
          refine norm_ (a' := ?_) ?_ ?_
          rotate_left
          · show Act.put _ (some 16) _ = _
            simp only [Act.put, List.setIfInBounds_toArray, List.set_cons_zero, List.set_cons_succ, i64_w, i32_w]
            rfl
          refine pure_ (i := 6) (N := some 17) (v := ?_) (a' := ?_) #[true, true, true, true, true, true, true] rfl rfl (by kernel_rfl) (fun _ _ _ h => h) (Or.inl ⟨by rfl, ?_⟩) ?_ ?_
          rotate_left
          · intro w'
            go_simp
            with_reducible rfl
          rotate_left
          · simp only [Act.put, List.setIfInBounds_toArray, List.set_cons_zero, List.set_cons_succ, i64_w, i32_w]
            rfl
          refine done_ (by kernel_rfl) ?_
          have hcz92_0 : w91.cell? ⟨gb271, 0, none⟩ = some (.int .i64 0) := (blk_cell BK271.out 0).trans rfl
          have hcz92_1 : w91.cell? ⟨gb271, 1, none⟩ = some (.int .i64 0) := (blk_cell BK271.out 1).trans rfl
          have hcz92_2 : w91.cell? ⟨gb271, 2, none⟩ = some (.int .i64 0) := (blk_cell BK271.out 2).trans rfl
          have hcz92_3 : w91.cell? ⟨gb271, 3, none⟩ = some (.int .i64 0) := (blk_cell BK271.out 3).trans rfl
          have hcz92_4 : w91.cell? ⟨gb271, 4, none⟩ = some (.string (⟨#[]⟩ : ByteArray)) := (blk_cell BK271.out 4).trans rfl
          have hcz92_5 : w91.cell? ⟨gb271, 5, none⟩ = some (.int .i64 0) := (blk_cell BK271.out 5).trans rfl
          have hcz92_6 : w91.cell? ⟨gb271, 6, none⟩ = some (.int .i64 0) := (blk_cell BK271.out 6).trans rfl
          have hcz92_7 : w91.cell? ⟨gb271, 7, none⟩ = some (.string (⟨#[]⟩ : ByteArray)) := (blk_cell BK271.out 7).trans rfl
          have hcz92_8 : w91.cell? ⟨gb271, 8, none⟩ = some (.slice none 0 0) := (blk_cell BK271.out 8).trans rfl
          have hfz92_0 := blk_frozen BK271.out 0
          have hfz92_1 := blk_frozen BK271.out 1
          have hfz92_2 := blk_frozen BK271.out 2
          have hfz92_3 := blk_frozen BK271.out 3
          have hfz92_4 := blk_frozen BK271.out 4
          have hfz92_5 := blk_frozen BK271.out 5
          have hfz92_6 := blk_frozen BK271.out 6
          have hfz92_7 := blk_frozen BK271.out 7
          have hfz92_8 := blk_frozen BK271.out 8
          try go_wp2
          refine bodyPost_ret (results_ct rfl _ _ gb271 26 #[.int .i64 0, .int .i64 0, .int .i64 0, .int .i64 0, .string (⟨#[]⟩ : ByteArray), .int .i64 0, .int .i64 0, .string (⟨#[]⟩ : ByteArray), .slice none 0 0] (0, 0) _ rfl (by (with_reducible repeat (first | refine blk_drewN ?_ _ | refine blk_drew ?_ | refine blk_alloc ?_ _)); refine blk_put (cs := #[.int .i64 0, .int .i64 0, .int .i64 0, .int .i64 0, .string (⟨#[]⟩ : ByteArray), .int .i64 0, .int .i64 0, .string (⟨#[]⟩ : ByteArray), .slice none 0 0]) ?_ 8 _ rfl; (with_reducible repeat (first | refine blk_drewN ?_ _ | refine blk_drew ?_ | refine blk_alloc ?_ _)); refine blk_put (cs := #[.int .i64 0, .int .i64 0, .int .i64 0, .int .i64 0, .string (⟨#[]⟩ : ByteArray), .int .i64 0, .int .i64 0, .string (⟨#[]⟩ : ByteArray), .slice none 0 0]) ?_ 7 _ rfl; (with_reducible repeat (first | refine blk_drewN ?_ _ | refine blk_drew ?_ | refine blk_alloc ?_ _)); refine blk_put (cs := #[.int .i64 0, .int .i64 0, .int .i64 0, .int .i64 0, .string (⟨#[]⟩ : ByteArray), .int .i64 0, .int .i64 0, .string (⟨#[]⟩ : ByteArray), .slice none 0 0]) ?_ 6 _ rfl; (with_reducible repeat (first | refine blk_drewN ?_ _ | refine blk_drew ?_ | refine blk_alloc ?_ _)); refine blk_put (cs := #[.int .i64 0, .int .i64 0, .int .i64 0, .int .i64 0, .string (⟨#[]⟩ : ByteArray), .int .i64 0, .int .i64 0, .string (⟨#[]⟩ : ByteArray), .slice none 0 0]) ?_ 5 _ rfl; (with_reducible repeat (first | refine blk_drewN ?_ _ | refine blk_drew ?_ | refine blk_alloc ?_ _)); refine blk_put (cs := #[.int .i64 0, .int .i64 0, .int .i64 0, .int .i64 0, .string (⟨#[]⟩ : ByteArray), .int .i64 0, .int .i64 0, .string (⟨#[]⟩ : ByteArray), .slice none 0 0]) ?_ 4 _ rfl; (with_reducible repeat (first | refine blk_drewN ?_ _ | refine blk_drew ?_ | refine blk_alloc ?_ _)); refine blk_put (cs := #[.int .i64 0, .int .i64 0, .int .i64 0, .int .i64 0, .string (⟨#[]⟩ : ByteArray), .int .i64 0, .int .i64 0, .string (⟨#[]⟩ : ByteArray), .slice none 0 0]) ?_ 3 _ rfl; (with_reducible repeat (first | refine blk_drewN ?_ _ | refine blk_drew ?_ | refine blk_alloc ?_ _)); refine blk_put (cs := #[.int .i64 0, .int .i64 0, .int .i64 0, .int .i64 0, .string (⟨#[]⟩ : ByteArray), .int .i64 0, .int .i64 0, .string (⟨#[]⟩ : ByteArray), .slice none 0 0]) ?_ 2 _ rfl; (with_reducible repeat (first | refine blk_drewN ?_ _ | refine blk_drew ?_ | refine blk_alloc ?_ _)); refine blk_put (cs := #[.int .i64 0, .int .i64 0, .int .i64 0, .int .i64 0, .string (⟨#[]⟩ : ByteArray), .int .i64 0, .int .i64 0, .string (⟨#[]⟩ : ByteArray), .slice none 0 0]) ?_ 1 _ rfl; (with_reducible repeat (first | refine blk_drewN ?_ _ | refine blk_drew ?_ | refine blk_alloc ?_ _)); refine blk_put (cs := #[.int .i64 0, .int .i64 0, .int .i64 0, .int .i64 0, .string (⟨#[]⟩ : ByteArray), .int .i64 0, .int .i64 0, .string (⟨#[]⟩ : ByteArray), .slice none 0 0]) ?_ 0 _ rfl; (with_reducible repeat (first | refine blk_drewN ?_ _ | refine blk_drew ?_ | refine blk_alloc ?_ _)); exact BK271.out) Try.underlying26 rfl (by kernel_rfl)) rfl ?_
          exact ⟨_, by first | rfl | (simp [errW_none, errW_some] <;> rfl) | (simp [*, errW_none, errW_some] <;> rfl), by first | exact Kd.R_nil _ _ _ _ _ | exact Kd.N_nil _ _ _ _ _ | exact Kd.V_nil _ _ _ _ _ | exact Kd.Q_nil _ _ _ _ _ | exact Kd.S_nil _ _ _ _ _, by repeat (first | (with_reducible first | exact HB.out | apply below_alloc | apply pw_below_drewN | apply below_drew1 | refine below_set ?_ GE271.out) | exact HB.out)⟩
      · rw [if_neg c6] at H
        exact absurd H (by simp)
    · rw [if_neg c5] at H
      exact absurd H (by simp)

end Go.Proofs.Ytnimhhhbefpifaa.PL20
