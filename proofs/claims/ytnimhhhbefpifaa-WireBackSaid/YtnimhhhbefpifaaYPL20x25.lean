/- Printed for this claim by a program of this session over the kit's print program: the Go functions as Lean functions, and proofs that the calls come to these answers. No conditions. -/
import Derived.Test.YtnimhhhbefpifaaYPL20x0
import Derived.Test.YtnimhhhbefpifaaYPL20x7
import Derived.Test.YtnimhhhbefpifaaYPL20x8
import Derived.Test.YtnimhhhbefpifaaYPL20x24
namespace Go.Proofs.Ytnimhhhbefpifaa.PL20
open Go.RowKit Go.Proofs.YtnimhhhbefpifaaW.PrintWords Go.Proofs.YtnimhhhbefpifaaW.PrintLast Go.Proofs.YtnimhhhbefpifaaW.PrintMore
attribute [local go_sem] max2_int min2_int max_two min_two max_three min_three max_four min_four   -- for this text's walks alone
set_option linter.unusedVariables false
set_option linter.unusedSimpArgs false

/-! ### wire_Decode: function 15 -/
mutual
def wire_Decode.j1 : Nat → ByteArray → Bool → Int → Int → Int → Int → ByteArray → Int → Int → ByteArray → List ByteArray → Option (Int × Int × Int × Int × ByteArray × Int × Int × ByteArray × List ByteArray × Int)
  | 0, _, _, _, _, _, _, _, _, _, _, _ => none
  | k + 1, x232000, x232001, x248000, x248001, x248002, x248003, x248004, x248005, x248006, x248007, x248008 => if x232001 = true then (some (0, 0, 0, 0, (⟨#[]⟩ : ByteArray), 0, 0, (⟨#[]⟩ : ByteArray), ([] : List ByteArray), 3)) else (if x232000.toList = ([] : List UInt8) then ((wire_right.f k x248000 x248001 x248002 x248003 x248004 x248005 x248006 x248007 x248008).bind fun t266 => (if t266 = true then (some (x248000, x248001, x248002, x248003, x248004, x248005, x248006, x248007, x248008, 0)) else (some (0, 0, 0, 0, (⟨#[]⟩ : ByteArray), 0, 0, (⟨#[]⟩ : ByteArray), ([] : List ByteArray), 60)))) else (some (0, 0, 0, 0, (⟨#[]⟩ : ByteArray), 0, 0, (⟨#[]⟩ : ByteArray), ([] : List ByteArray), 4)))
def wire_Decode.l0 : Nat → Int → ByteArray → Bool → Int → Int → Int → Int → ByteArray → Int → Int → ByteArray → List ByteArray → Option (Int × Int × Int × Int × ByteArray × Int × Int × ByteArray × List ByteArray × Int)
  | 0, _, _, _, _, _, _, _, _, _, _, _, _ => none
  | k + 1, x7, x232000, x232001, x248000, x248001, x248002, x248003, x248004, x248005, x248006, x248007, x248008 => if x7 > 0 then (if x232001 = true then (wire_Decode.j1 k x232000 x232001 x248000 x248001 x248002 x248003 x248004 x248005 x248006 x248007 x248008) else ((wire_scan_text.f k x232000 x232001 4).bind fun bt260 => (if x248008.length < 8796093022208 then (wire_Decode.l0 k (wrap64 (x7 - 1)) bt260.2.1 bt260.2.2 x248000 x248001 x248002 x248003 x248004 x248005 x248006 x248007 (x248008 ++ [bt260.1])) else (none)))) else (wire_Decode.j1 k x232000 x232001 x248000 x248001 x248002 x248003 x248004 x248005 x248006 x248007 x248008)
end
def wire_Decode.f (k : Nat) (a0 : ByteArray) : Option (Int × Int × Int × Int × ByteArray × Int × Int × ByteArray × List ByteArray × Int) := if (a0.size : Int) < 4 then (some (0, 0, 0, 0, (⟨#[]⟩ : ByteArray), 0, 0, (⟨#[]⟩ : ByteArray), ([] : List ByteArray), 3)) else (if 0 ≤ 4 then (if 4 ≤ (a0.size : Int) then ((wire_scan_num.f k (a0.extract 0 4) false 4).bind fun bt227 => ((bits_Crc.f k (a0.extract 4 a0.size)).bind fun t230 => (if bt227.1 = t230 then ((wire_scan_num.f k (a0.extract 4 a0.size) false 1).bind fun bt232 => ((wire_scan_num.f k bt232.2.1 bt232.2.2 2).bind fun bt235 => ((wire_scan_num.f k bt235.2.1 bt235.2.2 2).bind fun bt238 => ((wire_scan_num.f k bt238.2.1 bt238.2.2 8).bind fun bt241 => ((wire_scan_text.f k bt241.2.1 bt241.2.2 1).bind fun bt244 => ((wire_scan_num.f k bt244.2.1 bt244.2.2 8).bind fun bt248 => ((wire_scan_num.f k bt248.2.1 bt248.2.2 2).bind fun bt251 => ((wire_scan_text.f k bt251.2.1 bt251.2.2 4).bind fun bt254 => ((wire_scan_num.f k bt254.2.1 bt254.2.2 2).bind fun bt257 => (wire_Decode.l0 k bt257.1 bt257.2.1 bt257.2.2 bt232.1 bt235.1 bt238.1 bt241.1 bt244.1 bt248.1 bt251.1 bt254.1 ([] : List ByteArray))))))))))) else (some (0, 0, 0, 0, (⟨#[]⟩ : ByteArray), 0, 0, (⟨#[]⟩ : ByteArray), ([] : List ByteArray), 17))))) else (none)) else (none))
theorem wire_Decode.mono_l : ∀ k, (∀ y0 y1 y2 y3 y4 y5 y6 y7 y8 y9 y10, LeO (wire_Decode.j1 k y0 y1 y2 y3 y4 y5 y6 y7 y8 y9 y10) (wire_Decode.j1 (k + 1) y0 y1 y2 y3 y4 y5 y6 y7 y8 y9 y10)) ∧ (∀ y0 y1 y2 y3 y4 y5 y6 y7 y8 y9 y10 y11, LeO (wire_Decode.l0 k y0 y1 y2 y3 y4 y5 y6 y7 y8 y9 y10 y11) (wire_Decode.l0 (k + 1) y0 y1 y2 y3 y4 y5 y6 y7 y8 y9 y10 y11))
  | 0 => ⟨fun _ _ _ _ _ _ _ _ _ _ _ r h => by simp [wire_Decode.j1] at h, fun _ _ _ _ _ _ _ _ _ _ _ _ r h => by simp [wire_Decode.l0] at h⟩
  | k + 1 => by
    obtain ⟨ih0, ih1⟩ := wire_Decode.mono_l k
    refine ⟨?_, ?_⟩
    · intro y0 y1 y2 y3 y4 y5 y6 y7 y8 y9 y10
      unfold wire_Decode.j1
      repeat' first
      | (with_reducible exact ih0 _ _ _ _ _ _ _ _ _ _ _)
      | (with_reducible exact ih1 _ _ _ _ _ _ _ _ _ _ _ _)
      | (with_reducible exact bits_Crc.mono _ _)
      | (with_reducible exact wire_right.mono _ _ _ _ _ _ _ _ _ _)
      | (with_reducible exact wire_scan_num.mono _ _ _ _)
      | (with_reducible exact wire_scan_text.mono _ _ _ _)
      | (with_reducible exact LeO.refl _)
      | (with_reducible exact LeO.none _)
      | (with_reducible refine LeO.ite ?_ ?_)
      | (with_reducible refine LeO.bind ?_ (fun _ => ?_))
      | exact ih0 _ _ _ _ _ _ _ _ _ _ _
      | exact ih1 _ _ _ _ _ _ _ _ _ _ _ _
      | exact bits_Crc.mono _ _
      | exact wire_right.mono _ _ _ _ _ _ _ _ _ _
      | exact wire_scan_num.mono _ _ _ _
      | exact wire_scan_text.mono _ _ _ _
      | exact LeO.none _
      | refine LeO.ite ?_ ?_
      | refine LeO.bind ?_ (fun _ => ?_)
    · intro y0 y1 y2 y3 y4 y5 y6 y7 y8 y9 y10 y11
      unfold wire_Decode.l0
      repeat' first
      | (with_reducible exact ih0 _ _ _ _ _ _ _ _ _ _ _)
      | (with_reducible exact ih1 _ _ _ _ _ _ _ _ _ _ _ _)
      | (with_reducible exact bits_Crc.mono _ _)
      | (with_reducible exact wire_right.mono _ _ _ _ _ _ _ _ _ _)
      | (with_reducible exact wire_scan_num.mono _ _ _ _)
      | (with_reducible exact wire_scan_text.mono _ _ _ _)
      | (with_reducible exact LeO.refl _)
      | (with_reducible exact LeO.none _)
      | (with_reducible refine LeO.ite ?_ ?_)
      | (with_reducible refine LeO.bind ?_ (fun _ => ?_))
      | exact ih0 _ _ _ _ _ _ _ _ _ _ _
      | exact ih1 _ _ _ _ _ _ _ _ _ _ _ _
      | exact bits_Crc.mono _ _
      | exact wire_right.mono _ _ _ _ _ _ _ _ _ _
      | exact wire_scan_num.mono _ _ _ _
      | exact wire_scan_text.mono _ _ _ _
      | exact LeO.none _
      | refine LeO.ite ?_ ?_
      | refine LeO.bind ?_ (fun _ => ?_)
theorem wire_Decode.mono : ∀ a0 k, LeO (wire_Decode.f k a0) (wire_Decode.f (k + 1) a0) := by
  intro a0 k
  obtain ⟨ih0, ih1⟩ := wire_Decode.mono_l k
  unfold wire_Decode.f
  repeat' first
      | (with_reducible exact ih0 _ _ _ _ _ _ _ _ _ _ _)
      | (with_reducible exact ih1 _ _ _ _ _ _ _ _ _ _ _ _)
      | (with_reducible exact bits_Crc.mono _ _)
      | (with_reducible exact wire_right.mono _ _ _ _ _ _ _ _ _ _)
      | (with_reducible exact wire_scan_num.mono _ _ _ _)
      | (with_reducible exact wire_scan_text.mono _ _ _ _)
      | (with_reducible exact LeO.refl _)
      | (with_reducible exact LeO.none _)
      | (with_reducible refine LeO.ite ?_ ?_)
      | (with_reducible refine LeO.bind ?_ (fun _ => ?_))
      | exact ih0 _ _ _ _ _ _ _ _ _ _ _
      | exact ih1 _ _ _ _ _ _ _ _ _ _ _ _
      | exact bits_Crc.mono _ _
      | exact wire_right.mono _ _ _ _ _ _ _ _ _ _
      | exact wire_scan_num.mono _ _ _ _
      | exact wire_scan_text.mono _ _ _ _
      | exact LeO.none _
      | refine LeO.ite ?_ ?_
      | refine LeO.bind ?_ (fun _ => ?_)
def wire_Decode.T14 : Bool × List (List Nat × List Nat) := (true, [([], []), ([0], [0]), ([], []), ([2], [2]), ([3], [3]), ([1, 4, 3], [1, 4]), ([0, 1, 2, 3, 4, 5], []), ([6, 5, 5, 0, 1, 2, 3, 4, 5], [5, 6])])
def wire_Decode.B14 : List Nat := [0, 1, 0, 4, 12, 31, 63, 127]
theorem wire_Decode.tab14 : rtab .any (opsOf Try.f15 14) = wire_Decode.T14 := by kernel_rfl
theorem wire_Decode.bits14 : waitsOk wire_Decode.T14.2 wire_Decode.B14 = true := by kernel_rfl
set_option maxHeartbeats 40000000 in
set_option maxRecDepth 100000 in
theorem wire_Decode.calls (k : Nat) (a0 : ByteArray) (r1 : Int) (r2 : Int) (r3 : Int) (r4 : Int) (r5 : ByteArray) (r6 : Int) (r7 : Int) (r8 : ByteArray) (r9 : List ByteArray) (r10 : Int) (w : World) (h : wire_Decode.f k a0 = some (r1, r2, r3, r4, r5, r6, r7, r8, r9, r10)) :
    Calls Try.prog 15 #[.string a0] w fun e w' => ∃ v8_ : Value, e = .returned (.tuple #[.agg #[.int .i64 r1, .int .i64 r2, .int .i64 r3, .int .i64 r4, .string r5, .int .i64 r6, .int .i64 r7, .string r8, v8_], .int .i64 r10]) ∧ Kd.R Kd.string 9 w' w.heap.size (fun _ => True) v8_ r9 ∧ Below w.heap.size w w' := by
  have hu26 := Try.underlying26
  have hu54 := Try.underlying54
  have HB := Aside0.mk (Below.refl w.heap.size w)
  have H : (if (a0.size : Int) < 4 then (some (0, 0, 0, 0, (⟨#[]⟩ : ByteArray), 0, 0, (⟨#[]⟩ : ByteArray), ([] : List ByteArray), 3)) else (if 0 ≤ 4 then (if 4 ≤ (a0.size : Int) then ((wire_scan_num.f k (a0.extract 0 4) false 4).bind fun bt227 => ((bits_Crc.f k (a0.extract 4 a0.size)).bind fun t230 => (if bt227.1 = t230 then ((wire_scan_num.f k (a0.extract 4 a0.size) false 1).bind fun bt232 => ((wire_scan_num.f k bt232.2.1 bt232.2.2 2).bind fun bt235 => ((wire_scan_num.f k bt235.2.1 bt235.2.2 2).bind fun bt238 => ((wire_scan_num.f k bt238.2.1 bt238.2.2 8).bind fun bt241 => ((wire_scan_text.f k bt241.2.1 bt241.2.2 1).bind fun bt244 => ((wire_scan_num.f k bt244.2.1 bt244.2.2 8).bind fun bt248 => ((wire_scan_num.f k bt248.2.1 bt248.2.2 2).bind fun bt251 => ((wire_scan_text.f k bt251.2.1 bt251.2.2 4).bind fun bt254 => ((wire_scan_num.f k bt254.2.1 bt254.2.2 2).bind fun bt257 => (wire_Decode.l0 k bt257.1 bt257.2.1 bt257.2.2 bt232.1 bt235.1 bt238.1 bt241.1 bt244.1 bt248.1 bt251.1 bt254.1 ([] : List ByteArray))))))))))) else (some (0, 0, 0, 0, (⟨#[]⟩ : ByteArray), 0, 0, (⟨#[]⟩ : ByteArray), ([] : List ByteArray), 17))))) else (none)) else (none))) = some (r1, r2, r3, r4, r5, r6, r7, r8, r9, r10) := h
  clear h
  by_cases c2 : (a0.size : Int) < 4
  · rw [if_pos c2] at H
    have c2b0 : decide ((a0.size : Int) < 4) = true := decide_eq_true c2
    have c2b1 : decide (a0.size < 4) = true := decide_eq_true (by omega)
    clear c2
    simp only [Option.some.injEq, Prod.mk.injEq] at H
    obtain ⟨rfl, rfl, rfl, rfl, rfl, rfl, rfl, rfl, rfl, rfl⟩ := H
    go_enter Try.func15, Try.ntmps15
    go_wp2_with (first | ((with_reducible refine gate_dst (N := 2) rfl ?_); refine box_event ?hg (N := 2) ?hd (cs := #[.int .i64 0, .int .i64 0, .int .i64 0, .int .i64 0, .string (⟨#[]⟩ : ByteArray), .int .i64 0, .int .i64 0, .string (⟨#[]⟩ : ByteArray), .slice none 0 0]) (t := 26) ?hr ?_; (case hd => rfl); (case hg => rfl); (case hr => first | (go_simp; done) | (go_simp; rfl)); intro gb225 hg w3 hbox hb; have n0_ := Aside0.mk (below_step (by repeat (first | (with_reducible first | exact HB.out | apply below_alloc | apply pw_below_drewN | apply below_drew1) | exact HB.out)) hb); have n1_ := Aside0.mk (hbox); have n2_ := Aside0.mk ((by rw [hg]; exact (below_size (by repeat (first | (with_reducible first | exact HB.out | apply below_alloc | apply pw_below_drewN | apply below_drew1) | exact HB.out))) : w.heap.size ≤ gb225)); have n3_ := Aside0.mk ((by rw [hg]; exact (below_size (by repeat (first | (with_reducible first | exact HB.out | apply below_alloc | apply pw_below_drewN | apply below_drew1) | exact HB.out))) : w.heap.size ≤ gb225)); clear HB; have HB := n0_; have BK225 := n1_; have GW225 := n2_; have GE225 := n3_; clear n0_ n1_ n2_ n3_; clear hb hbox hg; have hcz4_0 : w3.cell? ⟨gb225, 0, none⟩ = some (.int .i64 0) := (blk_cell BK225.out 0).trans rfl; have hcz4_1 : w3.cell? ⟨gb225, 1, none⟩ = some (.int .i64 0) := (blk_cell BK225.out 1).trans rfl; have hcz4_2 : w3.cell? ⟨gb225, 2, none⟩ = some (.int .i64 0) := (blk_cell BK225.out 2).trans rfl; have hcz4_3 : w3.cell? ⟨gb225, 3, none⟩ = some (.int .i64 0) := (blk_cell BK225.out 3).trans rfl; have hcz4_4 : w3.cell? ⟨gb225, 4, none⟩ = some (.string (⟨#[]⟩ : ByteArray)) := (blk_cell BK225.out 4).trans rfl; have hcz4_5 : w3.cell? ⟨gb225, 5, none⟩ = some (.int .i64 0) := (blk_cell BK225.out 5).trans rfl; have hcz4_6 : w3.cell? ⟨gb225, 6, none⟩ = some (.int .i64 0) := (blk_cell BK225.out 6).trans rfl; have hcz4_7 : w3.cell? ⟨gb225, 7, none⟩ = some (.string (⟨#[]⟩ : ByteArray)) := (blk_cell BK225.out 7).trans rfl; have hcz4_8 : w3.cell? ⟨gb225, 8, none⟩ = some (.slice none 0 0) := (blk_cell BK225.out 8).trans rfl; have hfz4_0 := blk_frozen BK225.out 0; have hfz4_1 := blk_frozen BK225.out 1; have hfz4_2 := blk_frozen BK225.out 2; have hfz4_3 := blk_frozen BK225.out 3; have hfz4_4 := blk_frozen BK225.out 4; have hfz4_5 := blk_frozen BK225.out 5; have hfz4_6 := blk_frozen BK225.out 6; have hfz4_7 := blk_frozen BK225.out 7; have hfz4_8 := blk_frozen BK225.out 8))
    refine bodyPost_ret (results_ct rfl _ _ gb225 26 #[.int .i64 0, .int .i64 0, .int .i64 0, .int .i64 0, .string (⟨#[]⟩ : ByteArray), .int .i64 0, .int .i64 0, .string (⟨#[]⟩ : ByteArray), .slice none 0 0] (0, 0) _ rfl (by (with_reducible repeat (first | refine blk_drewN ?_ _ | refine blk_drew ?_ | refine blk_alloc ?_ _)); refine blk_put (cs := #[.int .i64 0, .int .i64 0, .int .i64 0, .int .i64 0, .string (⟨#[]⟩ : ByteArray), .int .i64 0, .int .i64 0, .string (⟨#[]⟩ : ByteArray), .slice none 0 0]) ?_ 8 _ rfl; (with_reducible repeat (first | refine blk_drewN ?_ _ | refine blk_drew ?_ | refine blk_alloc ?_ _)); refine blk_put (cs := #[.int .i64 0, .int .i64 0, .int .i64 0, .int .i64 0, .string (⟨#[]⟩ : ByteArray), .int .i64 0, .int .i64 0, .string (⟨#[]⟩ : ByteArray), .slice none 0 0]) ?_ 7 _ rfl; (with_reducible repeat (first | refine blk_drewN ?_ _ | refine blk_drew ?_ | refine blk_alloc ?_ _)); refine blk_put (cs := #[.int .i64 0, .int .i64 0, .int .i64 0, .int .i64 0, .string (⟨#[]⟩ : ByteArray), .int .i64 0, .int .i64 0, .string (⟨#[]⟩ : ByteArray), .slice none 0 0]) ?_ 6 _ rfl; (with_reducible repeat (first | refine blk_drewN ?_ _ | refine blk_drew ?_ | refine blk_alloc ?_ _)); refine blk_put (cs := #[.int .i64 0, .int .i64 0, .int .i64 0, .int .i64 0, .string (⟨#[]⟩ : ByteArray), .int .i64 0, .int .i64 0, .string (⟨#[]⟩ : ByteArray), .slice none 0 0]) ?_ 5 _ rfl; (with_reducible repeat (first | refine blk_drewN ?_ _ | refine blk_drew ?_ | refine blk_alloc ?_ _)); refine blk_put (cs := #[.int .i64 0, .int .i64 0, .int .i64 0, .int .i64 0, .string (⟨#[]⟩ : ByteArray), .int .i64 0, .int .i64 0, .string (⟨#[]⟩ : ByteArray), .slice none 0 0]) ?_ 4 _ rfl; (with_reducible repeat (first | refine blk_drewN ?_ _ | refine blk_drew ?_ | refine blk_alloc ?_ _)); refine blk_put (cs := #[.int .i64 0, .int .i64 0, .int .i64 0, .int .i64 0, .string (⟨#[]⟩ : ByteArray), .int .i64 0, .int .i64 0, .string (⟨#[]⟩ : ByteArray), .slice none 0 0]) ?_ 3 _ rfl; (with_reducible repeat (first | refine blk_drewN ?_ _ | refine blk_drew ?_ | refine blk_alloc ?_ _)); refine blk_put (cs := #[.int .i64 0, .int .i64 0, .int .i64 0, .int .i64 0, .string (⟨#[]⟩ : ByteArray), .int .i64 0, .int .i64 0, .string (⟨#[]⟩ : ByteArray), .slice none 0 0]) ?_ 2 _ rfl; (with_reducible repeat (first | refine blk_drewN ?_ _ | refine blk_drew ?_ | refine blk_alloc ?_ _)); refine blk_put (cs := #[.int .i64 0, .int .i64 0, .int .i64 0, .int .i64 0, .string (⟨#[]⟩ : ByteArray), .int .i64 0, .int .i64 0, .string (⟨#[]⟩ : ByteArray), .slice none 0 0]) ?_ 1 _ rfl; (with_reducible repeat (first | refine blk_drewN ?_ _ | refine blk_drew ?_ | refine blk_alloc ?_ _)); refine blk_put (cs := #[.int .i64 0, .int .i64 0, .int .i64 0, .int .i64 0, .string (⟨#[]⟩ : ByteArray), .int .i64 0, .int .i64 0, .string (⟨#[]⟩ : ByteArray), .slice none 0 0]) ?_ 0 _ rfl; (with_reducible repeat (first | refine blk_drewN ?_ _ | refine blk_drew ?_ | refine blk_alloc ?_ _)); exact BK225.out) Try.underlying26 rfl (by kernel_rfl)) rfl ?_
    exact ⟨_, by first | rfl | (simp [errW_none, errW_some] <;> rfl) | (simp [*, errW_none, errW_some] <;> rfl), by first | exact Kd.R_nil _ _ _ _ _ | exact Kd.N_nil _ _ _ _ _ | exact Kd.V_nil _ _ _ _ _ | exact Kd.Q_nil _ _ _ _ _ | exact Kd.S_nil _ _ _ _ _, by repeat (first | (with_reducible first | exact HB.out | apply below_alloc | apply pw_below_drewN | apply below_drew1 | refine below_set ?_ GE225.out) | exact HB.out)⟩
  · rw [if_neg c2] at H
    have c2b0 : decide ((a0.size : Int) < 4) = false := decide_eq_false c2
    have c2b1 : decide (a0.size < 4) = false := decide_eq_false (by omega)
    clear c2
    by_cases c5 : 0 ≤ 4
    · rw [if_pos c5] at H
      have c5b0 := eq_true c5
      have c5b1 : decide (0 ≤ 4) = true := decide_eq_true c5
      clear c5
      by_cases c6 : 4 ≤ (a0.size : Int)
      · rw [if_pos c6] at H
        have c6b0 := eq_true c6
        have c6b1 : decide (4 ≤ (a0.size : Int)) = true := decide_eq_true c6
        clear c6
        replace H := Option.bind_eq_some_iff.mp H
        obtain ⟨⟨t227, t228, t229⟩, A70, H⟩ := H
        replace H : ((bits_Crc.f k (a0.extract 4 a0.size)).bind fun t230 => (if t227 = t230 then ((wire_scan_num.f k (a0.extract 4 a0.size) false 1).bind fun bt232 => ((wire_scan_num.f k bt232.2.1 bt232.2.2 2).bind fun bt235 => ((wire_scan_num.f k bt235.2.1 bt235.2.2 2).bind fun bt238 => ((wire_scan_num.f k bt238.2.1 bt238.2.2 8).bind fun bt241 => ((wire_scan_text.f k bt241.2.1 bt241.2.2 1).bind fun bt244 => ((wire_scan_num.f k bt244.2.1 bt244.2.2 8).bind fun bt248 => ((wire_scan_num.f k bt248.2.1 bt248.2.2 2).bind fun bt251 => ((wire_scan_text.f k bt251.2.1 bt251.2.2 4).bind fun bt254 => ((wire_scan_num.f k bt254.2.1 bt254.2.2 2).bind fun bt257 => (wire_Decode.l0 k bt257.1 bt257.2.1 bt257.2.2 bt232.1 bt235.1 bt238.1 bt241.1 bt244.1 bt248.1 bt251.1 bt254.1 ([] : List ByteArray))))))))))) else (some (0, 0, 0, 0, (⟨#[]⟩ : ByteArray), 0, 0, (⟨#[]⟩ : ByteArray), ([] : List ByteArray), 17)))) = some (r1, r2, r3, r4, r5, r6, r7, r8, r9, r10) := H
        have A7 := Aside0.mk A70
        clear A70
        have c8b0 := eq_true (of_decide_eq_true (by first | (with_reducible assumption) | assumption) : 4 ≤ (a0.size : Int))
        replace H := Option.bind_eq_some_iff.mp H
        obtain ⟨t230, A90, H⟩ := H
        replace H : (if t227 = t230 then ((wire_scan_num.f k (a0.extract 4 a0.size) false 1).bind fun bt232 => ((wire_scan_num.f k bt232.2.1 bt232.2.2 2).bind fun bt235 => ((wire_scan_num.f k bt235.2.1 bt235.2.2 2).bind fun bt238 => ((wire_scan_num.f k bt238.2.1 bt238.2.2 8).bind fun bt241 => ((wire_scan_text.f k bt241.2.1 bt241.2.2 1).bind fun bt244 => ((wire_scan_num.f k bt244.2.1 bt244.2.2 8).bind fun bt248 => ((wire_scan_num.f k bt248.2.1 bt248.2.2 2).bind fun bt251 => ((wire_scan_text.f k bt251.2.1 bt251.2.2 4).bind fun bt254 => ((wire_scan_num.f k bt254.2.1 bt254.2.2 2).bind fun bt257 => (wire_Decode.l0 k bt257.1 bt257.2.1 bt257.2.2 bt232.1 bt235.1 bt238.1 bt241.1 bt244.1 bt248.1 bt251.1 bt254.1 ([] : List ByteArray))))))))))) else (some (0, 0, 0, 0, (⟨#[]⟩ : ByteArray), 0, 0, (⟨#[]⟩ : ByteArray), ([] : List ByteArray), 17))) = some (r1, r2, r3, r4, r5, r6, r7, r8, r9, r10) := H
        have A9 := Aside0.mk A90
        clear A90
        by_cases c10 : t227 = t230
        · rw [if_pos c10] at H
          have c10b0 : (t227 == t230) = true := beq_iff_eq.mpr c10
          have c10b1 : (t227 != t230) = false := bne_eq_false_iff_eq.mpr c10
          clear c10
          have c11b0 := eq_true (of_decide_eq_true (by first | (with_reducible assumption) | assumption) : 4 ≤ (a0.size : Int))
          replace H := Option.bind_eq_some_iff.mp H
          obtain ⟨⟨t232, t233, t234⟩, A120, H⟩ := H
          replace H : ((wire_scan_num.f k t233 t234 2).bind fun bt235 => ((wire_scan_num.f k bt235.2.1 bt235.2.2 2).bind fun bt238 => ((wire_scan_num.f k bt238.2.1 bt238.2.2 8).bind fun bt241 => ((wire_scan_text.f k bt241.2.1 bt241.2.2 1).bind fun bt244 => ((wire_scan_num.f k bt244.2.1 bt244.2.2 8).bind fun bt248 => ((wire_scan_num.f k bt248.2.1 bt248.2.2 2).bind fun bt251 => ((wire_scan_text.f k bt251.2.1 bt251.2.2 4).bind fun bt254 => ((wire_scan_num.f k bt254.2.1 bt254.2.2 2).bind fun bt257 => (wire_Decode.l0 k bt257.1 bt257.2.1 bt257.2.2 t232 bt235.1 bt238.1 bt241.1 bt244.1 bt248.1 bt251.1 bt254.1 ([] : List ByteArray)))))))))) = some (r1, r2, r3, r4, r5, r6, r7, r8, r9, r10) := H
          have A12 := Aside0.mk A120
          clear A120
          replace H := Option.bind_eq_some_iff.mp H
          obtain ⟨⟨t235, t236, t237⟩, A130, H⟩ := H
          replace H : ((wire_scan_num.f k t236 t237 2).bind fun bt238 => ((wire_scan_num.f k bt238.2.1 bt238.2.2 8).bind fun bt241 => ((wire_scan_text.f k bt241.2.1 bt241.2.2 1).bind fun bt244 => ((wire_scan_num.f k bt244.2.1 bt244.2.2 8).bind fun bt248 => ((wire_scan_num.f k bt248.2.1 bt248.2.2 2).bind fun bt251 => ((wire_scan_text.f k bt251.2.1 bt251.2.2 4).bind fun bt254 => ((wire_scan_num.f k bt254.2.1 bt254.2.2 2).bind fun bt257 => (wire_Decode.l0 k bt257.1 bt257.2.1 bt257.2.2 t232 t235 bt238.1 bt241.1 bt244.1 bt248.1 bt251.1 bt254.1 ([] : List ByteArray))))))))) = some (r1, r2, r3, r4, r5, r6, r7, r8, r9, r10) := H
          have A13 := Aside0.mk A130
          clear A130
          replace H := Option.bind_eq_some_iff.mp H
          obtain ⟨⟨t238, t239, t240⟩, A140, H⟩ := H
          replace H : ((wire_scan_num.f k t239 t240 8).bind fun bt241 => ((wire_scan_text.f k bt241.2.1 bt241.2.2 1).bind fun bt244 => ((wire_scan_num.f k bt244.2.1 bt244.2.2 8).bind fun bt248 => ((wire_scan_num.f k bt248.2.1 bt248.2.2 2).bind fun bt251 => ((wire_scan_text.f k bt251.2.1 bt251.2.2 4).bind fun bt254 => ((wire_scan_num.f k bt254.2.1 bt254.2.2 2).bind fun bt257 => (wire_Decode.l0 k bt257.1 bt257.2.1 bt257.2.2 t232 t235 t238 bt241.1 bt244.1 bt248.1 bt251.1 bt254.1 ([] : List ByteArray)))))))) = some (r1, r2, r3, r4, r5, r6, r7, r8, r9, r10) := H
          have A14 := Aside0.mk A140
          clear A140
          replace H := Option.bind_eq_some_iff.mp H
          obtain ⟨⟨t241, t242, t243⟩, A150, H⟩ := H
          replace H : ((wire_scan_text.f k t242 t243 1).bind fun bt244 => ((wire_scan_num.f k bt244.2.1 bt244.2.2 8).bind fun bt248 => ((wire_scan_num.f k bt248.2.1 bt248.2.2 2).bind fun bt251 => ((wire_scan_text.f k bt251.2.1 bt251.2.2 4).bind fun bt254 => ((wire_scan_num.f k bt254.2.1 bt254.2.2 2).bind fun bt257 => (wire_Decode.l0 k bt257.1 bt257.2.1 bt257.2.2 t232 t235 t238 t241 bt244.1 bt248.1 bt251.1 bt254.1 ([] : List ByteArray))))))) = some (r1, r2, r3, r4, r5, r6, r7, r8, r9, r10) := H
          have A15 := Aside0.mk A150
          clear A150
          replace H := Option.bind_eq_some_iff.mp H
          obtain ⟨⟨t244, t245, t246⟩, A160, H⟩ := H
          replace H : ((wire_scan_num.f k t245 t246 8).bind fun bt248 => ((wire_scan_num.f k bt248.2.1 bt248.2.2 2).bind fun bt251 => ((wire_scan_text.f k bt251.2.1 bt251.2.2 4).bind fun bt254 => ((wire_scan_num.f k bt254.2.1 bt254.2.2 2).bind fun bt257 => (wire_Decode.l0 k bt257.1 bt257.2.1 bt257.2.2 t232 t235 t238 t241 t244 bt248.1 bt251.1 bt254.1 ([] : List ByteArray)))))) = some (r1, r2, r3, r4, r5, r6, r7, r8, r9, r10) := H
          have A16 := Aside0.mk A160
          clear A160
          replace H := Option.bind_eq_some_iff.mp H
          obtain ⟨⟨t248, t249, t250⟩, A170, H⟩ := H
          replace H : ((wire_scan_num.f k t249 t250 2).bind fun bt251 => ((wire_scan_text.f k bt251.2.1 bt251.2.2 4).bind fun bt254 => ((wire_scan_num.f k bt254.2.1 bt254.2.2 2).bind fun bt257 => (wire_Decode.l0 k bt257.1 bt257.2.1 bt257.2.2 t232 t235 t238 t241 t244 t248 bt251.1 bt254.1 ([] : List ByteArray))))) = some (r1, r2, r3, r4, r5, r6, r7, r8, r9, r10) := H
          have A17 := Aside0.mk A170
          clear A170
          replace H := Option.bind_eq_some_iff.mp H
          obtain ⟨⟨t251, t252, t253⟩, A180, H⟩ := H
          replace H : ((wire_scan_text.f k t252 t253 4).bind fun bt254 => ((wire_scan_num.f k bt254.2.1 bt254.2.2 2).bind fun bt257 => (wire_Decode.l0 k bt257.1 bt257.2.1 bt257.2.2 t232 t235 t238 t241 t244 t248 t251 bt254.1 ([] : List ByteArray)))) = some (r1, r2, r3, r4, r5, r6, r7, r8, r9, r10) := H
          have A18 := Aside0.mk A180
          clear A180
          replace H := Option.bind_eq_some_iff.mp H
          obtain ⟨⟨t254, t255, t256⟩, A190, H⟩ := H
          replace H : ((wire_scan_num.f k t255 t256 2).bind fun bt257 => (wire_Decode.l0 k bt257.1 bt257.2.1 bt257.2.2 t232 t235 t238 t241 t244 t248 t251 t254 ([] : List ByteArray))) = some (r1, r2, r3, r4, r5, r6, r7, r8, r9, r10) := H
          have A19 := Aside0.mk A190
          clear A190
          replace H := Option.bind_eq_some_iff.mp H
          obtain ⟨⟨t257, t258, t259⟩, A200, H⟩ := H
          replace H : (wire_Decode.l0 k t257 t258 t259 t232 t235 t238 t241 t244 t248 t251 t254 ([] : List ByteArray)) = some (r1, r2, r3, r4, r5, r6, r7, r8, r9, r10) := H
          have A20 := Aside0.mk A200
          clear A200
          have HC21 := Aside0.mk H
          clear H
          go_enter Try.func15, Try.ntmps15
          try go_wp2_with (first | ((with_reducible refine gate_dst (N := 2) rfl ?_); refine box_event ?hg (N := 2) ?hd (cs := #[.int .i64 0, .int .i64 0, .int .i64 0, .int .i64 0, .string (⟨#[]⟩ : ByteArray), .int .i64 0, .int .i64 0, .string (⟨#[]⟩ : ByteArray), .slice none 0 0]) (t := 26) ?hr ?_; (case hd => rfl); (case hg => rfl); (case hr => first | (go_simp; done) | (go_simp; rfl)); intro gb225 hg w22 hbox hb; have n0_ := Aside0.mk (below_step (by repeat (first | (with_reducible first | exact HB.out | apply below_alloc | apply pw_below_drewN | apply below_drew1) | exact HB.out)) hb); have n1_ := Aside0.mk (hbox); have n2_ := Aside0.mk ((by rw [hg]; exact (below_size (by repeat (first | (with_reducible first | exact HB.out | apply below_alloc | apply pw_below_drewN | apply below_drew1) | exact HB.out))) : w.heap.size ≤ gb225)); have n3_ := Aside0.mk ((by rw [hg]; exact (below_size (by repeat (first | (with_reducible first | exact HB.out | apply below_alloc | apply pw_below_drewN | apply below_drew1) | exact HB.out))) : w.heap.size ≤ gb225)); clear HB; have HB := n0_; have BK225 := n1_; have GW225 := n2_; have GE225 := n3_; clear n0_ n1_ n2_ n3_; clear hb hbox hg) | ((with_reducible refine gate_dst (N := 15) rfl ?_); refine box_event ?hg (N := 15) ?hd (cs := #[.string (a0.extract 0 4), .bool false]) (t := 54) ?hr ?_; (case hd => rfl); (case hg => rfl); (case hr => first | (go_simp; done) | (go_simp; rfl)); intro gb226 hg w23 hbox hb; have n0_ := Aside0.mk (blk_below (g := gb225) (o := .cells #[.int .i64 0, .int .i64 0, .int .i64 0, .int .i64 0, .string (⟨#[]⟩ : ByteArray), .int .i64 0, .int .i64 0, .string (⟨#[]⟩ : ByteArray), .slice none 0 0] 26 (0, 0)) (by (with_reducible repeat (first | refine blk_drewN ?_ _ | refine blk_drew ?_ | refine blk_alloc ?_ _)); exact BK225.out) hb); have n1_ := Aside0.mk (below_step (by repeat (first | (with_reducible first | exact HB.out | apply below_alloc | apply pw_below_drewN | apply below_drew1 | refine below_set ?_ GE225.out) | exact HB.out)) hb); have n2_ := Aside0.mk ((show IsS54 w _ _ (a0.extract 0 4) false from ⟨hbox, by rw [hg]; exact (below_size (by repeat (first | (with_reducible first | exact HB.out | apply below_alloc | apply pw_below_drewN | apply below_drew1 | refine below_set ?_ GE225.out) | exact HB.out)))⟩)); have n3_ := Aside0.mk ((by rw [hg]; exact (below_size (by repeat (first | (with_reducible first | exact HB.out | apply below_alloc | apply pw_below_drewN | apply below_drew1 | refine below_set ?_ GE225.out) | exact HB.out))) : w.heap.size ≤ gb226)); have n4_ := Aside0.mk ((by rw [hg]; exact (below_size (by repeat (first | (with_reducible first | exact HB.out | apply below_alloc | apply pw_below_drewN | apply below_drew1 | refine below_set ?_ GE225.out) | exact HB.out))) : w.heap.size ≤ gb226)); have n5_ := Aside0.mk ((by rw [hg]; exact Nat.ne_of_lt (blk_lt (g := gb225) (o := .cells #[.int .i64 0, .int .i64 0, .int .i64 0, .int .i64 0, .string (⟨#[]⟩ : ByteArray), .int .i64 0, .int .i64 0, .string (⟨#[]⟩ : ByteArray), .slice none 0 0] 26 (0, 0)) (by (with_reducible repeat (first | refine blk_drewN ?_ _ | refine blk_drew ?_ | refine blk_alloc ?_ _)); exact BK225.out)) : gb225 ≠ gb226)); have n6_ := Aside0.mk ((by rw [hg]; exact Nat.ne_of_gt (blk_lt (g := gb225) (o := .cells #[.int .i64 0, .int .i64 0, .int .i64 0, .int .i64 0, .string (⟨#[]⟩ : ByteArray), .int .i64 0, .int .i64 0, .string (⟨#[]⟩ : ByteArray), .slice none 0 0] 26 (0, 0)) (by (with_reducible repeat (first | refine blk_drewN ?_ _ | refine blk_drew ?_ | refine blk_alloc ?_ _)); exact BK225.out)) : gb226 ≠ gb225)); clear BK225; clear HB; have BK225 := n0_; have HB := n1_; have HI226 := n2_; have GW226 := n3_; have GE226 := n4_; have NB225_226 := n5_; have NB226_225 := n6_; clear n0_ n1_ n2_ n3_ n4_ n5_ n6_; clear hb hbox hg))
          have n0_ := Aside0.mk (blk_drew BK225.out)
          have n1_ := Aside0.mk (IsS54.drew HI226.out)
          have n2_ := Aside0.mk (below_drew1 HB.out)
          clear BK225
          clear HI226
          clear HB
          have BK225 := n0_
          have HI226 := n1_
          have HB := n2_
          clear n0_ n1_ n2_
          refine start_ (n := 6) (S := fun w' => True) (ds := []) #[false, false, false, false, false, false] (by kernel_rfl) rfl rfl trivial (fun hHeld => ?_)
          generalize w23.drew = w24 at BK225 HI226 HB hHeld ⊢
          refine pure_ (i := 0) (N := some 16) (v := ?_) (a' := ?_) #[true, false, false, false, false, false] rfl rfl (by kernel_rfl) (fun _ _ _ h => h) (Or.inl ⟨by rfl, ?_⟩) ?_ ?_
          rotate_left
          · intro w'
            go_simp
            with_reducible rfl
          rotate_left
          · simp only [Act.put, List.setIfInBounds_toArray, List.set_cons_zero, List.set_cons_succ, i64_w, i32_w]
            rfl
          refine pure_ (i := 2) (N := some 18) (v := ?_) (a' := ?_) #[true, false, true, false, false, false] rfl rfl (by kernel_rfl) (fun _ _ _ h => h) (Or.inl ⟨by rfl, ?_⟩) ?_ ?_
          rotate_left
          · intro w'
            go_simp
            with_reducible rfl
          rotate_left
          · simp only [Act.put, List.setIfInBounds_toArray, List.set_cons_zero, List.set_cons_succ, i64_w, i32_w]
            rfl
          refine pure_ (i := 3) (N := some 19) (v := ?_) (a' := ?_) #[true, false, true, true, false, false] rfl rfl (by kernel_rfl) (fun _ _ _ h => h) (Or.inl ⟨by rfl, ?_⟩) ?_ ?_
          rotate_left
          · intro w'
            go_simp
            with_reducible rfl
          rotate_left
          · simp only [Act.put, List.setIfInBounds_toArray, List.set_cons_zero, List.set_cons_succ, i64_w, i32_w]
            rfl
          refine one_ (i := 1) (N := some 17) #[true, true, true, true, false, false] rfl rfl (by kernel_rfl) (by decide) (fun K hK => ?_)
          refine goes_ Try.func27 (by kernel_rfl) rfl #[.pointer (some ⟨gb226, 0, none⟩), .int .i64 4] (by rfl) rfl rfl (by (try simp only [List.map_toArray, List.map_cons, List.map_nil]); first | done | rfl | (simp only [List.length_drop, List.length_take]; rfl) | (simp only [ByteArray.size_extract, Nat.min_self]; done) | (simp only [ByteArray.size_extract, Nat.min_self]; rfl)) ?_
          with_reducible refine (wire_scan_num.calls k gb226 (a0.extract 0 4) false 4 t227 t228 t229 w _ ?side1 ?side2 A7.out).mono ?_
          (case side1 => repeat (first | (with_reducible first | exact HI226.out | apply IsS54.alloc | apply IsS54.drewN | apply IsS54.drew | apply IsS54.set_0 | apply IsS54.set_1 | refine IsS54.far ?_ NB226_225.out _) | exact HI226.out))
          (case side2 => repeat (first | (with_reducible first | exact HB.out | apply below_alloc | apply pw_below_drewN | apply below_drew1 | refine below_set ?_ (IsS54.ge HI226.out) | refine below_set ?_ GE225.out) | exact HB.out))
          rintro e w25 ⟨rfl, hi, hb, hk⟩
          refine ⟨_, rfl, ?_⟩
          have n0_ := Aside0.mk (KeepBut.blk hk (g' := gb225) (o := .cells #[.int .i64 0, .int .i64 0, .int .i64 0, .int .i64 0, .string (⟨#[]⟩ : ByteArray), .int .i64 0, .int .i64 0, .string (⟨#[]⟩ : ByteArray), .slice none 0 0] 26 (0, 0)) (by (with_reducible repeat (first | refine blk_drewN ?_ _ | refine blk_drew ?_ | refine blk_alloc ?_ _)); exact BK225.out) NB225_226.out (by simp))
          have n1_ := Aside0.mk (hb)
          have n2_ := Aside0.mk (hi)
          clear BK225
          clear HB
          clear HI226
          have BK225 := n0_
          have HB := n1_
          have HI226 := n2_
          clear n0_ n1_ n2_
          (try clear hb)
          (try clear hb2)
          (try clear hk)
          (try clear hi)
          refine hK.out _ _ trivial (fun hHeld => ?_)
          clear hK K
          refine norm_ (a' := ?_) ?_ ?_
          rotate_left
          · show Act.put _ (some 17) _ = _
            simp only [Act.put, List.setIfInBounds_toArray, List.set_cons_zero, List.set_cons_succ, i64_w, i32_w]
            rfl
          refine one_ (i := 4) (N := some 20) #[true, true, true, true, true, false] rfl rfl (by kernel_rfl) (by decide) (fun K hK => ?_)
          refine goes_ Try.func20 (by kernel_rfl) rfl #[.string (a0.extract 4 a0.size)] (by rfl) rfl rfl (by (try simp only [List.map_toArray, List.map_cons, List.map_nil]); first | done | rfl | (simp only [List.length_drop, List.length_take]; rfl) | (simp only [ByteArray.size_extract, Nat.min_self]; done) | (simp only [ByteArray.size_extract, Nat.min_self]; rfl)) ?_
          with_reducible refine (bits_Crc.calls k (a0.extract 4 a0.size) t230 _ A9.out).mono ?_
          rintro e w' ⟨rfl, ⟨nd, rfl⟩⟩
          refine ⟨_, rfl, ?_⟩
          refine hK.out _ _ trivial (fun hHeld => ?_)
          clear hK K
          refine norm_ (a' := ?_) ?_ ?_
          rotate_left
          · show Act.put _ (some 20) _ = _
            simp only [Act.put, List.setIfInBounds_toArray, List.set_cons_zero, List.set_cons_succ, i64_w, i32_w]
            rfl
          refine pure_ (i := 5) (N := some 21) (v := ?_) (a' := ?_) #[true, true, true, true, true, true] rfl rfl (by kernel_rfl) (fun _ _ _ h => h) (Or.inl ⟨by rfl, ?_⟩) ?_ ?_
          rotate_left
          · intro w'
            go_simp
            with_reducible rfl
          rotate_left
          · simp only [Act.put, List.setIfInBounds_toArray, List.set_cons_zero, List.set_cons_succ, i64_w, i32_w]
            rfl
          refine done_ (by kernel_rfl) ?_
          go_upto_block 0 with (first | ((with_reducible refine gate_dst (N := 26) rfl ?_); refine box_event ?hg (N := 26) ?hd (cs := #[.string (a0.extract 4 a0.size), .bool false]) (t := 54) ?hr ?_; (case hd => rfl); (case hg => rfl); (case hr => first | (go_simp; done) | (go_simp; rfl)); intro gb231 hg w26 hbox hb; have n0_ := Aside0.mk (blk_below (g := gb225) (o := .cells #[.int .i64 0, .int .i64 0, .int .i64 0, .int .i64 0, .string (⟨#[]⟩ : ByteArray), .int .i64 0, .int .i64 0, .string (⟨#[]⟩ : ByteArray), .slice none 0 0] 26 (0, 0)) (by (with_reducible repeat (first | refine blk_drewN ?_ _ | refine blk_drew ?_ | refine blk_alloc ?_ _)); exact BK225.out) hb); have n1_ := Aside0.mk (below_step (by repeat (first | (with_reducible first | exact HB.out | apply below_alloc | apply pw_below_drewN | apply below_drew1 | refine below_set ?_ GE225.out) | exact HB.out)) hb); have n2_ := Aside0.mk ((show IsS54 w _ _ (a0.extract 4 a0.size) false from ⟨hbox, by rw [hg]; exact (below_size (by repeat (first | (with_reducible first | exact HB.out | apply below_alloc | apply pw_below_drewN | apply below_drew1 | refine below_set ?_ GE225.out) | exact HB.out)))⟩)); have n3_ := Aside0.mk ((by rw [hg]; exact (below_size (by repeat (first | (with_reducible first | exact HB.out | apply below_alloc | apply pw_below_drewN | apply below_drew1 | refine below_set ?_ GE225.out) | exact HB.out))) : w.heap.size ≤ gb231)); have n4_ := Aside0.mk ((by rw [hg]; exact (below_size (by repeat (first | (with_reducible first | exact HB.out | apply below_alloc | apply pw_below_drewN | apply below_drew1 | refine below_set ?_ GE225.out) | exact HB.out))) : w.heap.size ≤ gb231)); have n5_ := Aside0.mk ((by rw [hg]; exact Nat.ne_of_lt (blk_lt (g := gb225) (o := .cells #[.int .i64 0, .int .i64 0, .int .i64 0, .int .i64 0, .string (⟨#[]⟩ : ByteArray), .int .i64 0, .int .i64 0, .string (⟨#[]⟩ : ByteArray), .slice none 0 0] 26 (0, 0)) (by (with_reducible repeat (first | refine blk_drewN ?_ _ | refine blk_drew ?_ | refine blk_alloc ?_ _)); exact BK225.out)) : gb225 ≠ gb231)); have n6_ := Aside0.mk ((by rw [hg]; exact Nat.ne_of_gt (blk_lt (g := gb225) (o := .cells #[.int .i64 0, .int .i64 0, .int .i64 0, .int .i64 0, .string (⟨#[]⟩ : ByteArray), .int .i64 0, .int .i64 0, .string (⟨#[]⟩ : ByteArray), .slice none 0 0] 26 (0, 0)) (by (with_reducible repeat (first | refine blk_drewN ?_ _ | refine blk_drew ?_ | refine blk_alloc ?_ _)); exact BK225.out)) : gb231 ≠ gb225)); clear BK225; clear HB; have BK225 := n0_; have HB := n1_; have HI231 := n2_; have GW231 := n3_; have GE231 := n4_; have NB225_231 := n5_; have NB231_225 := n6_; clear n0_ n1_ n2_ n3_ n4_ n5_ n6_; clear hb hbox hg) | ((with_reducible refine gate_callee (f := 27) rfl ?_); refine goesL_ (some 28) rfl rfl Try.func27 (by kernel_rfl) rfl #[.pointer (some ⟨gb231, 0, none⟩), .int .i64 1] rfl (by (try simp only [List.map_toArray, List.map_cons, List.map_nil]); first | done | rfl | (simp only [List.length_drop, List.length_take]; rfl) | (simp only [ByteArray.size_extract, Nat.min_self]; done) | (simp only [ByteArray.size_extract, Nat.min_self]; rfl)) ?_; (with_reducible refine (wire_scan_num.calls k gb231 (a0.extract 4 a0.size) false 1 t232 t233 t234 w _ ?side1 ?side2 A12.out).mono ?_); (case side1 => repeat (first | (with_reducible first | exact HI231.out | apply IsS54.alloc | apply IsS54.drewN | apply IsS54.drew | apply IsS54.set_0 | apply IsS54.set_1 | refine IsS54.far ?_ NB231_225.out _) | exact HI231.out)); (case side2 => repeat (first | (with_reducible first | exact HB.out | apply below_alloc | apply pw_below_drewN | apply below_drew1 | refine below_set ?_ (IsS54.ge HI231.out) | refine below_set ?_ GE225.out) | exact HB.out)); rintro e w27 ⟨rfl, hi, hb, hk⟩; refine ⟨_, rfl, ?_⟩; have n0_ := Aside0.mk (KeepBut.blk hk (g' := gb225) (o := .cells #[.int .i64 0, .int .i64 0, .int .i64 0, .int .i64 0, .string (⟨#[]⟩ : ByteArray), .int .i64 0, .int .i64 0, .string (⟨#[]⟩ : ByteArray), .slice none 0 0] 26 (0, 0)) (by (with_reducible repeat (first | refine blk_drewN ?_ _ | refine blk_drew ?_ | refine blk_alloc ?_ _)); exact BK225.out) NB225_231.out (by simp)); have n1_ := Aside0.mk (hb); have n2_ := Aside0.mk (hi); clear BK225; clear HB; clear HI231; have BK225 := n0_; have HB := n1_; have HI231 := n2_; clear n0_ n1_ n2_; (try clear hb); (try clear hb2); (try clear hk); (try clear hi)) | ((with_reducible refine gate_callee (f := 27) rfl ?_); refine goesL_ (some 30) rfl rfl Try.func27 (by kernel_rfl) rfl #[.pointer (some ⟨gb231, 0, none⟩), .int .i64 2] rfl (by (try simp only [List.map_toArray, List.map_cons, List.map_nil]); first | done | rfl | (simp only [List.length_drop, List.length_take]; rfl) | (simp only [ByteArray.size_extract, Nat.min_self]; done) | (simp only [ByteArray.size_extract, Nat.min_self]; rfl)) ?_; (with_reducible refine (wire_scan_num.calls k gb231 t233 t234 2 t235 t236 t237 w _ ?side1 ?side2 A13.out).mono ?_); (case side1 => repeat (first | (with_reducible first | exact HI231.out | apply IsS54.alloc | apply IsS54.drewN | apply IsS54.drew | apply IsS54.set_0 | apply IsS54.set_1 | refine IsS54.far ?_ NB231_225.out _) | exact HI231.out)); (case side2 => repeat (first | (with_reducible first | exact HB.out | apply below_alloc | apply pw_below_drewN | apply below_drew1 | refine below_set ?_ (IsS54.ge HI231.out) | refine below_set ?_ GE225.out) | exact HB.out)); rintro e w28 ⟨rfl, hi, hb, hk⟩; refine ⟨_, rfl, ?_⟩; have n0_ := Aside0.mk (KeepBut.blk hk (g' := gb225) (o := .cells #[.int .i64 0, .int .i64 0, .int .i64 0, .int .i64 0, .string (⟨#[]⟩ : ByteArray), .int .i64 0, .int .i64 0, .string (⟨#[]⟩ : ByteArray), .slice none 0 0] 26 (0, 0)) (by (with_reducible repeat (first | refine blk_drewN ?_ _ | refine blk_drew ?_ | refine blk_alloc ?_ _)); exact BK225.out) NB225_231.out (by simp)); have n1_ := Aside0.mk (hb); have n2_ := Aside0.mk (hi); clear BK225; clear HB; clear HI231; have BK225 := n0_; have HB := n1_; have HI231 := n2_; clear n0_ n1_ n2_; (try clear hb); (try clear hb2); (try clear hk); (try clear hi)) | ((with_reducible refine gate_callee (f := 27) rfl ?_); refine goesL_ (some 32) rfl rfl Try.func27 (by kernel_rfl) rfl #[.pointer (some ⟨gb231, 0, none⟩), .int .i64 2] rfl (by (try simp only [List.map_toArray, List.map_cons, List.map_nil]); first | done | rfl | (simp only [List.length_drop, List.length_take]; rfl) | (simp only [ByteArray.size_extract, Nat.min_self]; done) | (simp only [ByteArray.size_extract, Nat.min_self]; rfl)) ?_; (with_reducible refine (wire_scan_num.calls k gb231 t236 t237 2 t238 t239 t240 w _ ?side1 ?side2 A14.out).mono ?_); (case side1 => repeat (first | (with_reducible first | exact HI231.out | apply IsS54.alloc | apply IsS54.drewN | apply IsS54.drew | apply IsS54.set_0 | apply IsS54.set_1 | refine IsS54.far ?_ NB231_225.out _) | exact HI231.out)); (case side2 => repeat (first | (with_reducible first | exact HB.out | apply below_alloc | apply pw_below_drewN | apply below_drew1 | refine below_set ?_ (IsS54.ge HI231.out) | refine below_set ?_ GE225.out) | exact HB.out)); rintro e w29 ⟨rfl, hi, hb, hk⟩; refine ⟨_, rfl, ?_⟩; have n0_ := Aside0.mk (KeepBut.blk hk (g' := gb225) (o := .cells #[.int .i64 0, .int .i64 0, .int .i64 0, .int .i64 0, .string (⟨#[]⟩ : ByteArray), .int .i64 0, .int .i64 0, .string (⟨#[]⟩ : ByteArray), .slice none 0 0] 26 (0, 0)) (by (with_reducible repeat (first | refine blk_drewN ?_ _ | refine blk_drew ?_ | refine blk_alloc ?_ _)); exact BK225.out) NB225_231.out (by simp)); have n1_ := Aside0.mk (hb); have n2_ := Aside0.mk (hi); clear BK225; clear HB; clear HI231; have BK225 := n0_; have HB := n1_; have HI231 := n2_; clear n0_ n1_ n2_; (try clear hb); (try clear hb2); (try clear hk); (try clear hi)) | ((with_reducible refine gate_callee (f := 27) rfl ?_); refine goesL_ (some 34) rfl rfl Try.func27 (by kernel_rfl) rfl #[.pointer (some ⟨gb231, 0, none⟩), .int .i64 8] rfl (by (try simp only [List.map_toArray, List.map_cons, List.map_nil]); first | done | rfl | (simp only [List.length_drop, List.length_take]; rfl) | (simp only [ByteArray.size_extract, Nat.min_self]; done) | (simp only [ByteArray.size_extract, Nat.min_self]; rfl)) ?_; (with_reducible refine (wire_scan_num.calls k gb231 t239 t240 8 t241 t242 t243 w _ ?side1 ?side2 A15.out).mono ?_); (case side1 => repeat (first | (with_reducible first | exact HI231.out | apply IsS54.alloc | apply IsS54.drewN | apply IsS54.drew | apply IsS54.set_0 | apply IsS54.set_1 | refine IsS54.far ?_ NB231_225.out _) | exact HI231.out)); (case side2 => repeat (first | (with_reducible first | exact HB.out | apply below_alloc | apply pw_below_drewN | apply below_drew1 | refine below_set ?_ (IsS54.ge HI231.out) | refine below_set ?_ GE225.out) | exact HB.out)); rintro e w30 ⟨rfl, hi, hb, hk⟩; refine ⟨_, rfl, ?_⟩; have n0_ := Aside0.mk (KeepBut.blk hk (g' := gb225) (o := .cells #[.int .i64 0, .int .i64 0, .int .i64 0, .int .i64 0, .string (⟨#[]⟩ : ByteArray), .int .i64 0, .int .i64 0, .string (⟨#[]⟩ : ByteArray), .slice none 0 0] 26 (0, 0)) (by (with_reducible repeat (first | refine blk_drewN ?_ _ | refine blk_drew ?_ | refine blk_alloc ?_ _)); exact BK225.out) NB225_231.out (by simp)); have n1_ := Aside0.mk (hb); have n2_ := Aside0.mk (hi); clear BK225; clear HB; clear HI231; have BK225 := n0_; have HB := n1_; have HI231 := n2_; clear n0_ n1_ n2_; (try clear hb); (try clear hb2); (try clear hk); (try clear hi)) | ((with_reducible refine gate_callee (f := 28) rfl ?_); refine goesL_ (some 36) rfl rfl Try.func28 (by kernel_rfl) rfl #[.pointer (some ⟨gb231, 0, none⟩), .int .i64 1] rfl (by (try simp only [List.map_toArray, List.map_cons, List.map_nil]); first | done | rfl | (simp only [List.length_drop, List.length_take]; rfl) | (simp only [ByteArray.size_extract, Nat.min_self]; done) | (simp only [ByteArray.size_extract, Nat.min_self]; rfl)) ?_; (with_reducible refine (wire_scan_text.calls k gb231 t242 t243 1 t244 t245 t246 w _ ?side1 ?side2 A16.out).mono ?_); (case side1 => repeat (first | (with_reducible first | exact HI231.out | apply IsS54.alloc | apply IsS54.drewN | apply IsS54.drew | apply IsS54.set_0 | apply IsS54.set_1 | refine IsS54.far ?_ NB231_225.out _) | exact HI231.out)); (case side2 => repeat (first | (with_reducible first | exact HB.out | apply below_alloc | apply pw_below_drewN | apply below_drew1 | refine below_set ?_ (IsS54.ge HI231.out) | refine below_set ?_ GE225.out) | exact HB.out)); rintro e w31 ⟨rfl, hi, hb, hk⟩; refine ⟨_, rfl, ?_⟩; have n0_ := Aside0.mk (KeepBut.blk hk (g' := gb225) (o := .cells #[.int .i64 0, .int .i64 0, .int .i64 0, .int .i64 0, .string (⟨#[]⟩ : ByteArray), .int .i64 0, .int .i64 0, .string (⟨#[]⟩ : ByteArray), .slice none 0 0] 26 (0, 0)) (by (with_reducible repeat (first | refine blk_drewN ?_ _ | refine blk_drew ?_ | refine blk_alloc ?_ _)); exact BK225.out) NB225_231.out (by simp)); have n1_ := Aside0.mk (hb); have n2_ := Aside0.mk (hi); clear BK225; clear HB; clear HI231; have BK225 := n0_; have HB := n1_; have HI231 := n2_; clear n0_ n1_ n2_; (try clear hb); (try clear hb2); (try clear hk); (try clear hi)) | ((with_reducible refine gate_dst (N := 6) rfl ?_); refine box_event ?hg (N := 6) ?hd (cs := #[.int .i64 0, .int .i64 0, .int .i64 0, .int .i64 0, .string (⟨#[]⟩ : ByteArray), .int .i64 0, .int .i64 0, .string (⟨#[]⟩ : ByteArray), .slice none 0 0]) (t := 26) ?hr ?_; (case hd => rfl); (case hg => rfl); (case hr => first | (go_simp; done) | (go_simp; rfl)); intro gb247 hg w32 hbox hb; have n0_ := Aside0.mk (blk_below (g := gb225) (o := .cells #[.int .i64 0, .int .i64 0, .int .i64 0, .int .i64 0, .string (⟨#[]⟩ : ByteArray), .int .i64 0, .int .i64 0, .string (⟨#[]⟩ : ByteArray), .slice none 0 0] 26 (0, 0)) (by (with_reducible repeat (first | refine blk_drewN ?_ _ | refine blk_drew ?_ | refine blk_alloc ?_ _)); exact BK225.out) hb); have n1_ := Aside0.mk (IsS54.below (by repeat (first | (with_reducible first | exact HI231.out | apply IsS54.alloc | apply IsS54.drewN | apply IsS54.drew | apply IsS54.set_0 | apply IsS54.set_1 | refine IsS54.far ?_ NB231_225.out _) | exact HI231.out)) hb); have n2_ := Aside0.mk (below_step (by repeat (first | (with_reducible first | exact HB.out | apply below_alloc | apply pw_below_drewN | apply below_drew1 | refine below_set ?_ (IsS54.ge HI231.out) | refine below_set ?_ GE225.out) | exact HB.out)) hb); have n3_ := Aside0.mk (hbox); have n4_ := Aside0.mk ((by rw [hg]; exact (below_size (by repeat (first | (with_reducible first | exact HB.out | apply below_alloc | apply pw_below_drewN | apply below_drew1 | refine below_set ?_ (IsS54.ge HI231.out) | refine below_set ?_ GE225.out) | exact HB.out))) : w.heap.size ≤ gb247)); have n5_ := Aside0.mk ((by rw [hg]; exact (below_size (by repeat (first | (with_reducible first | exact HB.out | apply below_alloc | apply pw_below_drewN | apply below_drew1 | refine below_set ?_ (IsS54.ge HI231.out) | refine below_set ?_ GE225.out) | exact HB.out))) : w.heap.size ≤ gb247)); have n6_ := Aside0.mk ((by rw [hg]; exact Nat.ne_of_lt (blk_lt (g := gb225) (o := .cells #[.int .i64 0, .int .i64 0, .int .i64 0, .int .i64 0, .string (⟨#[]⟩ : ByteArray), .int .i64 0, .int .i64 0, .string (⟨#[]⟩ : ByteArray), .slice none 0 0] 26 (0, 0)) (by (with_reducible repeat (first | refine blk_drewN ?_ _ | refine blk_drew ?_ | refine blk_alloc ?_ _)); exact BK225.out)) : gb225 ≠ gb247)); have n7_ := Aside0.mk ((by rw [hg]; exact Nat.ne_of_gt (blk_lt (g := gb225) (o := .cells #[.int .i64 0, .int .i64 0, .int .i64 0, .int .i64 0, .string (⟨#[]⟩ : ByteArray), .int .i64 0, .int .i64 0, .string (⟨#[]⟩ : ByteArray), .slice none 0 0] 26 (0, 0)) (by (with_reducible repeat (first | refine blk_drewN ?_ _ | refine blk_drew ?_ | refine blk_alloc ?_ _)); exact BK225.out)) : gb247 ≠ gb225)); have n8_ := Aside0.mk ((by rw [hg]; exact Nat.ne_of_lt (IsS54.lt (show IsS54 w _ gb231 t245 t246 from by repeat (first | (with_reducible first | exact HI231.out | apply IsS54.alloc | apply IsS54.drewN | apply IsS54.drew | apply IsS54.set_0 | apply IsS54.set_1 | refine IsS54.far ?_ NB231_225.out _) | exact HI231.out))) : gb231 ≠ gb247)); have n9_ := Aside0.mk ((by rw [hg]; exact Nat.ne_of_gt (IsS54.lt (show IsS54 w _ gb231 t245 t246 from by repeat (first | (with_reducible first | exact HI231.out | apply IsS54.alloc | apply IsS54.drewN | apply IsS54.drew | apply IsS54.set_0 | apply IsS54.set_1 | refine IsS54.far ?_ NB231_225.out _) | exact HI231.out))) : gb247 ≠ gb231)); clear BK225; clear HI231; clear HB; have BK225 := n0_; have HI231 := n1_; have HB := n2_; have BK247 := n3_; have GW247 := n4_; have GE247 := n5_; have NB225_247 := n6_; have NB247_225 := n7_; have NB231_247 := n8_; have NB247_231 := n9_; clear n0_ n1_ n2_ n3_ n4_ n5_ n6_ n7_ n8_ n9_; clear hb hbox hg; have hnb33 := NB247_225.out; have hnc33 := NB225_247.out; have hnb34 := NB247_231.out; have hnc34 := NB231_247.out; have hcz35_0 : w32.cell? ⟨gb247, 0, none⟩ = some (.int .i64 0) := (blk_cell BK247.out 0).trans rfl; have hcz35_1 : w32.cell? ⟨gb247, 1, none⟩ = some (.int .i64 0) := (blk_cell BK247.out 1).trans rfl; have hcz35_2 : w32.cell? ⟨gb247, 2, none⟩ = some (.int .i64 0) := (blk_cell BK247.out 2).trans rfl; have hcz35_3 : w32.cell? ⟨gb247, 3, none⟩ = some (.int .i64 0) := (blk_cell BK247.out 3).trans rfl; have hcz35_4 : w32.cell? ⟨gb247, 4, none⟩ = some (.string (⟨#[]⟩ : ByteArray)) := (blk_cell BK247.out 4).trans rfl; have hcz35_5 : w32.cell? ⟨gb247, 5, none⟩ = some (.int .i64 0) := (blk_cell BK247.out 5).trans rfl; have hcz35_6 : w32.cell? ⟨gb247, 6, none⟩ = some (.int .i64 0) := (blk_cell BK247.out 6).trans rfl; have hcz35_7 : w32.cell? ⟨gb247, 7, none⟩ = some (.string (⟨#[]⟩ : ByteArray)) := (blk_cell BK247.out 7).trans rfl; have hcz35_8 : w32.cell? ⟨gb247, 8, none⟩ = some (.slice none 0 0) := (blk_cell BK247.out 8).trans rfl; have hfz35_0 := blk_frozen BK247.out 0; have hfz35_1 := blk_frozen BK247.out 1; have hfz35_2 := blk_frozen BK247.out 2; have hfz35_3 := blk_frozen BK247.out 3; have hfz35_4 := blk_frozen BK247.out 4; have hfz35_5 := blk_frozen BK247.out 5; have hfz35_6 := blk_frozen BK247.out 6; have hfz35_7 := blk_frozen BK247.out 7; have hfz35_8 := blk_frozen BK247.out 8) | ((with_reducible refine gate_callee (f := 27) rfl ?_); refine goesL_ (some 39) rfl rfl Try.func27 (by kernel_rfl) rfl #[.pointer (some ⟨gb231, 0, none⟩), .int .i64 8] rfl (by (try simp only [List.map_toArray, List.map_cons, List.map_nil]); first | done | rfl | (simp only [List.length_drop, List.length_take]; rfl) | (simp only [ByteArray.size_extract, Nat.min_self]; done) | (simp only [ByteArray.size_extract, Nat.min_self]; rfl)) ?_; (with_reducible refine (wire_scan_num.calls k gb231 t245 t246 8 t248 t249 t250 w _ ?side1 ?side2 A17.out).mono ?_); (case side1 => repeat (first | (with_reducible first | exact HI231.out | apply IsS54.alloc | apply IsS54.drewN | apply IsS54.drew | apply IsS54.set_0 | apply IsS54.set_1 | refine IsS54.far ?_ NB231_225.out _ | refine IsS54.far ?_ NB231_247.out _) | exact HI231.out)); (case side2 => repeat (first | (with_reducible first | exact HB.out | apply below_alloc | apply pw_below_drewN | apply below_drew1 | refine below_set ?_ (IsS54.ge HI231.out) | refine below_set ?_ GE225.out | refine below_set ?_ GE247.out) | exact HB.out)); rintro e w36 ⟨rfl, hi, hb, hk⟩; refine ⟨_, rfl, ?_⟩; have n0_ := Aside0.mk (KeepBut.blk hk (g' := gb225) (o := .cells #[.int .i64 0, .int .i64 0, .int .i64 0, .int .i64 0, .string (⟨#[]⟩ : ByteArray), .int .i64 0, .int .i64 0, .string (⟨#[]⟩ : ByteArray), .slice none 0 0] 26 (0, 0)) (by (with_reducible repeat (first | refine blk_drewN ?_ _ | refine blk_drew ?_ | refine blk_alloc ?_ _)); refine blk_far ?_ NB225_247.out _; (with_reducible repeat (first | refine blk_drewN ?_ _ | refine blk_drew ?_ | refine blk_alloc ?_ _)); refine blk_far ?_ NB225_247.out _; (with_reducible repeat (first | refine blk_drewN ?_ _ | refine blk_drew ?_ | refine blk_alloc ?_ _)); refine blk_far ?_ NB225_247.out _; (with_reducible repeat (first | refine blk_drewN ?_ _ | refine blk_drew ?_ | refine blk_alloc ?_ _)); refine blk_far ?_ NB225_247.out _; (with_reducible repeat (first | refine blk_drewN ?_ _ | refine blk_drew ?_ | refine blk_alloc ?_ _)); refine blk_far ?_ NB225_247.out _; (with_reducible repeat (first | refine blk_drewN ?_ _ | refine blk_drew ?_ | refine blk_alloc ?_ _)); refine blk_far ?_ NB225_247.out _; (with_reducible repeat (first | refine blk_drewN ?_ _ | refine blk_drew ?_ | refine blk_alloc ?_ _)); refine blk_far ?_ NB225_247.out _; (with_reducible repeat (first | refine blk_drewN ?_ _ | refine blk_drew ?_ | refine blk_alloc ?_ _)); refine blk_far ?_ NB225_247.out _; (with_reducible repeat (first | refine blk_drewN ?_ _ | refine blk_drew ?_ | refine blk_alloc ?_ _)); refine blk_far ?_ NB225_247.out _; (with_reducible repeat (first | refine blk_drewN ?_ _ | refine blk_drew ?_ | refine blk_alloc ?_ _)); exact BK225.out) NB225_231.out (by simp)); have n1_ := Aside0.mk (KeepBut.blk hk (g' := gb247) (o := .cells #[.int .i64 t232, .int .i64 t235, .int .i64 t238, .int .i64 t241, .string t244, .int .i64 0, .int .i64 0, .string (⟨#[]⟩ : ByteArray), .slice none 0 0] 26 (0, 0)) (by (with_reducible repeat (first | refine blk_drewN ?_ _ | refine blk_drew ?_ | refine blk_alloc ?_ _)); refine blk_put (cs := #[.int .i64 t232, .int .i64 t235, .int .i64 t238, .int .i64 t241, .string t244, .int .i64 0, .int .i64 0, .string (⟨#[]⟩ : ByteArray), .slice none 0 0]) ?_ 8 _ rfl; (with_reducible repeat (first | refine blk_drewN ?_ _ | refine blk_drew ?_ | refine blk_alloc ?_ _)); refine blk_put (cs := #[.int .i64 t232, .int .i64 t235, .int .i64 t238, .int .i64 t241, .string t244, .int .i64 0, .int .i64 0, .string (⟨#[]⟩ : ByteArray), .slice none 0 0]) ?_ 7 _ rfl; (with_reducible repeat (first | refine blk_drewN ?_ _ | refine blk_drew ?_ | refine blk_alloc ?_ _)); refine blk_put (cs := #[.int .i64 t232, .int .i64 t235, .int .i64 t238, .int .i64 t241, .string t244, .int .i64 0, .int .i64 0, .string (⟨#[]⟩ : ByteArray), .slice none 0 0]) ?_ 6 _ rfl; (with_reducible repeat (first | refine blk_drewN ?_ _ | refine blk_drew ?_ | refine blk_alloc ?_ _)); refine blk_put (cs := #[.int .i64 t232, .int .i64 t235, .int .i64 t238, .int .i64 t241, .string t244, .int .i64 0, .int .i64 0, .string (⟨#[]⟩ : ByteArray), .slice none 0 0]) ?_ 5 _ rfl; (with_reducible repeat (first | refine blk_drewN ?_ _ | refine blk_drew ?_ | refine blk_alloc ?_ _)); refine blk_put (cs := #[.int .i64 t232, .int .i64 t235, .int .i64 t238, .int .i64 t241, .string (⟨#[]⟩ : ByteArray), .int .i64 0, .int .i64 0, .string (⟨#[]⟩ : ByteArray), .slice none 0 0]) ?_ 4 _ rfl; (with_reducible repeat (first | refine blk_drewN ?_ _ | refine blk_drew ?_ | refine blk_alloc ?_ _)); refine blk_put (cs := #[.int .i64 t232, .int .i64 t235, .int .i64 t238, .int .i64 0, .string (⟨#[]⟩ : ByteArray), .int .i64 0, .int .i64 0, .string (⟨#[]⟩ : ByteArray), .slice none 0 0]) ?_ 3 _ rfl; (with_reducible repeat (first | refine blk_drewN ?_ _ | refine blk_drew ?_ | refine blk_alloc ?_ _)); refine blk_put (cs := #[.int .i64 t232, .int .i64 t235, .int .i64 0, .int .i64 0, .string (⟨#[]⟩ : ByteArray), .int .i64 0, .int .i64 0, .string (⟨#[]⟩ : ByteArray), .slice none 0 0]) ?_ 2 _ rfl; (with_reducible repeat (first | refine blk_drewN ?_ _ | refine blk_drew ?_ | refine blk_alloc ?_ _)); refine blk_put (cs := #[.int .i64 t232, .int .i64 0, .int .i64 0, .int .i64 0, .string (⟨#[]⟩ : ByteArray), .int .i64 0, .int .i64 0, .string (⟨#[]⟩ : ByteArray), .slice none 0 0]) ?_ 1 _ rfl; (with_reducible repeat (first | refine blk_drewN ?_ _ | refine blk_drew ?_ | refine blk_alloc ?_ _)); refine blk_put (cs := #[.int .i64 0, .int .i64 0, .int .i64 0, .int .i64 0, .string (⟨#[]⟩ : ByteArray), .int .i64 0, .int .i64 0, .string (⟨#[]⟩ : ByteArray), .slice none 0 0]) ?_ 0 _ rfl; (with_reducible repeat (first | refine blk_drewN ?_ _ | refine blk_drew ?_ | refine blk_alloc ?_ _)); exact BK247.out) NB247_231.out (by simp)); have n2_ := Aside0.mk (hb); have n3_ := Aside0.mk (hi); clear BK225; clear BK247; clear HB; clear HI231; have BK225 := n0_; have BK247 := n1_; have HB := n2_; have HI231 := n3_; clear n0_ n1_ n2_ n3_; (try clear hb); (try clear hb2); (try clear hk); (try clear hi); have hcz37_0 : w36.cell? ⟨gb247, 0, none⟩ = some (.int .i64 t232) := (blk_cell BK247.out 0).trans rfl; have hcz37_1 : w36.cell? ⟨gb247, 1, none⟩ = some (.int .i64 t235) := (blk_cell BK247.out 1).trans rfl; have hcz37_2 : w36.cell? ⟨gb247, 2, none⟩ = some (.int .i64 t238) := (blk_cell BK247.out 2).trans rfl; have hcz37_3 : w36.cell? ⟨gb247, 3, none⟩ = some (.int .i64 t241) := (blk_cell BK247.out 3).trans rfl; have hcz37_4 : w36.cell? ⟨gb247, 4, none⟩ = some (.string t244) := (blk_cell BK247.out 4).trans rfl; have hcz37_5 : w36.cell? ⟨gb247, 5, none⟩ = some (.int .i64 0) := (blk_cell BK247.out 5).trans rfl; have hcz37_6 : w36.cell? ⟨gb247, 6, none⟩ = some (.int .i64 0) := (blk_cell BK247.out 6).trans rfl; have hcz37_7 : w36.cell? ⟨gb247, 7, none⟩ = some (.string (⟨#[]⟩ : ByteArray)) := (blk_cell BK247.out 7).trans rfl; have hcz37_8 : w36.cell? ⟨gb247, 8, none⟩ = some (.slice none 0 0) := (blk_cell BK247.out 8).trans rfl; have hfz37_0 := blk_frozen BK247.out 0; have hfz37_1 := blk_frozen BK247.out 1; have hfz37_2 := blk_frozen BK247.out 2; have hfz37_3 := blk_frozen BK247.out 3; have hfz37_4 := blk_frozen BK247.out 4; have hfz37_5 := blk_frozen BK247.out 5; have hfz37_6 := blk_frozen BK247.out 6; have hfz37_7 := blk_frozen BK247.out 7; have hfz37_8 := blk_frozen BK247.out 8) | ((with_reducible refine gate_callee (f := 27) rfl ?_); refine goesL_ (some 43) rfl rfl Try.func27 (by kernel_rfl) rfl #[.pointer (some ⟨gb231, 0, none⟩), .int .i64 2] rfl (by (try simp only [List.map_toArray, List.map_cons, List.map_nil]); first | done | rfl | (simp only [List.length_drop, List.length_take]; rfl) | (simp only [ByteArray.size_extract, Nat.min_self]; done) | (simp only [ByteArray.size_extract, Nat.min_self]; rfl)) ?_; (with_reducible refine (wire_scan_num.calls k gb231 t249 t250 2 t251 t252 t253 w _ ?side1 ?side2 A18.out).mono ?_); (case side1 => repeat (first | (with_reducible first | exact HI231.out | apply IsS54.alloc | apply IsS54.drewN | apply IsS54.drew | apply IsS54.set_0 | apply IsS54.set_1 | refine IsS54.far ?_ NB231_225.out _ | refine IsS54.far ?_ NB231_247.out _) | exact HI231.out)); (case side2 => repeat (first | (with_reducible first | exact HB.out | apply below_alloc | apply pw_below_drewN | apply below_drew1 | refine below_set ?_ (IsS54.ge HI231.out) | refine below_set ?_ GE225.out | refine below_set ?_ GE247.out) | exact HB.out)); rintro e w38 ⟨rfl, hi, hb, hk⟩; refine ⟨_, rfl, ?_⟩; have n0_ := Aside0.mk (KeepBut.blk hk (g' := gb225) (o := .cells #[.int .i64 0, .int .i64 0, .int .i64 0, .int .i64 0, .string (⟨#[]⟩ : ByteArray), .int .i64 0, .int .i64 0, .string (⟨#[]⟩ : ByteArray), .slice none 0 0] 26 (0, 0)) (by (with_reducible repeat (first | refine blk_drewN ?_ _ | refine blk_drew ?_ | refine blk_alloc ?_ _)); refine blk_far ?_ NB225_247.out _; (with_reducible repeat (first | refine blk_drewN ?_ _ | refine blk_drew ?_ | refine blk_alloc ?_ _)); exact BK225.out) NB225_231.out (by simp)); have n1_ := Aside0.mk (KeepBut.blk hk (g' := gb247) (o := .cells #[.int .i64 t232, .int .i64 t235, .int .i64 t238, .int .i64 t241, .string t244, .int .i64 t248, .int .i64 0, .string (⟨#[]⟩ : ByteArray), .slice none 0 0] 26 (0, 0)) (by (with_reducible repeat (first | refine blk_drewN ?_ _ | refine blk_drew ?_ | refine blk_alloc ?_ _)); refine blk_put (cs := #[.int .i64 t232, .int .i64 t235, .int .i64 t238, .int .i64 t241, .string t244, .int .i64 0, .int .i64 0, .string (⟨#[]⟩ : ByteArray), .slice none 0 0]) ?_ 5 _ rfl; (with_reducible repeat (first | refine blk_drewN ?_ _ | refine blk_drew ?_ | refine blk_alloc ?_ _)); exact BK247.out) NB247_231.out (by simp)); have n2_ := Aside0.mk (hb); have n3_ := Aside0.mk (hi); clear BK225; clear BK247; clear HB; clear HI231; have BK225 := n0_; have BK247 := n1_; have HB := n2_; have HI231 := n3_; clear n0_ n1_ n2_ n3_; (try clear hb); (try clear hb2); (try clear hk); (try clear hi); have hcz39_0 : w38.cell? ⟨gb247, 0, none⟩ = some (.int .i64 t232) := (blk_cell BK247.out 0).trans rfl; have hcz39_1 : w38.cell? ⟨gb247, 1, none⟩ = some (.int .i64 t235) := (blk_cell BK247.out 1).trans rfl; have hcz39_2 : w38.cell? ⟨gb247, 2, none⟩ = some (.int .i64 t238) := (blk_cell BK247.out 2).trans rfl; have hcz39_3 : w38.cell? ⟨gb247, 3, none⟩ = some (.int .i64 t241) := (blk_cell BK247.out 3).trans rfl; have hcz39_4 : w38.cell? ⟨gb247, 4, none⟩ = some (.string t244) := (blk_cell BK247.out 4).trans rfl; have hcz39_5 : w38.cell? ⟨gb247, 5, none⟩ = some (.int .i64 t248) := (blk_cell BK247.out 5).trans rfl; have hcz39_6 : w38.cell? ⟨gb247, 6, none⟩ = some (.int .i64 0) := (blk_cell BK247.out 6).trans rfl; have hcz39_7 : w38.cell? ⟨gb247, 7, none⟩ = some (.string (⟨#[]⟩ : ByteArray)) := (blk_cell BK247.out 7).trans rfl; have hcz39_8 : w38.cell? ⟨gb247, 8, none⟩ = some (.slice none 0 0) := (blk_cell BK247.out 8).trans rfl; have hfz39_0 := blk_frozen BK247.out 0; have hfz39_1 := blk_frozen BK247.out 1; have hfz39_2 := blk_frozen BK247.out 2; have hfz39_3 := blk_frozen BK247.out 3; have hfz39_4 := blk_frozen BK247.out 4; have hfz39_5 := blk_frozen BK247.out 5; have hfz39_6 := blk_frozen BK247.out 6; have hfz39_7 := blk_frozen BK247.out 7; have hfz39_8 := blk_frozen BK247.out 8) | ((with_reducible refine gate_callee (f := 28) rfl ?_); refine goesL_ (some 47) rfl rfl Try.func28 (by kernel_rfl) rfl #[.pointer (some ⟨gb231, 0, none⟩), .int .i64 4] rfl (by (try simp only [List.map_toArray, List.map_cons, List.map_nil]); first | done | rfl | (simp only [List.length_drop, List.length_take]; rfl) | (simp only [ByteArray.size_extract, Nat.min_self]; done) | (simp only [ByteArray.size_extract, Nat.min_self]; rfl)) ?_; (with_reducible refine (wire_scan_text.calls k gb231 t252 t253 4 t254 t255 t256 w _ ?side1 ?side2 A19.out).mono ?_); (case side1 => repeat (first | (with_reducible first | exact HI231.out | apply IsS54.alloc | apply IsS54.drewN | apply IsS54.drew | apply IsS54.set_0 | apply IsS54.set_1 | refine IsS54.far ?_ NB231_225.out _ | refine IsS54.far ?_ NB231_247.out _) | exact HI231.out)); (case side2 => repeat (first | (with_reducible first | exact HB.out | apply below_alloc | apply pw_below_drewN | apply below_drew1 | refine below_set ?_ (IsS54.ge HI231.out) | refine below_set ?_ GE225.out | refine below_set ?_ GE247.out) | exact HB.out)); rintro e w40 ⟨rfl, hi, hb, hk⟩; refine ⟨_, rfl, ?_⟩; have n0_ := Aside0.mk (KeepBut.blk hk (g' := gb225) (o := .cells #[.int .i64 0, .int .i64 0, .int .i64 0, .int .i64 0, .string (⟨#[]⟩ : ByteArray), .int .i64 0, .int .i64 0, .string (⟨#[]⟩ : ByteArray), .slice none 0 0] 26 (0, 0)) (by (with_reducible repeat (first | refine blk_drewN ?_ _ | refine blk_drew ?_ | refine blk_alloc ?_ _)); refine blk_far ?_ NB225_247.out _; (with_reducible repeat (first | refine blk_drewN ?_ _ | refine blk_drew ?_ | refine blk_alloc ?_ _)); exact BK225.out) NB225_231.out (by simp)); have n1_ := Aside0.mk (KeepBut.blk hk (g' := gb247) (o := .cells #[.int .i64 t232, .int .i64 t235, .int .i64 t238, .int .i64 t241, .string t244, .int .i64 t248, .int .i64 t251, .string (⟨#[]⟩ : ByteArray), .slice none 0 0] 26 (0, 0)) (by (with_reducible repeat (first | refine blk_drewN ?_ _ | refine blk_drew ?_ | refine blk_alloc ?_ _)); refine blk_put (cs := #[.int .i64 t232, .int .i64 t235, .int .i64 t238, .int .i64 t241, .string t244, .int .i64 t248, .int .i64 0, .string (⟨#[]⟩ : ByteArray), .slice none 0 0]) ?_ 6 _ rfl; (with_reducible repeat (first | refine blk_drewN ?_ _ | refine blk_drew ?_ | refine blk_alloc ?_ _)); exact BK247.out) NB247_231.out (by simp)); have n2_ := Aside0.mk (hb); have n3_ := Aside0.mk (hi); clear BK225; clear BK247; clear HB; clear HI231; have BK225 := n0_; have BK247 := n1_; have HB := n2_; have HI231 := n3_; clear n0_ n1_ n2_ n3_; (try clear hb); (try clear hb2); (try clear hk); (try clear hi); have hcz41_0 : w40.cell? ⟨gb247, 0, none⟩ = some (.int .i64 t232) := (blk_cell BK247.out 0).trans rfl; have hcz41_1 : w40.cell? ⟨gb247, 1, none⟩ = some (.int .i64 t235) := (blk_cell BK247.out 1).trans rfl; have hcz41_2 : w40.cell? ⟨gb247, 2, none⟩ = some (.int .i64 t238) := (blk_cell BK247.out 2).trans rfl; have hcz41_3 : w40.cell? ⟨gb247, 3, none⟩ = some (.int .i64 t241) := (blk_cell BK247.out 3).trans rfl; have hcz41_4 : w40.cell? ⟨gb247, 4, none⟩ = some (.string t244) := (blk_cell BK247.out 4).trans rfl; have hcz41_5 : w40.cell? ⟨gb247, 5, none⟩ = some (.int .i64 t248) := (blk_cell BK247.out 5).trans rfl; have hcz41_6 : w40.cell? ⟨gb247, 6, none⟩ = some (.int .i64 t251) := (blk_cell BK247.out 6).trans rfl; have hcz41_7 : w40.cell? ⟨gb247, 7, none⟩ = some (.string (⟨#[]⟩ : ByteArray)) := (blk_cell BK247.out 7).trans rfl; have hcz41_8 : w40.cell? ⟨gb247, 8, none⟩ = some (.slice none 0 0) := (blk_cell BK247.out 8).trans rfl; have hfz41_0 := blk_frozen BK247.out 0; have hfz41_1 := blk_frozen BK247.out 1; have hfz41_2 := blk_frozen BK247.out 2; have hfz41_3 := blk_frozen BK247.out 3; have hfz41_4 := blk_frozen BK247.out 4; have hfz41_5 := blk_frozen BK247.out 5; have hfz41_6 := blk_frozen BK247.out 6; have hfz41_7 := blk_frozen BK247.out 7; have hfz41_8 := blk_frozen BK247.out 8) | ((with_reducible refine gate_callee (f := 27) rfl ?_); refine goesL_ (some 50) rfl rfl Try.func27 (by kernel_rfl) rfl #[.pointer (some ⟨gb231, 0, none⟩), .int .i64 2] rfl (by (try simp only [List.map_toArray, List.map_cons, List.map_nil]); first | done | rfl | (simp only [List.length_drop, List.length_take]; rfl) | (simp only [ByteArray.size_extract, Nat.min_self]; done) | (simp only [ByteArray.size_extract, Nat.min_self]; rfl)) ?_; (with_reducible refine (wire_scan_num.calls k gb231 t255 t256 2 t257 t258 t259 w _ ?side1 ?side2 A20.out).mono ?_); (case side1 => repeat (first | (with_reducible first | exact HI231.out | apply IsS54.alloc | apply IsS54.drewN | apply IsS54.drew | apply IsS54.set_0 | apply IsS54.set_1 | refine IsS54.far ?_ NB231_225.out _ | refine IsS54.far ?_ NB231_247.out _) | exact HI231.out)); (case side2 => repeat (first | (with_reducible first | exact HB.out | apply below_alloc | apply pw_below_drewN | apply below_drew1 | refine below_set ?_ (IsS54.ge HI231.out) | refine below_set ?_ GE225.out | refine below_set ?_ GE247.out) | exact HB.out)); rintro e w42 ⟨rfl, hi, hb, hk⟩; refine ⟨_, rfl, ?_⟩; have n0_ := Aside0.mk (KeepBut.blk hk (g' := gb225) (o := .cells #[.int .i64 0, .int .i64 0, .int .i64 0, .int .i64 0, .string (⟨#[]⟩ : ByteArray), .int .i64 0, .int .i64 0, .string (⟨#[]⟩ : ByteArray), .slice none 0 0] 26 (0, 0)) (by (with_reducible repeat (first | refine blk_drewN ?_ _ | refine blk_drew ?_ | refine blk_alloc ?_ _)); refine blk_far ?_ NB225_247.out _; (with_reducible repeat (first | refine blk_drewN ?_ _ | refine blk_drew ?_ | refine blk_alloc ?_ _)); exact BK225.out) NB225_231.out (by simp)); have n1_ := Aside0.mk (KeepBut.blk hk (g' := gb247) (o := .cells #[.int .i64 t232, .int .i64 t235, .int .i64 t238, .int .i64 t241, .string t244, .int .i64 t248, .int .i64 t251, .string t254, .slice none 0 0] 26 (0, 0)) (by (with_reducible repeat (first | refine blk_drewN ?_ _ | refine blk_drew ?_ | refine blk_alloc ?_ _)); refine blk_put (cs := #[.int .i64 t232, .int .i64 t235, .int .i64 t238, .int .i64 t241, .string t244, .int .i64 t248, .int .i64 t251, .string (⟨#[]⟩ : ByteArray), .slice none 0 0]) ?_ 7 _ rfl; (with_reducible repeat (first | refine blk_drewN ?_ _ | refine blk_drew ?_ | refine blk_alloc ?_ _)); exact BK247.out) NB247_231.out (by simp)); have n2_ := Aside0.mk (hb); have n3_ := Aside0.mk (hi); clear BK225; clear BK247; clear HB; clear HI231; have BK225 := n0_; have BK247 := n1_; have HB := n2_; have HI231 := n3_; clear n0_ n1_ n2_ n3_; (try clear hb); (try clear hb2); (try clear hk); (try clear hi)))
          (try simp only [Act.put, List.setIfInBounds_toArray, List.set_cons_zero, List.set_cons_succ])
          go_cut [] (fun wc => ∃ (kq : Nat) (x232000_20 : ByteArray) (x232001_20 : Bool) (x248008_20 : List ByteArray) (u248008 : Value), Aside0 (wire_Decode.j1 kq x232000_20 x232001_20 t232 t235 t238 t241 t244 t248 t251 t254 x248008_20 = some (r1, r2, r3, r4, r5, r6, r7, r8, r9, r10)) ∧ Aside0 (kq ≤ k) ∧ Aside0 (Kd.R Kd.string 9 wc w.heap.size (fun _ => True) u248008 x248008_20) ∧ Aside0 (wc.heap[gb225]? = some (.cells #[.int .i64 0, .int .i64 0, .int .i64 0, .int .i64 0, .string (⟨#[]⟩ : ByteArray), .int .i64 0, .int .i64 0, .string (⟨#[]⟩ : ByteArray), (.slice none 0 0)] 26 (0, 0))) ∧ Aside0 (wc.heap[gb247]? = some (.cells #[.int .i64 t232, .int .i64 t235, .int .i64 t238, .int .i64 t241, .string t244, .int .i64 t248, .int .i64 t251, .string t254, u248008] 26 (0, 0))) ∧ Aside0 (IsS54 w wc gb231 x232000_20 x232001_20) ∧ Aside0 (Below w.heap.size w wc))
          case first =>
            have H := HC21.out
            clear HC21
            have H' := Aside0.mk H
            clear H
            go_wp2
            go_loopg [7] k (fun kq v7 w' => ∃ (x7_1 : Int) (x232000_1 : ByteArray) (x232001_1 : Bool) (x248008_1 : List ByteArray) (u248008 : Value), v7 = .int .i64 x7_1 ∧ Aside0 (wire_Decode.l0 kq x7_1 x232000_1 x232001_1 t232 t235 t238 t241 t244 t248 t251 t254 x248008_1 = some (r1, r2, r3, r4, r5, r6, r7, r8, r9, r10)) ∧ Aside0 (kq ≤ k) ∧ Aside0 (Kd.R Kd.string 9 w' w.heap.size (fun _ => True) u248008 x248008_1) ∧ Aside0 (w'.heap[gb225]? = some (.cells #[.int .i64 0, .int .i64 0, .int .i64 0, .int .i64 0, .string (⟨#[]⟩ : ByteArray), .int .i64 0, .int .i64 0, .string (⟨#[]⟩ : ByteArray), (.slice none 0 0)] 26 (0, 0))) ∧ Aside0 (w'.heap[gb247]? = some (.cells #[.int .i64 t232, .int .i64 t235, .int .i64 t238, .int .i64 t241, .string t244, .int .i64 t248, .int .i64 t251, .string t254, u248008] 26 (0, 0))) ∧ Aside0 (IsS54 w w' gb231 x232000_1 x232001_1) ∧ Aside0 (Below w.heap.size w w'))
            case atStart => exact ⟨(t257), (t258), (t259), (([] : List ByteArray)), (.slice none 0 0), (by first | rfl | (simp; done) | (simp [*]; done)), H', ⟨Nat.le_refl _⟩, ⟨by first | exact Kd.R_nil _ _ _ _ _ | exact Kd.N_nil _ _ _ _ _ | exact Kd.V_nil _ _ _ _ _ | exact Kd.Q_nil _ _ _ _ _ | exact Kd.S_nil _ _ _ _ _⟩, ⟨by (with_reducible repeat (first | refine blk_drewN ?_ _ | refine blk_drew ?_ | refine blk_alloc ?_ _)); exact BK225.out⟩, ⟨by (with_reducible repeat (first | refine blk_drewN ?_ _ | refine blk_drew ?_ | refine blk_alloc ?_ _)); exact BK247.out⟩, ⟨by repeat (first | (with_reducible first | exact HI231.out | apply IsS54.alloc | apply IsS54.drewN | apply IsS54.drew | apply IsS54.set_0 | apply IsS54.set_1 | refine IsS54.far ?_ NB231_225.out _ | refine IsS54.far ?_ NB231_247.out _) | exact HI231.out)⟩, ⟨by repeat (first | (with_reducible first | exact HB.out | apply below_alloc | apply pw_below_drewN | apply below_drew1 | refine below_set ?_ (IsS54.ge HI231.out) | refine below_set ?_ GE225.out | refine below_set ?_ GE247.out) | exact HB.out)⟩⟩
            case round =>
              clear H'
              try clear c1
              try clear c2
              try clear c2b0
              try clear c2b1
              try clear p2
              try clear c3
              try clear c5
              try clear c5b0
              try clear c5b1
              try clear c6
              try clear c6b0
              try clear c6b1
              try clear c8
              try clear c8b0
              try clear c10
              try clear c10b0
              try clear c10b1
              try clear c11
              try clear c11b0
              try clear c15
              try clear c20
              try clear c27
              try clear c28
              try clear c33
              try clear c34
              try clear hcz35_0
              try clear hcz35_1
              try clear hcz35_2
              try clear hcz35_3
              try clear hcz35_4
              try clear hcz35_5
              try clear hcz35_6
              try clear hcz35_7
              try clear hcz35_8
              try clear hcz37_0
              try clear hcz37_1
              try clear hcz37_2
              try clear hcz37_3
              try clear hcz37_4
              try clear hcz37_5
              try clear hcz37_6
              try clear hcz37_7
              try clear hcz37_8
              try clear hcz39_0
              try clear hcz39_1
              try clear hcz39_2
              try clear hcz39_3
              try clear hcz39_4
              try clear hcz39_5
              try clear hcz39_6
              try clear hcz39_7
              try clear hcz39_8
              try clear hcz41_0
              try clear hcz41_1
              try clear hcz41_2
              try clear hcz41_3
              try clear hcz41_4
              try clear hcz41_5
              try clear hcz41_6
              try clear hcz41_7
              try clear hcz41_8
              try clear hcz4_0
              try clear hcz4_1
              try clear hcz4_2
              try clear hcz4_3
              try clear hcz4_4
              try clear hcz4_5
              try clear hcz4_6
              try clear hcz4_7
              try clear hcz4_8
              try clear hfz35_0
              try clear hfz35_1
              try clear hfz35_2
              try clear hfz35_3
              try clear hfz35_4
              try clear hfz35_5
              try clear hfz35_6
              try clear hfz35_7
              try clear hfz35_8
              try clear hfz37_0
              try clear hfz37_1
              try clear hfz37_2
              try clear hfz37_3
              try clear hfz37_4
              try clear hfz37_5
              try clear hfz37_6
              try clear hfz37_7
              try clear hfz37_8
              try clear hfz39_0
              try clear hfz39_1
              try clear hfz39_2
              try clear hfz39_3
              try clear hfz39_4
              try clear hfz39_5
              try clear hfz39_6
              try clear hfz39_7
              try clear hfz39_8
              try clear hfz41_0
              try clear hfz41_1
              try clear hfz41_2
              try clear hfz41_3
              try clear hfz41_4
              try clear hfz41_5
              try clear hfz41_6
              try clear hfz41_7
              try clear hfz41_8
              try clear hfz4_0
              try clear hfz4_1
              try clear hfz4_2
              try clear hfz4_3
              try clear hfz4_4
              try clear hfz4_5
              try clear hfz4_6
              try clear hfz4_7
              try clear hfz4_8
              obtain ⟨x7_1, x232000_1, x232001_1, x248008_1, u248008, rfl, HA, HK1, HO_248008, BK225, BK247, HI231, HB⟩ := hrel
              cases gk with
              | zero => exact absurd HA.out (by simp [wire_Decode.l0])
              | succ k1 =>
                have H := HA.out
                clear HA
                simp only [wire_Decode.l0] at H
                by_cases c43 : x7_1 > 0
                · rw [if_pos c43] at H
                  have c43b0 : decide (0 < x7_1) = true := decide_eq_true c43
                  clear c43
                  (first | rw [c43b0] | (simp only [i64_w, i32_w]; rw [c43b0]) | skip)
                  by_cases c44 : x232001_1 = true
                  · subst c44
                    have H1 : (wire_Decode.j1 k1 x232000_1 true t232 t235 t238 t241 t244 t248 t251 t254 x248008_1) = some (r1, r2, r3, r4, r5, r6, r7, r8, r9, r10) := by rw [if_pos rfl] at H; exact H
                    clear H
                    have H := H1
                    clear H1
                    have H' := Aside0.mk H
                    clear H
                    obtain ⟨HGz45, hgz45⟩ := HI231.out
                    have hcz45_0 := cellS54_0 HGz45
                    have hcz45_1 := cellS54_1 HGz45
                    have hfz45_0 := blk_frozen HGz45 0
                    have hfz45_1 := blk_frozen HGz45 1
                    clear HGz45 hgz45
                    go_wp2
                    go_meet
                    case rel => exact ⟨_, (x232000_1), (true), (x248008_1), (u248008), H', ⟨by have := HK1.out; first | omega | exact Nat.le_refl _⟩, ⟨by (with_reducible repeat (first | apply Kd.R_alloc | apply Kd.R_drewN | apply Kd.R_drew)); exact HO_248008.out⟩, ⟨by (with_reducible repeat (first | refine blk_drewN ?_ _ | refine blk_drew ?_ | refine blk_alloc ?_ _)); exact BK225.out⟩, ⟨by (with_reducible repeat (first | refine blk_drewN ?_ _ | refine blk_drew ?_ | refine blk_alloc ?_ _)); exact BK247.out⟩, ⟨by repeat (first | (with_reducible first | exact HI231.out | apply IsS54.alloc | apply IsS54.drewN | apply IsS54.drew | apply IsS54.set_0 | apply IsS54.set_1 | refine IsS54.far ?_ NB231_225.out _ | refine IsS54.far ?_ NB231_247.out _) | exact HI231.out)⟩, ⟨by repeat (first | (with_reducible first | exact HB.out | apply below_alloc | apply pw_below_drewN | apply below_drew1 | refine below_set ?_ (IsS54.ge HI231.out) | refine below_set ?_ GE225.out | refine below_set ?_ GE247.out) | exact HB.out)⟩⟩
                  · replace c44 := Bool.eq_false_iff.mpr c44
                    subst c44
                    have H1 : ((wire_scan_text.f k1 x232000_1 false 4).bind fun bt260 => (if x248008_1.length < 8796093022208 then (wire_Decode.l0 k1 (wrap64 (x7_1 - 1)) bt260.2.1 bt260.2.2 t232 t235 t238 t241 t244 t248 t251 t254 (x248008_1 ++ [bt260.1])) else (none))) = some (r1, r2, r3, r4, r5, r6, r7, r8, r9, r10) := by rw [if_neg (show ¬ (false = true) by decide)] at H; exact H
                    clear H
                    have H := H1
                    clear H1
                    replace H := Option.bind_eq_some_iff.mp H
                    obtain ⟨⟨t260, t261, t262⟩, A460, H⟩ := H
                    replace H : (if x248008_1.length < 8796093022208 then (wire_Decode.l0 k1 (wrap64 (x7_1 - 1)) t261 t262 t232 t235 t238 t241 t244 t248 t251 t254 (x248008_1 ++ [t260])) else (none)) = some (r1, r2, r3, r4, r5, r6, r7, r8, r9, r10) := H
                    have A46 := Aside0.mk A460
                    clear A460
                    by_cases c47 : x248008_1.length < 8796093022208
                    · rw [if_pos c47] at H
                      have LMc47 := Aside0.mk c47
                      clear c47
                      obtain ⟨y263, hy263⟩ : ∃ y_ : List ByteArray, y_ = (x248008_1 ++ [t260]) := ⟨_, rfl⟩
                      replace H : (wire_Decode.l0 k1 (wrap64 (x7_1 - 1)) t261 t262 t232 t235 t238 t241 t244 t248 t251 t254 y263) = some (r1, r2, r3, r4, r5, r6, r7, r8, r9, r10) := by first | (rw [hy263]; with_reducible exact H) | (have H2_ := (Option.bind_some _ _).symm.trans H; rw [hy263]; with_reducible exact H2_) | (have H2_ := (Option.bind_some _ _).symm.trans H; with_reducible exact H2_) | with_reducible exact H | (rw [hy263]; exact H) | exact H
                      have Ny263 := Aside0.mk hy263
                      clear hy263
                      have H' := Aside0.mk H
                      clear H
                      obtain ⟨HGz48, hgz48⟩ := HI231.out
                      have hcz48_0 := cellS54_0 HGz48
                      have hcz48_1 := cellS54_1 HGz48
                      have hfz48_0 := blk_frozen HGz48 0
                      have hfz48_1 := blk_frozen HGz48 1
                      clear HGz48 hgz48
                      try go_wp2
                      have n0_ := Aside0.mk (Kd.R_drew HO_248008.out)
                      have n1_ := Aside0.mk (blk_drew BK225.out)
                      have n2_ := Aside0.mk (blk_drew BK247.out)
                      have n3_ := Aside0.mk (IsS54.drew HI231.out)
                      have n4_ := Aside0.mk (below_drew1 HB.out)
                      clear HO_248008
                      clear BK225
                      clear BK247
                      clear HI231
                      clear HB
                      have HO_248008 := n0_
                      have BK225 := n1_
                      have BK247 := n2_
                      have HI231 := n3_
                      have HB := n4_
                      clear n0_ n1_ n2_ n3_ n4_
                      refine start_ (n := 8) (S := fun w' => w'.cell? ⟨gb247, 0, none⟩ = some (.int .i64 t232) ∧ w'.cell? ⟨gb247, 1, none⟩ = some (.int .i64 t235) ∧ w'.cell? ⟨gb247, 2, none⟩ = some (.int .i64 t238) ∧ w'.cell? ⟨gb247, 3, none⟩ = some (.int .i64 t241) ∧ w'.cell? ⟨gb247, 4, none⟩ = some (.string t244) ∧ w'.cell? ⟨gb247, 5, none⟩ = some (.int .i64 t248) ∧ w'.cell? ⟨gb247, 6, none⟩ = some (.int .i64 t251) ∧ w'.cell? ⟨gb247, 7, none⟩ = some (.string t254) ∧ w'.cell? ⟨gb247, 8, none⟩ = some (u248008)) (ds := [7]) #[false, false, false, false, false, false, false, false] (by kernel_rfl) rfl rfl ⟨(blk_cell BK247.out 0).trans rfl, (blk_cell BK247.out 1).trans rfl, (blk_cell BK247.out 2).trans rfl, (blk_cell BK247.out 3).trans rfl, (blk_cell BK247.out 4).trans rfl, (blk_cell BK247.out 5).trans rfl, (blk_cell BK247.out 6).trans rfl, (blk_cell BK247.out 7).trans rfl, (blk_cell BK247.out 8).trans rfl⟩ (fun hHeld => ?_); refine with_tabW wire_Decode.tab14 wire_Decode.bits14 (fun HT_ HW_ => ?_)
                      generalize wr.drew = w49 at HO_248008 BK225 BK247 HI231 HB hHeld ⊢
                      refine pure_ (i := 0) (N := some 62) (v := ?_) (a' := ?_) #[true, false, false, false, false, false, false, false] rfl rfl (any_of HT_.out (by kernel_rfl)) (fun _ _ _ h => h) (Or.inl ⟨by rfl, ?_⟩) ?_ ?_
                      rotate_left
                      · intro w'
                        go_simp
                        with_reducible rfl
                      rotate_left
                      · simp only [Act.put, List.setIfInBounds_toArray, List.set_cons_zero, List.set_cons_succ, i64_w, i32_w]
                        rfl
                      refine pure_ (i := 2) (N := some 64) (v := ?_) (a' := ?_) #[true, false, true, false, false, false, false, false] rfl rfl (any_of HT_.out (by kernel_rfl)) (fun _ _ _ h => h) (Or.inl ⟨by rfl, ?_⟩) ?_ ?_
                      rotate_left
                      · intro w'
                        go_simp
                        with_reducible rfl
                      rotate_left
                      · simp only [Act.put, List.setIfInBounds_toArray, List.set_cons_zero, List.set_cons_succ, i64_w, i32_w]
                        rfl
                      refine take_ (i := 1) (N := some 63) (v := ?_) (a' := ?_) #[true, true, true, false, false, false, false, false] rfl rfl (take_ofW HT_.out HW_.out (by kernel_rfl)) (fun _ _ _ h => h) (Or.inl ⟨by rfl, ?_⟩) hHeld ?_ ?_
                      rotate_left
                      · rintro w' ⟨s0, s1, s2, s3, s4, s5, s6, s7, s8⟩
                        go_simp
                        with_reducible rfl
                      rotate_left
                      · simp only [Act.put, List.setIfInBounds_toArray, List.set_cons_zero, List.set_cons_succ, i64_w, i32_w]
                        rfl
                      refine one_ (i := 3) (N := some 65) #[true, true, true, true, false, false, false, false] rfl rfl (one_of HT_.out (by kernel_rfl)) (by decide) (fun K hK => ?_)
                      refine goes_ Try.func28 (by kernel_rfl) rfl #[.pointer (some ⟨gb231, 0, none⟩), .int .i64 4] (by rfl) rfl rfl (by (try simp only [List.map_toArray, List.map_cons, List.map_nil]); first | done | rfl | (simp only [List.length_drop, List.length_take]; rfl) | (simp only [ByteArray.size_extract, Nat.min_self]; done) | (simp only [ByteArray.size_extract, Nat.min_self]; rfl)) ?_
                      with_reducible refine (wire_scan_text.calls k1 gb231 x232000_1 false 4 t260 t261 t262 w _ ?side1 ?side2 A46.out).mono ?_
                      (case side1 => repeat (first | (with_reducible first | exact HI231.out | apply IsS54.alloc | apply IsS54.drewN | apply IsS54.drew | apply IsS54.set_0 | apply IsS54.set_1 | refine IsS54.far ?_ NB231_225.out _ | refine IsS54.far ?_ NB231_247.out _) | exact HI231.out))
                      (case side2 => repeat (first | (with_reducible first | exact HB.out | apply below_alloc | apply pw_below_drewN | apply below_drew1 | refine below_set ?_ (IsS54.ge HI231.out) | refine below_set ?_ GE225.out | refine below_set ?_ GE247.out) | exact HB.out))
                      rintro e w50 ⟨rfl, hi, hb, hk⟩
                      refine ⟨_, rfl, ?_⟩
                      have n0_ := Aside0.mk (Kd.R_mono (Kd.R_keep (IsS54.apart (show IsS54 w _ gb231 x232000_1 false from by repeat (first | (with_reducible first | exact HI231.out | apply IsS54.alloc | apply IsS54.drewN | apply IsS54.drew | apply IsS54.set_0 | apply IsS54.set_1 | refine IsS54.far ?_ NB231_225.out _ | refine IsS54.far ?_ NB231_247.out _) | exact HI231.out)) (by (with_reducible repeat (first | apply Kd.R_alloc | apply Kd.R_drewN | apply Kd.R_drew)); exact HO_248008.out) (by decide)) hk (fun _ h => h.2)) (fun _ h => h.1))
                      have n1_ := Aside0.mk (KeepBut.blk hk (g' := gb225) (o := .cells #[.int .i64 0, .int .i64 0, .int .i64 0, .int .i64 0, .string (⟨#[]⟩ : ByteArray), .int .i64 0, .int .i64 0, .string (⟨#[]⟩ : ByteArray), .slice none 0 0] 26 (0, 0)) (by (with_reducible repeat (first | refine blk_drewN ?_ _ | refine blk_drew ?_ | refine blk_alloc ?_ _)); exact BK225.out) NB225_231.out (by simp))
                      have n2_ := Aside0.mk (KeepBut.blk hk (g' := gb247) (o := .cells #[.int .i64 t232, .int .i64 t235, .int .i64 t238, .int .i64 t241, .string t244, .int .i64 t248, .int .i64 t251, .string t254, u248008] 26 (0, 0)) (by (with_reducible repeat (first | refine blk_drewN ?_ _ | refine blk_drew ?_ | refine blk_alloc ?_ _)); exact BK247.out) NB247_231.out (by simp))
                      have n3_ := Aside0.mk (hb)
                      have n4_ := Aside0.mk (hi)
                      clear HO_248008
                      clear BK225
                      clear BK247
                      clear HB
                      clear HI231
                      have HO_248008 := n0_
                      have BK225 := n1_
                      have BK247 := n2_
                      have HB := n3_
                      have HI231 := n4_
                      clear n0_ n1_ n2_ n3_ n4_
                      (try clear hb)
                      (try clear hb2)
                      (try clear hk)
                      (try clear hi)
                      refine hK.out _ _ ⟨(blk_cell BK247.out 0).trans rfl, (blk_cell BK247.out 1).trans rfl, (blk_cell BK247.out 2).trans rfl, (blk_cell BK247.out 3).trans rfl, (blk_cell BK247.out 4).trans rfl, (blk_cell BK247.out 5).trans rfl, (blk_cell BK247.out 6).trans rfl, (blk_cell BK247.out 7).trans rfl, (blk_cell BK247.out 8).trans rfl⟩ (fun hHeld => ?_)
                      clear hK K
                      refine norm_ (a' := ?_) ?_ ?_
                      rotate_left
                      · show Act.put _ (some 65) _ = _
                        simp only [Act.put, List.setIfInBounds_toArray, List.set_cons_zero, List.set_cons_succ, i64_w, i32_w]
                        rfl
                      refine one_ (i := 4) (N := some 66) #[true, true, true, true, true, false, false, false] rfl rfl (one_of HT_.out (by kernel_rfl)) (by decide) (fun K hK => ?_)
                      refine value_ (w1 := ?_) (v := ?_) (by rfl) rfl ?_ ?_
                      rotate_left 2
                      · go_simp
                        constructor
                        · rfl
                        · rfl
                      refine hK.out _ _ ⟨(blk_cell (blk_alloc BK247.out _) 0).trans rfl, (blk_cell (blk_alloc BK247.out _) 1).trans rfl, (blk_cell (blk_alloc BK247.out _) 2).trans rfl, (blk_cell (blk_alloc BK247.out _) 3).trans rfl, (blk_cell (blk_alloc BK247.out _) 4).trans rfl, (blk_cell (blk_alloc BK247.out _) 5).trans rfl, (blk_cell (blk_alloc BK247.out _) 6).trans rfl, (blk_cell (blk_alloc BK247.out _) 7).trans rfl, (blk_cell (blk_alloc BK247.out _) 8).trans rfl⟩ (fun hHeld => ?_)
                      clear hK K
                      refine norm_ (a' := ?_) ?_ ?_
                      rotate_left
                      · show Act.put _ (some 66) _ = _
                        simp only [Act.put, List.setIfInBounds_toArray, List.set_cons_zero, List.set_cons_succ, i64_w, i32_w]
                        rfl
                      refine one_ (i := 5) (N := some 67) #[true, true, true, true, true, true, false, false] rfl rfl (one_of HT_.out (by kernel_rfl)) (by decide) (fun K hK => ?_)
                      refine Kd.R_append_step Kd.string (w0 := w) w.heap.size (by rfl) (.tmp 63) (.tmp 66) 24 9 (.string ⟨#[]⟩) 16 rfl Try.underlying24 info9 rfl (by decide) (by omega) u248008 x248008_1 t260 [.string t260] (fun _ => True) (fun _ => False) rfl rfl ?aP (fun _ hk => hk.elim) ?aF ?aO ?aB ?aS ?aL ?_
                      (case aP => exact rfl)
                      (case aB => exact (by repeat (first | (with_reducible first | exact HB.out | apply below_alloc | apply pw_below_drewN | apply below_drew1 | refine below_set ?_ (IsS54.ge HI231.out) | refine below_set ?_ GE225.out | refine below_set ?_ GE247.out) | exact HB.out)))
                      (case aF => exact (fun _ _ => trivial))
                      (case aO => exact (by (with_reducible repeat (first | apply Kd.R_alloc | apply Kd.R_drewN | apply Kd.R_drew)); exact HO_248008.out))
                      (case aS => exact (below_size (by repeat (first | (with_reducible first | exact HB.out | apply below_alloc | apply pw_below_drewN | apply below_drew1 | refine below_set ?_ (IsS54.ge HI231.out) | refine below_set ?_ GE225.out | refine below_set ?_ GE247.out) | exact HB.out))))
                      (case aL => have := LMc47.out; omega)
                      intro v264 w51 ho hb hg hat
                      rw [← Ny263.out] at ho
                      have n0_ := Aside0.mk (blk_grown (g := gb225) (o := .cells #[.int .i64 0, .int .i64 0, .int .i64 0, .int .i64 0, .string (⟨#[]⟩ : ByteArray), .int .i64 0, .int .i64 0, .string (⟨#[]⟩ : ByteArray), .slice none 0 0] 26 (0, 0)) (by (with_reducible repeat (first | refine blk_drewN ?_ _ | refine blk_drew ?_ | refine blk_alloc ?_ _)); exact BK225.out) hg (Kd.R_ne HO_248008.out BK225.out (by decide)))
                      have n1_ := Aside0.mk (blk_grown (g := gb247) (o := .cells #[.int .i64 t232, .int .i64 t235, .int .i64 t238, .int .i64 t241, .string t244, .int .i64 t248, .int .i64 t251, .string t254, u248008] 26 (0, 0)) (by (with_reducible repeat (first | refine blk_drewN ?_ _ | refine blk_drew ?_ | refine blk_alloc ?_ _)); exact BK247.out) hg (Kd.R_ne HO_248008.out BK247.out (by decide)))
                      have n2_ := Aside0.mk (IsS54.grown (by repeat (first | (with_reducible first | exact HI231.out | apply IsS54.alloc | apply IsS54.drewN | apply IsS54.drew | apply IsS54.set_0 | apply IsS54.set_1 | refine IsS54.far ?_ NB231_225.out _ | refine IsS54.far ?_ NB231_247.out _) | exact HI231.out)) hg (IsS54.own_ne HI231.out HO_248008.out (by decide)))
                      have n3_ := Aside0.mk (hb)
                      have n4_ := Aside0.mk (ho)
                      clear BK225
                      clear BK247
                      clear HI231
                      clear HB
                      clear HO_248008
                      have BK225 := n0_
                      have BK247 := n1_
                      have HI231 := n2_
                      have HB := n3_
                      have HO265 := n4_
                      clear n0_ n1_ n2_ n3_ n4_
                      clear ho hb hg hat
                      obtain ⟨Ao52, co52, eo52⟩ := Kd.R_slice HO265.out
                      (first | subst eo52 | (injection eo52 with f1_ f2_ f3_; have f4_ := f1_.symm; have f5_ := f3_.symm; clear f1_ f2_ f3_; subst f4_; subst f5_))
                      refine hK.out _ _ ⟨(blk_cell BK247.out 0).trans rfl, (blk_cell BK247.out 1).trans rfl, (blk_cell BK247.out 2).trans rfl, (blk_cell BK247.out 3).trans rfl, (blk_cell BK247.out 4).trans rfl, (blk_cell BK247.out 5).trans rfl, (blk_cell BK247.out 6).trans rfl, (blk_cell BK247.out 7).trans rfl, (blk_cell BK247.out 8).trans rfl⟩ (fun hHeld => ?_)
                      clear hK K
                      refine norm_ (a' := ?_) ?_ ?_
                      rotate_left
                      · show Act.put _ (some 67) _ = _
                        simp only [Act.put, List.setIfInBounds_toArray, List.set_cons_zero, List.set_cons_succ, i64_w, i32_w]
                        rfl
                      refine pure_ (i := 6) (N := some 68) (v := ?_) (a' := ?_) #[true, true, true, true, true, true, true, false] rfl rfl (any_of HT_.out (by kernel_rfl)) (fun _ _ _ h => h) (Or.inl ⟨by rfl, ?_⟩) ?_ ?_
                      rotate_left
                      · intro w'
                        go_simp
                        with_reducible rfl
                      rotate_left
                      · simp only [Act.put, List.setIfInBounds_toArray, List.set_cons_zero, List.set_cons_succ, i64_w, i32_w]
                        rfl
                      refine last_ (i := 7) (N := none) #[true, true, true, true, true, true, true, true] rfl rfl (one_of HT_.out (by kernel_rfl)) (by decide) (fun K hK => ?_)
                      have hs53 : w51.cell? ⟨gb247, 8, none⟩ = some (u248008) := (blk_cell BK247.out 8).trans rfl
                      have hfs53 := blk_frozen BK247.out 8
                      have hns53_0 := NB225_247.out
                      have hms53_0 := NB247_225.out
                      refine skip_ (w1 := ?_) (by rfl) rfl ?_ ?_
                      rotate_left
                      · go_simp
                        rfl
                      refine hK.out _ _ ?_
                      clear hK K
                      refine done_ (done_of HT_.out (by kernel_rfl)) ?_
                      try go_wp2
                      go_roundg k1
                      case measure => have := HK1.out; omega
                      case rel => exact ⟨(wrap64 (x7_1 - 1)), (t261), (t262), (y263), (.slice Ao52 y263.length co52), (by first | rfl | (simp; done) | (simp [*]; done)), H', ⟨by have := HK1.out; omega⟩, ⟨by (with_reducible repeat (first | apply Kd.R_alloc | apply Kd.R_drewN | apply Kd.R_drew)); exact Kd.R_mono (Kd.R_far (p := ⟨gb247, 8, none⟩) (Kd.R_types HO265.out BK247.out (by decide)) (fun _ hk => hk.2) (.slice Ao52 y263.length co52)) (fun _ hk => trivial)⟩, ⟨by (with_reducible repeat (first | refine blk_drewN ?_ _ | refine blk_drew ?_ | refine blk_alloc ?_ _)); refine blk_far ?_ NB225_247.out _; (with_reducible repeat (first | refine blk_drewN ?_ _ | refine blk_drew ?_ | refine blk_alloc ?_ _)); exact BK225.out⟩, ⟨by (with_reducible repeat (first | refine blk_drewN ?_ _ | refine blk_drew ?_ | refine blk_alloc ?_ _)); refine blk_put (cs := #[.int .i64 t232, .int .i64 t235, .int .i64 t238, .int .i64 t241, .string t244, .int .i64 t248, .int .i64 t251, .string t254, u248008]) ?_ 8 _ rfl; (with_reducible repeat (first | refine blk_drewN ?_ _ | refine blk_drew ?_ | refine blk_alloc ?_ _)); exact BK247.out⟩, ⟨by repeat (first | (with_reducible first | exact HI231.out | apply IsS54.alloc | apply IsS54.drewN | apply IsS54.drew | apply IsS54.set_0 | apply IsS54.set_1 | refine IsS54.far ?_ NB231_225.out _ | refine IsS54.far ?_ NB231_247.out _) | exact HI231.out)⟩, ⟨by repeat (first | (with_reducible first | exact HB.out | apply below_alloc | apply pw_below_drewN | apply below_drew1 | refine below_set ?_ (IsS54.ge HI231.out) | refine below_set ?_ GE225.out | refine below_set ?_ GE247.out) | exact HB.out)⟩⟩
                    · rw [if_neg c47] at H
                      exact absurd H (by simp)
                · rw [if_neg c43] at H
                  have c43b0 : decide (0 < x7_1) = false := decide_eq_false c43
                  clear c43
                  (first | rw [c43b0] | (simp only [i64_w, i32_w]; rw [c43b0]) | skip)
                  have H' := Aside0.mk H
                  clear H
                  go_wp2
                  go_meet
                  case rel => exact ⟨_, (x232000_1), (x232001_1), (x248008_1), (u248008), H', ⟨by have := HK1.out; first | omega | exact Nat.le_refl _⟩, ⟨by (with_reducible repeat (first | apply Kd.R_alloc | apply Kd.R_drewN | apply Kd.R_drew)); exact HO_248008.out⟩, ⟨by (with_reducible repeat (first | refine blk_drewN ?_ _ | refine blk_drew ?_ | refine blk_alloc ?_ _)); exact BK225.out⟩, ⟨by (with_reducible repeat (first | refine blk_drewN ?_ _ | refine blk_drew ?_ | refine blk_alloc ?_ _)); exact BK247.out⟩, ⟨by repeat (first | (with_reducible first | exact HI231.out | apply IsS54.alloc | apply IsS54.drewN | apply IsS54.drew | apply IsS54.set_0 | apply IsS54.set_1 | refine IsS54.far ?_ NB231_225.out _ | refine IsS54.far ?_ NB231_247.out _) | exact HI231.out)⟩, ⟨by repeat (first | (with_reducible first | exact HB.out | apply below_alloc | apply pw_below_drewN | apply below_drew1 | refine below_set ?_ (IsS54.ge HI231.out) | refine below_set ?_ GE225.out | refine below_set ?_ GE247.out) | exact HB.out)⟩⟩
          case rest =>
            clear HC21
            try clear c1
            try clear c2
            try clear c2b0
            try clear c2b1
            try clear p2
            try clear c3
            try clear c4
            try clear c5
            try clear c5b0
            try clear c5b1
            try clear c6
            try clear c6b0
            try clear c6b1
            try clear p6
            try clear c8
            try clear c8b0
            try clear c10
            try clear c10b0
            try clear c10b1
            try clear c11
            try clear c11b0
            try clear c15
            try clear c20
            try clear c27
            try clear c28
            try clear c33
            try clear c34
            try clear c43
            try clear c43b0
            try clear c44
            try clear c47
            try clear hcz35_0
            try clear hcz35_1
            try clear hcz35_2
            try clear hcz35_3
            try clear hcz35_4
            try clear hcz35_5
            try clear hcz35_6
            try clear hcz35_7
            try clear hcz35_8
            try clear hcz37_0
            try clear hcz37_1
            try clear hcz37_2
            try clear hcz37_3
            try clear hcz37_4
            try clear hcz37_5
            try clear hcz37_6
            try clear hcz37_7
            try clear hcz37_8
            try clear hcz39_0
            try clear hcz39_1
            try clear hcz39_2
            try clear hcz39_3
            try clear hcz39_4
            try clear hcz39_5
            try clear hcz39_6
            try clear hcz39_7
            try clear hcz39_8
            try clear hcz41_0
            try clear hcz41_1
            try clear hcz41_2
            try clear hcz41_3
            try clear hcz41_4
            try clear hcz41_5
            try clear hcz41_6
            try clear hcz41_7
            try clear hcz41_8
            try clear hcz45_0
            try clear hcz45_1
            try clear hcz48_0
            try clear hcz48_1
            try clear hcz4_0
            try clear hcz4_1
            try clear hcz4_2
            try clear hcz4_3
            try clear hcz4_4
            try clear hcz4_5
            try clear hcz4_6
            try clear hcz4_7
            try clear hcz4_8
            try clear hfz35_0
            try clear hfz35_1
            try clear hfz35_2
            try clear hfz35_3
            try clear hfz35_4
            try clear hfz35_5
            try clear hfz35_6
            try clear hfz35_7
            try clear hfz35_8
            try clear hfz37_0
            try clear hfz37_1
            try clear hfz37_2
            try clear hfz37_3
            try clear hfz37_4
            try clear hfz37_5
            try clear hfz37_6
            try clear hfz37_7
            try clear hfz37_8
            try clear hfz39_0
            try clear hfz39_1
            try clear hfz39_2
            try clear hfz39_3
            try clear hfz39_4
            try clear hfz39_5
            try clear hfz39_6
            try clear hfz39_7
            try clear hfz39_8
            try clear hfz41_0
            try clear hfz41_1
            try clear hfz41_2
            try clear hfz41_3
            try clear hfz41_4
            try clear hfz41_5
            try clear hfz41_6
            try clear hfz41_7
            try clear hfz41_8
            try clear hfz45_0
            try clear hfz45_1
            try clear hfz48_0
            try clear hfz48_1
            try clear hfz4_0
            try clear hfz4_1
            try clear hfz4_2
            try clear hfz4_3
            try clear hfz4_4
            try clear hfz4_5
            try clear hfz4_6
            try clear hfz4_7
            try clear hfz4_8
            try clear p2
            obtain ⟨kq, x232000_20, x232001_20, x248008_20, u248008, HA, HJ20, HO_248008, BK225, BK247, HI231, HB⟩ := hcut
            cases kq with
            | zero => exact absurd HA.out (by simp [wire_Decode.j1])
            | succ kj20 =>
              have H := HA.out
              clear HA
              simp only [wire_Decode.j1] at H
              by_cases c54 : x232001_20 = true
              · subst c54
                have H1 : (some (0, 0, 0, 0, (⟨#[]⟩ : ByteArray), 0, 0, (⟨#[]⟩ : ByteArray), ([] : List ByteArray), 3)) = some (r1, r2, r3, r4, r5, r6, r7, r8, r9, r10) := by rw [if_pos rfl] at H; exact H
                clear H
                have H := H1
                clear H1
                simp only [Option.some.injEq, Prod.mk.injEq] at H
                obtain ⟨rfl, rfl, rfl, rfl, rfl, rfl, rfl, rfl, rfl, rfl⟩ := H
                obtain ⟨HGz55, hgz55⟩ := HI231.out
                have hcz55_0 := cellS54_0 HGz55
                have hcz55_1 := cellS54_1 HGz55
                have hfz55_0 := blk_frozen HGz55 0
                have hfz55_1 := blk_frozen HGz55 1
                clear HGz55 hgz55
                have hnb56 := NB225_247.out
                have hnc56 := NB247_225.out
                have hnb57 := NB225_231.out
                have hnc57 := NB231_225.out
                have hcz58_0 : wc.cell? ⟨gb225, 0, none⟩ = some (.int .i64 0) := (blk_cell BK225.out 0).trans rfl
                have hcz58_1 : wc.cell? ⟨gb225, 1, none⟩ = some (.int .i64 0) := (blk_cell BK225.out 1).trans rfl
                have hcz58_2 : wc.cell? ⟨gb225, 2, none⟩ = some (.int .i64 0) := (blk_cell BK225.out 2).trans rfl
                have hcz58_3 : wc.cell? ⟨gb225, 3, none⟩ = some (.int .i64 0) := (blk_cell BK225.out 3).trans rfl
                have hcz58_4 : wc.cell? ⟨gb225, 4, none⟩ = some (.string (⟨#[]⟩ : ByteArray)) := (blk_cell BK225.out 4).trans rfl
                have hcz58_5 : wc.cell? ⟨gb225, 5, none⟩ = some (.int .i64 0) := (blk_cell BK225.out 5).trans rfl
                have hcz58_6 : wc.cell? ⟨gb225, 6, none⟩ = some (.int .i64 0) := (blk_cell BK225.out 6).trans rfl
                have hcz58_7 : wc.cell? ⟨gb225, 7, none⟩ = some (.string (⟨#[]⟩ : ByteArray)) := (blk_cell BK225.out 7).trans rfl
                have hcz58_8 : wc.cell? ⟨gb225, 8, none⟩ = some (.slice none 0 0) := (blk_cell BK225.out 8).trans rfl
                have hfz58_0 := blk_frozen BK225.out 0
                have hfz58_1 := blk_frozen BK225.out 1
                have hfz58_2 := blk_frozen BK225.out 2
                have hfz58_3 := blk_frozen BK225.out 3
                have hfz58_4 := blk_frozen BK225.out 4
                have hfz58_5 := blk_frozen BK225.out 5
                have hfz58_6 := blk_frozen BK225.out 6
                have hfz58_7 := blk_frozen BK225.out 7
                have hfz58_8 := blk_frozen BK225.out 8
                go_wp2
                refine bodyPost_ret (results_ct rfl _ _ gb225 26 #[.int .i64 0, .int .i64 0, .int .i64 0, .int .i64 0, .string (⟨#[]⟩ : ByteArray), .int .i64 0, .int .i64 0, .string (⟨#[]⟩ : ByteArray), .slice none 0 0] (0, 0) _ rfl (by (with_reducible repeat (first | refine blk_drewN ?_ _ | refine blk_drew ?_ | refine blk_alloc ?_ _)); refine blk_put (cs := #[.int .i64 0, .int .i64 0, .int .i64 0, .int .i64 0, .string (⟨#[]⟩ : ByteArray), .int .i64 0, .int .i64 0, .string (⟨#[]⟩ : ByteArray), .slice none 0 0]) ?_ 8 _ rfl; (with_reducible repeat (first | refine blk_drewN ?_ _ | refine blk_drew ?_ | refine blk_alloc ?_ _)); refine blk_put (cs := #[.int .i64 0, .int .i64 0, .int .i64 0, .int .i64 0, .string (⟨#[]⟩ : ByteArray), .int .i64 0, .int .i64 0, .string (⟨#[]⟩ : ByteArray), .slice none 0 0]) ?_ 7 _ rfl; (with_reducible repeat (first | refine blk_drewN ?_ _ | refine blk_drew ?_ | refine blk_alloc ?_ _)); refine blk_put (cs := #[.int .i64 0, .int .i64 0, .int .i64 0, .int .i64 0, .string (⟨#[]⟩ : ByteArray), .int .i64 0, .int .i64 0, .string (⟨#[]⟩ : ByteArray), .slice none 0 0]) ?_ 6 _ rfl; (with_reducible repeat (first | refine blk_drewN ?_ _ | refine blk_drew ?_ | refine blk_alloc ?_ _)); refine blk_put (cs := #[.int .i64 0, .int .i64 0, .int .i64 0, .int .i64 0, .string (⟨#[]⟩ : ByteArray), .int .i64 0, .int .i64 0, .string (⟨#[]⟩ : ByteArray), .slice none 0 0]) ?_ 5 _ rfl; (with_reducible repeat (first | refine blk_drewN ?_ _ | refine blk_drew ?_ | refine blk_alloc ?_ _)); refine blk_put (cs := #[.int .i64 0, .int .i64 0, .int .i64 0, .int .i64 0, .string (⟨#[]⟩ : ByteArray), .int .i64 0, .int .i64 0, .string (⟨#[]⟩ : ByteArray), .slice none 0 0]) ?_ 4 _ rfl; (with_reducible repeat (first | refine blk_drewN ?_ _ | refine blk_drew ?_ | refine blk_alloc ?_ _)); refine blk_put (cs := #[.int .i64 0, .int .i64 0, .int .i64 0, .int .i64 0, .string (⟨#[]⟩ : ByteArray), .int .i64 0, .int .i64 0, .string (⟨#[]⟩ : ByteArray), .slice none 0 0]) ?_ 3 _ rfl; (with_reducible repeat (first | refine blk_drewN ?_ _ | refine blk_drew ?_ | refine blk_alloc ?_ _)); refine blk_put (cs := #[.int .i64 0, .int .i64 0, .int .i64 0, .int .i64 0, .string (⟨#[]⟩ : ByteArray), .int .i64 0, .int .i64 0, .string (⟨#[]⟩ : ByteArray), .slice none 0 0]) ?_ 2 _ rfl; (with_reducible repeat (first | refine blk_drewN ?_ _ | refine blk_drew ?_ | refine blk_alloc ?_ _)); refine blk_put (cs := #[.int .i64 0, .int .i64 0, .int .i64 0, .int .i64 0, .string (⟨#[]⟩ : ByteArray), .int .i64 0, .int .i64 0, .string (⟨#[]⟩ : ByteArray), .slice none 0 0]) ?_ 1 _ rfl; (with_reducible repeat (first | refine blk_drewN ?_ _ | refine blk_drew ?_ | refine blk_alloc ?_ _)); refine blk_put (cs := #[.int .i64 0, .int .i64 0, .int .i64 0, .int .i64 0, .string (⟨#[]⟩ : ByteArray), .int .i64 0, .int .i64 0, .string (⟨#[]⟩ : ByteArray), .slice none 0 0]) ?_ 0 _ rfl; (with_reducible repeat (first | refine blk_drewN ?_ _ | refine blk_drew ?_ | refine blk_alloc ?_ _)); exact BK225.out) Try.underlying26 rfl (by kernel_rfl)) rfl ?_
                exact ⟨_, by first | rfl | (simp [errW_none, errW_some] <;> rfl) | (simp [*, errW_none, errW_some] <;> rfl), by first | exact Kd.R_nil _ _ _ _ _ | exact Kd.N_nil _ _ _ _ _ | exact Kd.V_nil _ _ _ _ _ | exact Kd.Q_nil _ _ _ _ _ | exact Kd.S_nil _ _ _ _ _, by repeat (first | (with_reducible first | exact HB.out | apply below_alloc | apply pw_below_drewN | apply below_drew1 | refine below_set ?_ (IsS54.ge HI231.out) | refine below_set ?_ GE225.out | refine below_set ?_ GE247.out) | exact HB.out)⟩
              · replace c54 := Bool.eq_false_iff.mpr c54
                subst c54
                have H1 : (if x232000_20.toList = ([] : List UInt8) then ((wire_right.f kj20 t232 t235 t238 t241 t244 t248 t251 t254 x248008_20).bind fun t266 => (if t266 = true then (some (t232, t235, t238, t241, t244, t248, t251, t254, x248008_20, 0)) else (some (0, 0, 0, 0, (⟨#[]⟩ : ByteArray), 0, 0, (⟨#[]⟩ : ByteArray), ([] : List ByteArray), 60)))) else (some (0, 0, 0, 0, (⟨#[]⟩ : ByteArray), 0, 0, (⟨#[]⟩ : ByteArray), ([] : List ByteArray), 4))) = some (r1, r2, r3, r4, r5, r6, r7, r8, r9, r10) := by rw [if_neg (show ¬ (false = true) by decide)] at H; exact H
                clear H
                have H := H1
                clear H1
                by_cases c59 : x232000_20.toList = ([] : List UInt8)
                · rw [if_pos c59] at H
                  have c59b0 : (x232000_20.toList == ([] : List UInt8)) = true := beq_iff_eq.mpr c59
                  have c59b1 : (x232000_20.toList != ([] : List UInt8)) = false := bne_eq_false_iff_eq.mpr c59
                  clear c59
                  replace H := Option.bind_eq_some_iff.mp H
                  obtain ⟨t266, A600, H⟩ := H
                  replace H : (if t266 = true then (some (t232, t235, t238, t241, t244, t248, t251, t254, x248008_20, 0)) else (some (0, 0, 0, 0, (⟨#[]⟩ : ByteArray), 0, 0, (⟨#[]⟩ : ByteArray), ([] : List ByteArray), 60))) = some (r1, r2, r3, r4, r5, r6, r7, r8, r9, r10) := H
                  have A60 := Aside0.mk A600
                  clear A600
                  by_cases c61 : t266 = true
                  · subst c61
                    have H1 : (some (t232, t235, t238, t241, t244, t248, t251, t254, x248008_20, 0)) = some (r1, r2, r3, r4, r5, r6, r7, r8, r9, r10) := by rw [if_pos rfl] at H; exact H
                    clear H
                    have H := H1
                    clear H1
                    simp only [Option.some.injEq, Prod.mk.injEq] at H
                    obtain ⟨rfl, rfl, rfl, rfl, rfl, rfl, rfl, rfl, rfl, rfl⟩ := H
                    obtain ⟨HGz62, hgz62⟩ := HI231.out
                    have hcz62_0 := cellS54_0 HGz62
                    have hcz62_1 := cellS54_1 HGz62
                    have hfz62_0 := blk_frozen HGz62 0
                    have hfz62_1 := blk_frozen HGz62 1
                    clear HGz62 hgz62
                    have hnb63 := NB247_225.out
                    have hnc63 := NB225_247.out
                    have hnb64 := NB247_231.out
                    have hnc64 := NB231_247.out
                    have hcz65_0 : wc.cell? ⟨gb247, 0, none⟩ = some (.int .i64 t232) := (blk_cell BK247.out 0).trans rfl
                    have hcz65_1 : wc.cell? ⟨gb247, 1, none⟩ = some (.int .i64 t235) := (blk_cell BK247.out 1).trans rfl
                    have hcz65_2 : wc.cell? ⟨gb247, 2, none⟩ = some (.int .i64 t238) := (blk_cell BK247.out 2).trans rfl
                    have hcz65_3 : wc.cell? ⟨gb247, 3, none⟩ = some (.int .i64 t241) := (blk_cell BK247.out 3).trans rfl
                    have hcz65_4 : wc.cell? ⟨gb247, 4, none⟩ = some (.string t244) := (blk_cell BK247.out 4).trans rfl
                    have hcz65_5 : wc.cell? ⟨gb247, 5, none⟩ = some (.int .i64 t248) := (blk_cell BK247.out 5).trans rfl
                    have hcz65_6 : wc.cell? ⟨gb247, 6, none⟩ = some (.int .i64 t251) := (blk_cell BK247.out 6).trans rfl
                    have hcz65_7 : wc.cell? ⟨gb247, 7, none⟩ = some (.string t254) := (blk_cell BK247.out 7).trans rfl
                    have hcz65_8 : wc.cell? ⟨gb247, 8, none⟩ = some (u248008) := (blk_cell BK247.out 8).trans rfl
                    have hfz65_0 := blk_frozen BK247.out 0
                    have hfz65_1 := blk_frozen BK247.out 1
                    have hfz65_2 := blk_frozen BK247.out 2
                    have hfz65_3 := blk_frozen BK247.out 3
                    have hfz65_4 := blk_frozen BK247.out 4
                    have hfz65_5 := blk_frozen BK247.out 5
                    have hfz65_6 := blk_frozen BK247.out 6
                    have hfz65_7 := blk_frozen BK247.out 7
                    have hfz65_8 := blk_frozen BK247.out 8
                    obtain ⟨Ao66, co66, eo66⟩ := Kd.R_slice HO_248008.out
                    subst eo66
                    go_wp2_with (first | ((with_reducible refine gate_callee (f := 17) rfl ?_); refine goesL_ (some 84) rfl rfl Try.func17 (by kernel_rfl) rfl #[.agg #[.int .i64 t232, .int .i64 t235, .int .i64 t238, .int .i64 t241, .string t244, .int .i64 t248, .int .i64 t251, .string t254, .slice Ao66 x248008_20.length co66]] rfl (by (try simp only [List.map_toArray, List.map_cons, List.map_nil]); first | done | rfl | (simp only [List.length_drop, List.length_take]; rfl) | (simp only [ByteArray.size_extract, Nat.min_self]; done) | (simp only [ByteArray.size_extract, Nat.min_self]; rfl)) ?_; (with_reducible refine (wire_right.calls kj20 t232 t235 t238 t241 t244 t248 t251 t254 _ _ x248008_20 true _ ?side1 ?side2 A60.out).mono ?_); (case side1 => repeat (first | exact (Kd.R_reads' HO_248008.out).2.2 | (with_reducible refine Kd.C_alloc ?_ _) | (with_reducible refine Kd.C_drewN ?_ _) | (with_reducible refine Kd.C_drew ?_))); (case side2 => exact (Kd.R_reads' HO_248008.out).2.1); rintro e w67 ⟨rfl, hb⟩; refine ⟨_, rfl, ?_⟩; have n0_ := Aside0.mk (Kd.R_below (by (with_reducible repeat (first | apply Kd.R_alloc | apply Kd.R_drewN | apply Kd.R_drew)); exact HO_248008.out) hb); have n1_ := Aside0.mk (blk_below (g := gb225) (o := .cells #[.int .i64 0, .int .i64 0, .int .i64 0, .int .i64 0, .string (⟨#[]⟩ : ByteArray), .int .i64 0, .int .i64 0, .string (⟨#[]⟩ : ByteArray), .slice none 0 0] 26 (0, 0)) (by (with_reducible repeat (first | refine blk_drewN ?_ _ | refine blk_drew ?_ | refine blk_alloc ?_ _)); exact BK225.out) hb); have n2_ := Aside0.mk (blk_below (g := gb247) (o := .cells #[.int .i64 t232, .int .i64 t235, .int .i64 t238, .int .i64 t241, .string t244, .int .i64 t248, .int .i64 t251, .string t254, .slice Ao66 x248008_20.length co66] 26 (0, 0)) (by (with_reducible repeat (first | refine blk_drewN ?_ _ | refine blk_drew ?_ | refine blk_alloc ?_ _)); exact BK247.out) hb); have n3_ := Aside0.mk (IsS54.below (by repeat (first | (with_reducible first | exact HI231.out | apply IsS54.alloc | apply IsS54.drewN | apply IsS54.drew | apply IsS54.set_0 | apply IsS54.set_1 | refine IsS54.far ?_ NB231_225.out _ | refine IsS54.far ?_ NB231_247.out _) | exact HI231.out)) hb); have n4_ := Aside0.mk (below_step (by repeat (first | (with_reducible first | exact HB.out | apply below_alloc | apply pw_below_drewN | apply below_drew1 | refine below_set ?_ (IsS54.ge HI231.out) | refine below_set ?_ GE225.out | refine below_set ?_ GE247.out) | exact HB.out)) hb); clear HO_248008; clear BK225; clear BK247; clear HI231; clear HB; have HO_248008 := n0_; have BK225 := n1_; have BK247 := n2_; have HI231 := n3_; have HB := n4_; clear n0_ n1_ n2_ n3_ n4_; (try clear hb); (try clear hb2); (try clear hk); (try clear hi); have hcz68_0 : w67.cell? ⟨gb247, 0, none⟩ = some (.int .i64 t232) := (blk_cell BK247.out 0).trans rfl; have hcz68_1 : w67.cell? ⟨gb247, 1, none⟩ = some (.int .i64 t235) := (blk_cell BK247.out 1).trans rfl; have hcz68_2 : w67.cell? ⟨gb247, 2, none⟩ = some (.int .i64 t238) := (blk_cell BK247.out 2).trans rfl; have hcz68_3 : w67.cell? ⟨gb247, 3, none⟩ = some (.int .i64 t241) := (blk_cell BK247.out 3).trans rfl; have hcz68_4 : w67.cell? ⟨gb247, 4, none⟩ = some (.string t244) := (blk_cell BK247.out 4).trans rfl; have hcz68_5 : w67.cell? ⟨gb247, 5, none⟩ = some (.int .i64 t248) := (blk_cell BK247.out 5).trans rfl; have hcz68_6 : w67.cell? ⟨gb247, 6, none⟩ = some (.int .i64 t251) := (blk_cell BK247.out 6).trans rfl; have hcz68_7 : w67.cell? ⟨gb247, 7, none⟩ = some (.string t254) := (blk_cell BK247.out 7).trans rfl; have hcz68_8 : w67.cell? ⟨gb247, 8, none⟩ = some (.slice Ao66 x248008_20.length co66) := (blk_cell BK247.out 8).trans rfl; have hfz68_0 := blk_frozen BK247.out 0; have hfz68_1 := blk_frozen BK247.out 1; have hfz68_2 := blk_frozen BK247.out 2; have hfz68_3 := blk_frozen BK247.out 3; have hfz68_4 := blk_frozen BK247.out 4; have hfz68_5 := blk_frozen BK247.out 5; have hfz68_6 := blk_frozen BK247.out 6; have hfz68_7 := blk_frozen BK247.out 7; have hfz68_8 := blk_frozen BK247.out 8; have hnb69 := NB225_231.out; have hnc69 := NB231_225.out; have hcz70_0 : w67.cell? ⟨gb225, 0, none⟩ = some (.int .i64 0) := (blk_cell BK225.out 0).trans rfl; have hcz70_1 : w67.cell? ⟨gb225, 1, none⟩ = some (.int .i64 0) := (blk_cell BK225.out 1).trans rfl; have hcz70_2 : w67.cell? ⟨gb225, 2, none⟩ = some (.int .i64 0) := (blk_cell BK225.out 2).trans rfl; have hcz70_3 : w67.cell? ⟨gb225, 3, none⟩ = some (.int .i64 0) := (blk_cell BK225.out 3).trans rfl; have hcz70_4 : w67.cell? ⟨gb225, 4, none⟩ = some (.string (⟨#[]⟩ : ByteArray)) := (blk_cell BK225.out 4).trans rfl; have hcz70_5 : w67.cell? ⟨gb225, 5, none⟩ = some (.int .i64 0) := (blk_cell BK225.out 5).trans rfl; have hcz70_6 : w67.cell? ⟨gb225, 6, none⟩ = some (.int .i64 0) := (blk_cell BK225.out 6).trans rfl; have hcz70_7 : w67.cell? ⟨gb225, 7, none⟩ = some (.string (⟨#[]⟩ : ByteArray)) := (blk_cell BK225.out 7).trans rfl; have hcz70_8 : w67.cell? ⟨gb225, 8, none⟩ = some (.slice none 0 0) := (blk_cell BK225.out 8).trans rfl; have hfz70_0 := blk_frozen BK225.out 0; have hfz70_1 := blk_frozen BK225.out 1; have hfz70_2 := blk_frozen BK225.out 2; have hfz70_3 := blk_frozen BK225.out 3; have hfz70_4 := blk_frozen BK225.out 4; have hfz70_5 := blk_frozen BK225.out 5; have hfz70_6 := blk_frozen BK225.out 6; have hfz70_7 := blk_frozen BK225.out 7; have hfz70_8 := blk_frozen BK225.out 8))
                    refine bodyPost_ret (results_ct rfl _ _ gb225 26 #[.int .i64 t232, .int .i64 t235, .int .i64 t238, .int .i64 t241, .string t244, .int .i64 t248, .int .i64 t251, .string t254, .slice Ao66 x248008_20.length co66] (0, 0) _ rfl (by (with_reducible repeat (first | refine blk_drewN ?_ _ | refine blk_drew ?_ | refine blk_alloc ?_ _)); refine blk_put (cs := #[.int .i64 t232, .int .i64 t235, .int .i64 t238, .int .i64 t241, .string t244, .int .i64 t248, .int .i64 t251, .string t254, .slice none 0 0]) ?_ 8 _ rfl; (with_reducible repeat (first | refine blk_drewN ?_ _ | refine blk_drew ?_ | refine blk_alloc ?_ _)); refine blk_put (cs := #[.int .i64 t232, .int .i64 t235, .int .i64 t238, .int .i64 t241, .string t244, .int .i64 t248, .int .i64 t251, .string (⟨#[]⟩ : ByteArray), .slice none 0 0]) ?_ 7 _ rfl; (with_reducible repeat (first | refine blk_drewN ?_ _ | refine blk_drew ?_ | refine blk_alloc ?_ _)); refine blk_put (cs := #[.int .i64 t232, .int .i64 t235, .int .i64 t238, .int .i64 t241, .string t244, .int .i64 t248, .int .i64 0, .string (⟨#[]⟩ : ByteArray), .slice none 0 0]) ?_ 6 _ rfl; (with_reducible repeat (first | refine blk_drewN ?_ _ | refine blk_drew ?_ | refine blk_alloc ?_ _)); refine blk_put (cs := #[.int .i64 t232, .int .i64 t235, .int .i64 t238, .int .i64 t241, .string t244, .int .i64 0, .int .i64 0, .string (⟨#[]⟩ : ByteArray), .slice none 0 0]) ?_ 5 _ rfl; (with_reducible repeat (first | refine blk_drewN ?_ _ | refine blk_drew ?_ | refine blk_alloc ?_ _)); refine blk_put (cs := #[.int .i64 t232, .int .i64 t235, .int .i64 t238, .int .i64 t241, .string (⟨#[]⟩ : ByteArray), .int .i64 0, .int .i64 0, .string (⟨#[]⟩ : ByteArray), .slice none 0 0]) ?_ 4 _ rfl; (with_reducible repeat (first | refine blk_drewN ?_ _ | refine blk_drew ?_ | refine blk_alloc ?_ _)); refine blk_put (cs := #[.int .i64 t232, .int .i64 t235, .int .i64 t238, .int .i64 0, .string (⟨#[]⟩ : ByteArray), .int .i64 0, .int .i64 0, .string (⟨#[]⟩ : ByteArray), .slice none 0 0]) ?_ 3 _ rfl; (with_reducible repeat (first | refine blk_drewN ?_ _ | refine blk_drew ?_ | refine blk_alloc ?_ _)); refine blk_put (cs := #[.int .i64 t232, .int .i64 t235, .int .i64 0, .int .i64 0, .string (⟨#[]⟩ : ByteArray), .int .i64 0, .int .i64 0, .string (⟨#[]⟩ : ByteArray), .slice none 0 0]) ?_ 2 _ rfl; (with_reducible repeat (first | refine blk_drewN ?_ _ | refine blk_drew ?_ | refine blk_alloc ?_ _)); refine blk_put (cs := #[.int .i64 t232, .int .i64 0, .int .i64 0, .int .i64 0, .string (⟨#[]⟩ : ByteArray), .int .i64 0, .int .i64 0, .string (⟨#[]⟩ : ByteArray), .slice none 0 0]) ?_ 1 _ rfl; (with_reducible repeat (first | refine blk_drewN ?_ _ | refine blk_drew ?_ | refine blk_alloc ?_ _)); refine blk_put (cs := #[.int .i64 0, .int .i64 0, .int .i64 0, .int .i64 0, .string (⟨#[]⟩ : ByteArray), .int .i64 0, .int .i64 0, .string (⟨#[]⟩ : ByteArray), .slice none 0 0]) ?_ 0 _ rfl; (with_reducible repeat (first | refine blk_drewN ?_ _ | refine blk_drew ?_ | refine blk_alloc ?_ _)); exact BK225.out) Try.underlying26 rfl (by kernel_rfl)) rfl ?_
                    exact ⟨_, by first | rfl | (simp [errW_none, errW_some] <;> rfl) | (simp [*, errW_none, errW_some] <;> rfl), by (with_reducible repeat (first | apply Kd.R_alloc | apply Kd.R_drewN | apply Kd.R_drew)); exact Kd.R_mono (Kd.R_far (p := ⟨gb225, 8, none⟩) (Kd.R_far (p := ⟨gb225, 7, none⟩) (Kd.R_far (p := ⟨gb225, 6, none⟩) (Kd.R_far (p := ⟨gb225, 5, none⟩) (Kd.R_far (p := ⟨gb225, 4, none⟩) (Kd.R_far (p := ⟨gb225, 3, none⟩) (Kd.R_far (p := ⟨gb225, 2, none⟩) (Kd.R_far (p := ⟨gb225, 1, none⟩) (Kd.R_far (p := ⟨gb225, 0, none⟩) (Kd.R_types HO_248008.out BK225.out (by decide)) (fun _ hk => hk.2) (.int .i64 t232)) (fun _ hk => hk.2) (.int .i64 t235)) (fun _ hk => hk.2) (.int .i64 t238)) (fun _ hk => hk.2) (.int .i64 t241)) (fun _ hk => hk.2) (.string t244)) (fun _ hk => hk.2) (.int .i64 t248)) (fun _ hk => hk.2) (.int .i64 t251)) (fun _ hk => hk.2) (.string t254)) (fun _ hk => hk.2) (.slice Ao66 x248008_20.length co66)) (fun _ hk => trivial), by repeat (first | (with_reducible first | exact HB.out | apply below_alloc | apply pw_below_drewN | apply below_drew1 | refine below_set ?_ (IsS54.ge HI231.out) | refine below_set ?_ GE225.out | refine below_set ?_ GE247.out) | exact HB.out)⟩
                  · replace c61 := Bool.eq_false_iff.mpr c61
                    subst c61
                    have H1 : (some (0, 0, 0, 0, (⟨#[]⟩ : ByteArray), 0, 0, (⟨#[]⟩ : ByteArray), ([] : List ByteArray), 60)) = some (r1, r2, r3, r4, r5, r6, r7, r8, r9, r10) := by rw [if_neg (show ¬ (false = true) by decide)] at H; exact H
                    clear H
                    have H := H1
                    clear H1
                    simp only [Option.some.injEq, Prod.mk.injEq] at H
                    obtain ⟨rfl, rfl, rfl, rfl, rfl, rfl, rfl, rfl, rfl, rfl⟩ := H
                    obtain ⟨HGz71, hgz71⟩ := HI231.out
                    have hcz71_0 := cellS54_0 HGz71
                    have hcz71_1 := cellS54_1 HGz71
                    have hfz71_0 := blk_frozen HGz71 0
                    have hfz71_1 := blk_frozen HGz71 1
                    clear HGz71 hgz71
                    have hnb72 := NB247_225.out
                    have hnc72 := NB225_247.out
                    have hnb73 := NB247_231.out
                    have hnc73 := NB231_247.out
                    have hcz74_0 : wc.cell? ⟨gb247, 0, none⟩ = some (.int .i64 t232) := (blk_cell BK247.out 0).trans rfl
                    have hcz74_1 : wc.cell? ⟨gb247, 1, none⟩ = some (.int .i64 t235) := (blk_cell BK247.out 1).trans rfl
                    have hcz74_2 : wc.cell? ⟨gb247, 2, none⟩ = some (.int .i64 t238) := (blk_cell BK247.out 2).trans rfl
                    have hcz74_3 : wc.cell? ⟨gb247, 3, none⟩ = some (.int .i64 t241) := (blk_cell BK247.out 3).trans rfl
                    have hcz74_4 : wc.cell? ⟨gb247, 4, none⟩ = some (.string t244) := (blk_cell BK247.out 4).trans rfl
                    have hcz74_5 : wc.cell? ⟨gb247, 5, none⟩ = some (.int .i64 t248) := (blk_cell BK247.out 5).trans rfl
                    have hcz74_6 : wc.cell? ⟨gb247, 6, none⟩ = some (.int .i64 t251) := (blk_cell BK247.out 6).trans rfl
                    have hcz74_7 : wc.cell? ⟨gb247, 7, none⟩ = some (.string t254) := (blk_cell BK247.out 7).trans rfl
                    have hcz74_8 : wc.cell? ⟨gb247, 8, none⟩ = some (u248008) := (blk_cell BK247.out 8).trans rfl
                    have hfz74_0 := blk_frozen BK247.out 0
                    have hfz74_1 := blk_frozen BK247.out 1
                    have hfz74_2 := blk_frozen BK247.out 2
                    have hfz74_3 := blk_frozen BK247.out 3
                    have hfz74_4 := blk_frozen BK247.out 4
                    have hfz74_5 := blk_frozen BK247.out 5
                    have hfz74_6 := blk_frozen BK247.out 6
                    have hfz74_7 := blk_frozen BK247.out 7
                    have hfz74_8 := blk_frozen BK247.out 8
                    obtain ⟨Ao75, co75, eo75⟩ := Kd.R_slice HO_248008.out
                    subst eo75
                    go_wp2_with (first | ((with_reducible refine gate_callee (f := 17) rfl ?_); refine goesL_ (some 84) rfl rfl Try.func17 (by kernel_rfl) rfl #[.agg #[.int .i64 t232, .int .i64 t235, .int .i64 t238, .int .i64 t241, .string t244, .int .i64 t248, .int .i64 t251, .string t254, .slice Ao75 x248008_20.length co75]] rfl (by (try simp only [List.map_toArray, List.map_cons, List.map_nil]); first | done | rfl | (simp only [List.length_drop, List.length_take]; rfl) | (simp only [ByteArray.size_extract, Nat.min_self]; done) | (simp only [ByteArray.size_extract, Nat.min_self]; rfl)) ?_; (with_reducible refine (wire_right.calls kj20 t232 t235 t238 t241 t244 t248 t251 t254 _ _ x248008_20 false _ ?side1 ?side2 A60.out).mono ?_); (case side1 => repeat (first | exact (Kd.R_reads' HO_248008.out).2.2 | (with_reducible refine Kd.C_alloc ?_ _) | (with_reducible refine Kd.C_drewN ?_ _) | (with_reducible refine Kd.C_drew ?_))); (case side2 => exact (Kd.R_reads' HO_248008.out).2.1); rintro e w76 ⟨rfl, hb⟩; refine ⟨_, rfl, ?_⟩; have n0_ := Aside0.mk (Kd.R_below (by (with_reducible repeat (first | apply Kd.R_alloc | apply Kd.R_drewN | apply Kd.R_drew)); exact HO_248008.out) hb); have n1_ := Aside0.mk (blk_below (g := gb225) (o := .cells #[.int .i64 0, .int .i64 0, .int .i64 0, .int .i64 0, .string (⟨#[]⟩ : ByteArray), .int .i64 0, .int .i64 0, .string (⟨#[]⟩ : ByteArray), .slice none 0 0] 26 (0, 0)) (by (with_reducible repeat (first | refine blk_drewN ?_ _ | refine blk_drew ?_ | refine blk_alloc ?_ _)); exact BK225.out) hb); have n2_ := Aside0.mk (blk_below (g := gb247) (o := .cells #[.int .i64 t232, .int .i64 t235, .int .i64 t238, .int .i64 t241, .string t244, .int .i64 t248, .int .i64 t251, .string t254, .slice Ao75 x248008_20.length co75] 26 (0, 0)) (by (with_reducible repeat (first | refine blk_drewN ?_ _ | refine blk_drew ?_ | refine blk_alloc ?_ _)); exact BK247.out) hb); have n3_ := Aside0.mk (IsS54.below (by repeat (first | (with_reducible first | exact HI231.out | apply IsS54.alloc | apply IsS54.drewN | apply IsS54.drew | apply IsS54.set_0 | apply IsS54.set_1 | refine IsS54.far ?_ NB231_225.out _ | refine IsS54.far ?_ NB231_247.out _) | exact HI231.out)) hb); have n4_ := Aside0.mk (below_step (by repeat (first | (with_reducible first | exact HB.out | apply below_alloc | apply pw_below_drewN | apply below_drew1 | refine below_set ?_ (IsS54.ge HI231.out) | refine below_set ?_ GE225.out | refine below_set ?_ GE247.out) | exact HB.out)) hb); clear HO_248008; clear BK225; clear BK247; clear HI231; clear HB; have HO_248008 := n0_; have BK225 := n1_; have BK247 := n2_; have HI231 := n3_; have HB := n4_; clear n0_ n1_ n2_ n3_ n4_; (try clear hb); (try clear hb2); (try clear hk); (try clear hi); have hnb77 := NB225_231.out; have hnc77 := NB231_225.out; have hcz78_0 : w76.cell? ⟨gb225, 0, none⟩ = some (.int .i64 0) := (blk_cell BK225.out 0).trans rfl; have hcz78_1 : w76.cell? ⟨gb225, 1, none⟩ = some (.int .i64 0) := (blk_cell BK225.out 1).trans rfl; have hcz78_2 : w76.cell? ⟨gb225, 2, none⟩ = some (.int .i64 0) := (blk_cell BK225.out 2).trans rfl; have hcz78_3 : w76.cell? ⟨gb225, 3, none⟩ = some (.int .i64 0) := (blk_cell BK225.out 3).trans rfl; have hcz78_4 : w76.cell? ⟨gb225, 4, none⟩ = some (.string (⟨#[]⟩ : ByteArray)) := (blk_cell BK225.out 4).trans rfl; have hcz78_5 : w76.cell? ⟨gb225, 5, none⟩ = some (.int .i64 0) := (blk_cell BK225.out 5).trans rfl; have hcz78_6 : w76.cell? ⟨gb225, 6, none⟩ = some (.int .i64 0) := (blk_cell BK225.out 6).trans rfl; have hcz78_7 : w76.cell? ⟨gb225, 7, none⟩ = some (.string (⟨#[]⟩ : ByteArray)) := (blk_cell BK225.out 7).trans rfl; have hcz78_8 : w76.cell? ⟨gb225, 8, none⟩ = some (.slice none 0 0) := (blk_cell BK225.out 8).trans rfl; have hfz78_0 := blk_frozen BK225.out 0; have hfz78_1 := blk_frozen BK225.out 1; have hfz78_2 := blk_frozen BK225.out 2; have hfz78_3 := blk_frozen BK225.out 3; have hfz78_4 := blk_frozen BK225.out 4; have hfz78_5 := blk_frozen BK225.out 5; have hfz78_6 := blk_frozen BK225.out 6; have hfz78_7 := blk_frozen BK225.out 7; have hfz78_8 := blk_frozen BK225.out 8))
                    refine bodyPost_ret (results_ct rfl _ _ gb225 26 #[.int .i64 0, .int .i64 0, .int .i64 0, .int .i64 0, .string (⟨#[]⟩ : ByteArray), .int .i64 0, .int .i64 0, .string (⟨#[]⟩ : ByteArray), .slice none 0 0] (0, 0) _ rfl (by (with_reducible repeat (first | refine blk_drewN ?_ _ | refine blk_drew ?_ | refine blk_alloc ?_ _)); refine blk_put (cs := #[.int .i64 0, .int .i64 0, .int .i64 0, .int .i64 0, .string (⟨#[]⟩ : ByteArray), .int .i64 0, .int .i64 0, .string (⟨#[]⟩ : ByteArray), .slice none 0 0]) ?_ 8 _ rfl; (with_reducible repeat (first | refine blk_drewN ?_ _ | refine blk_drew ?_ | refine blk_alloc ?_ _)); refine blk_put (cs := #[.int .i64 0, .int .i64 0, .int .i64 0, .int .i64 0, .string (⟨#[]⟩ : ByteArray), .int .i64 0, .int .i64 0, .string (⟨#[]⟩ : ByteArray), .slice none 0 0]) ?_ 7 _ rfl; (with_reducible repeat (first | refine blk_drewN ?_ _ | refine blk_drew ?_ | refine blk_alloc ?_ _)); refine blk_put (cs := #[.int .i64 0, .int .i64 0, .int .i64 0, .int .i64 0, .string (⟨#[]⟩ : ByteArray), .int .i64 0, .int .i64 0, .string (⟨#[]⟩ : ByteArray), .slice none 0 0]) ?_ 6 _ rfl; (with_reducible repeat (first | refine blk_drewN ?_ _ | refine blk_drew ?_ | refine blk_alloc ?_ _)); refine blk_put (cs := #[.int .i64 0, .int .i64 0, .int .i64 0, .int .i64 0, .string (⟨#[]⟩ : ByteArray), .int .i64 0, .int .i64 0, .string (⟨#[]⟩ : ByteArray), .slice none 0 0]) ?_ 5 _ rfl; (with_reducible repeat (first | refine blk_drewN ?_ _ | refine blk_drew ?_ | refine blk_alloc ?_ _)); refine blk_put (cs := #[.int .i64 0, .int .i64 0, .int .i64 0, .int .i64 0, .string (⟨#[]⟩ : ByteArray), .int .i64 0, .int .i64 0, .string (⟨#[]⟩ : ByteArray), .slice none 0 0]) ?_ 4 _ rfl; (with_reducible repeat (first | refine blk_drewN ?_ _ | refine blk_drew ?_ | refine blk_alloc ?_ _)); refine blk_put (cs := #[.int .i64 0, .int .i64 0, .int .i64 0, .int .i64 0, .string (⟨#[]⟩ : ByteArray), .int .i64 0, .int .i64 0, .string (⟨#[]⟩ : ByteArray), .slice none 0 0]) ?_ 3 _ rfl; (with_reducible repeat (first | refine blk_drewN ?_ _ | refine blk_drew ?_ | refine blk_alloc ?_ _)); refine blk_put (cs := #[.int .i64 0, .int .i64 0, .int .i64 0, .int .i64 0, .string (⟨#[]⟩ : ByteArray), .int .i64 0, .int .i64 0, .string (⟨#[]⟩ : ByteArray), .slice none 0 0]) ?_ 2 _ rfl; (with_reducible repeat (first | refine blk_drewN ?_ _ | refine blk_drew ?_ | refine blk_alloc ?_ _)); refine blk_put (cs := #[.int .i64 0, .int .i64 0, .int .i64 0, .int .i64 0, .string (⟨#[]⟩ : ByteArray), .int .i64 0, .int .i64 0, .string (⟨#[]⟩ : ByteArray), .slice none 0 0]) ?_ 1 _ rfl; (with_reducible repeat (first | refine blk_drewN ?_ _ | refine blk_drew ?_ | refine blk_alloc ?_ _)); refine blk_put (cs := #[.int .i64 0, .int .i64 0, .int .i64 0, .int .i64 0, .string (⟨#[]⟩ : ByteArray), .int .i64 0, .int .i64 0, .string (⟨#[]⟩ : ByteArray), .slice none 0 0]) ?_ 0 _ rfl; (with_reducible repeat (first | refine blk_drewN ?_ _ | refine blk_drew ?_ | refine blk_alloc ?_ _)); exact BK225.out) Try.underlying26 rfl (by kernel_rfl)) rfl ?_
                    exact ⟨_, by first | rfl | (simp [errW_none, errW_some] <;> rfl) | (simp [*, errW_none, errW_some] <;> rfl), by first | exact Kd.R_nil _ _ _ _ _ | exact Kd.N_nil _ _ _ _ _ | exact Kd.V_nil _ _ _ _ _ | exact Kd.Q_nil _ _ _ _ _ | exact Kd.S_nil _ _ _ _ _, by repeat (first | (with_reducible first | exact HB.out | apply below_alloc | apply pw_below_drewN | apply below_drew1 | refine below_set ?_ (IsS54.ge HI231.out) | refine below_set ?_ GE225.out | refine below_set ?_ GE247.out) | exact HB.out)⟩
                · rw [if_neg c59] at H
                  have c59b0 : (x232000_20.toList == ([] : List UInt8)) = false := beq_eq_false_iff_ne.mpr c59
                  have c59b1 : (x232000_20.toList != ([] : List UInt8)) = true := bne_iff_ne.mpr c59
                  simp only [Option.some.injEq, Prod.mk.injEq] at H
                  obtain ⟨rfl, rfl, rfl, rfl, rfl, rfl, rfl, rfl, rfl, rfl⟩ := H
                  obtain ⟨HGz79, hgz79⟩ := HI231.out
                  have hcz79_0 := cellS54_0 HGz79
                  have hcz79_1 := cellS54_1 HGz79
                  have hfz79_0 := blk_frozen HGz79 0
                  have hfz79_1 := blk_frozen HGz79 1
                  clear HGz79 hgz79
                  have hnb80 := NB225_247.out
                  have hnc80 := NB247_225.out
                  have hnb81 := NB225_231.out
                  have hnc81 := NB231_225.out
                  have hcz82_0 : wc.cell? ⟨gb225, 0, none⟩ = some (.int .i64 0) := (blk_cell BK225.out 0).trans rfl
                  have hcz82_1 : wc.cell? ⟨gb225, 1, none⟩ = some (.int .i64 0) := (blk_cell BK225.out 1).trans rfl
                  have hcz82_2 : wc.cell? ⟨gb225, 2, none⟩ = some (.int .i64 0) := (blk_cell BK225.out 2).trans rfl
                  have hcz82_3 : wc.cell? ⟨gb225, 3, none⟩ = some (.int .i64 0) := (blk_cell BK225.out 3).trans rfl
                  have hcz82_4 : wc.cell? ⟨gb225, 4, none⟩ = some (.string (⟨#[]⟩ : ByteArray)) := (blk_cell BK225.out 4).trans rfl
                  have hcz82_5 : wc.cell? ⟨gb225, 5, none⟩ = some (.int .i64 0) := (blk_cell BK225.out 5).trans rfl
                  have hcz82_6 : wc.cell? ⟨gb225, 6, none⟩ = some (.int .i64 0) := (blk_cell BK225.out 6).trans rfl
                  have hcz82_7 : wc.cell? ⟨gb225, 7, none⟩ = some (.string (⟨#[]⟩ : ByteArray)) := (blk_cell BK225.out 7).trans rfl
                  have hcz82_8 : wc.cell? ⟨gb225, 8, none⟩ = some (.slice none 0 0) := (blk_cell BK225.out 8).trans rfl
                  have hfz82_0 := blk_frozen BK225.out 0
                  have hfz82_1 := blk_frozen BK225.out 1
                  have hfz82_2 := blk_frozen BK225.out 2
                  have hfz82_3 := blk_frozen BK225.out 3
                  have hfz82_4 := blk_frozen BK225.out 4
                  have hfz82_5 := blk_frozen BK225.out 5
                  have hfz82_6 := blk_frozen BK225.out 6
                  have hfz82_7 := blk_frozen BK225.out 7
                  have hfz82_8 := blk_frozen BK225.out 8
                  go_wp2
                  refine bodyPost_ret (results_ct rfl _ _ gb225 26 #[.int .i64 0, .int .i64 0, .int .i64 0, .int .i64 0, .string (⟨#[]⟩ : ByteArray), .int .i64 0, .int .i64 0, .string (⟨#[]⟩ : ByteArray), .slice none 0 0] (0, 0) _ rfl (by (with_reducible repeat (first | refine blk_drewN ?_ _ | refine blk_drew ?_ | refine blk_alloc ?_ _)); refine blk_put (cs := #[.int .i64 0, .int .i64 0, .int .i64 0, .int .i64 0, .string (⟨#[]⟩ : ByteArray), .int .i64 0, .int .i64 0, .string (⟨#[]⟩ : ByteArray), .slice none 0 0]) ?_ 8 _ rfl; (with_reducible repeat (first | refine blk_drewN ?_ _ | refine blk_drew ?_ | refine blk_alloc ?_ _)); refine blk_put (cs := #[.int .i64 0, .int .i64 0, .int .i64 0, .int .i64 0, .string (⟨#[]⟩ : ByteArray), .int .i64 0, .int .i64 0, .string (⟨#[]⟩ : ByteArray), .slice none 0 0]) ?_ 7 _ rfl; (with_reducible repeat (first | refine blk_drewN ?_ _ | refine blk_drew ?_ | refine blk_alloc ?_ _)); refine blk_put (cs := #[.int .i64 0, .int .i64 0, .int .i64 0, .int .i64 0, .string (⟨#[]⟩ : ByteArray), .int .i64 0, .int .i64 0, .string (⟨#[]⟩ : ByteArray), .slice none 0 0]) ?_ 6 _ rfl; (with_reducible repeat (first | refine blk_drewN ?_ _ | refine blk_drew ?_ | refine blk_alloc ?_ _)); refine blk_put (cs := #[.int .i64 0, .int .i64 0, .int .i64 0, .int .i64 0, .string (⟨#[]⟩ : ByteArray), .int .i64 0, .int .i64 0, .string (⟨#[]⟩ : ByteArray), .slice none 0 0]) ?_ 5 _ rfl; (with_reducible repeat (first | refine blk_drewN ?_ _ | refine blk_drew ?_ | refine blk_alloc ?_ _)); refine blk_put (cs := #[.int .i64 0, .int .i64 0, .int .i64 0, .int .i64 0, .string (⟨#[]⟩ : ByteArray), .int .i64 0, .int .i64 0, .string (⟨#[]⟩ : ByteArray), .slice none 0 0]) ?_ 4 _ rfl; (with_reducible repeat (first | refine blk_drewN ?_ _ | refine blk_drew ?_ | refine blk_alloc ?_ _)); refine blk_put (cs := #[.int .i64 0, .int .i64 0, .int .i64 0, .int .i64 0, .string (⟨#[]⟩ : ByteArray), .int .i64 0, .int .i64 0, .string (⟨#[]⟩ : ByteArray), .slice none 0 0]) ?_ 3 _ rfl; (with_reducible repeat (first | refine blk_drewN ?_ _ | refine blk_drew ?_ | refine blk_alloc ?_ _)); refine blk_put (cs := #[.int .i64 0, .int .i64 0, .int .i64 0, .int .i64 0, .string (⟨#[]⟩ : ByteArray), .int .i64 0, .int .i64 0, .string (⟨#[]⟩ : ByteArray), .slice none 0 0]) ?_ 2 _ rfl; (with_reducible repeat (first | refine blk_drewN ?_ _ | refine blk_drew ?_ | refine blk_alloc ?_ _)); refine blk_put (cs := #[.int .i64 0, .int .i64 0, .int .i64 0, .int .i64 0, .string (⟨#[]⟩ : ByteArray), .int .i64 0, .int .i64 0, .string (⟨#[]⟩ : ByteArray), .slice none 0 0]) ?_ 1 _ rfl; (with_reducible repeat (first | refine blk_drewN ?_ _ | refine blk_drew ?_ | refine blk_alloc ?_ _)); refine blk_put (cs := #[.int .i64 0, .int .i64 0, .int .i64 0, .int .i64 0, .string (⟨#[]⟩ : ByteArray), .int .i64 0, .int .i64 0, .string (⟨#[]⟩ : ByteArray), .slice none 0 0]) ?_ 0 _ rfl; (with_reducible repeat (first | refine blk_drewN ?_ _ | refine blk_drew ?_ | refine blk_alloc ?_ _)); exact BK225.out) Try.underlying26 rfl (by kernel_rfl)) rfl ?_
                  exact ⟨_, by first | rfl | (simp [errW_none, errW_some] <;> rfl) | (simp [*, errW_none, errW_some] <;> rfl), by first | exact Kd.R_nil _ _ _ _ _ | exact Kd.N_nil _ _ _ _ _ | exact Kd.V_nil _ _ _ _ _ | exact Kd.Q_nil _ _ _ _ _ | exact Kd.S_nil _ _ _ _ _, by repeat (first | (with_reducible first | exact HB.out | apply below_alloc | apply pw_below_drewN | apply below_drew1 | refine below_set ?_ (IsS54.ge HI231.out) | refine below_set ?_ GE225.out | refine below_set ?_ GE247.out) | exact HB.out)⟩
        · rw [if_neg c10] at H
          have c10b0 : (t227 == t230) = false := beq_eq_false_iff_ne.mpr c10
          have c10b1 : (t227 != t230) = true := bne_iff_ne.mpr c10
          simp only [Option.some.injEq, Prod.mk.injEq] at H
          obtain ⟨rfl, rfl, rfl, rfl, rfl, rfl, rfl, rfl, rfl, rfl⟩ := H
          go_enter Try.func15, Try.ntmps15
          try go_wp2_with (first | ((with_reducible refine gate_dst (N := 2) rfl ?_); refine box_event ?hg (N := 2) ?hd (cs := #[.int .i64 0, .int .i64 0, .int .i64 0, .int .i64 0, .string (⟨#[]⟩ : ByteArray), .int .i64 0, .int .i64 0, .string (⟨#[]⟩ : ByteArray), .slice none 0 0]) (t := 26) ?hr ?_; (case hd => rfl); (case hg => rfl); (case hr => first | (go_simp; done) | (go_simp; rfl)); intro gb225 hg w83 hbox hb; have n0_ := Aside0.mk (below_step (by repeat (first | (with_reducible first | exact HB.out | apply below_alloc | apply pw_below_drewN | apply below_drew1) | exact HB.out)) hb); have n1_ := Aside0.mk (hbox); have n2_ := Aside0.mk ((by rw [hg]; exact (below_size (by repeat (first | (with_reducible first | exact HB.out | apply below_alloc | apply pw_below_drewN | apply below_drew1) | exact HB.out))) : w.heap.size ≤ gb225)); have n3_ := Aside0.mk ((by rw [hg]; exact (below_size (by repeat (first | (with_reducible first | exact HB.out | apply below_alloc | apply pw_below_drewN | apply below_drew1) | exact HB.out))) : w.heap.size ≤ gb225)); clear HB; have HB := n0_; have BK225 := n1_; have GW225 := n2_; have GE225 := n3_; clear n0_ n1_ n2_ n3_; clear hb hbox hg) | ((with_reducible refine gate_dst (N := 15) rfl ?_); refine box_event ?hg (N := 15) ?hd (cs := #[.string (a0.extract 0 4), .bool false]) (t := 54) ?hr ?_; (case hd => rfl); (case hg => rfl); (case hr => first | (go_simp; done) | (go_simp; rfl)); intro gb226 hg w84 hbox hb; have n0_ := Aside0.mk (blk_below (g := gb225) (o := .cells #[.int .i64 0, .int .i64 0, .int .i64 0, .int .i64 0, .string (⟨#[]⟩ : ByteArray), .int .i64 0, .int .i64 0, .string (⟨#[]⟩ : ByteArray), .slice none 0 0] 26 (0, 0)) (by (with_reducible repeat (first | refine blk_drewN ?_ _ | refine blk_drew ?_ | refine blk_alloc ?_ _)); exact BK225.out) hb); have n1_ := Aside0.mk (below_step (by repeat (first | (with_reducible first | exact HB.out | apply below_alloc | apply pw_below_drewN | apply below_drew1 | refine below_set ?_ GE225.out) | exact HB.out)) hb); have n2_ := Aside0.mk ((show IsS54 w _ _ (a0.extract 0 4) false from ⟨hbox, by rw [hg]; exact (below_size (by repeat (first | (with_reducible first | exact HB.out | apply below_alloc | apply pw_below_drewN | apply below_drew1 | refine below_set ?_ GE225.out) | exact HB.out)))⟩)); have n3_ := Aside0.mk ((by rw [hg]; exact (below_size (by repeat (first | (with_reducible first | exact HB.out | apply below_alloc | apply pw_below_drewN | apply below_drew1 | refine below_set ?_ GE225.out) | exact HB.out))) : w.heap.size ≤ gb226)); have n4_ := Aside0.mk ((by rw [hg]; exact (below_size (by repeat (first | (with_reducible first | exact HB.out | apply below_alloc | apply pw_below_drewN | apply below_drew1 | refine below_set ?_ GE225.out) | exact HB.out))) : w.heap.size ≤ gb226)); have n5_ := Aside0.mk ((by rw [hg]; exact Nat.ne_of_lt (blk_lt (g := gb225) (o := .cells #[.int .i64 0, .int .i64 0, .int .i64 0, .int .i64 0, .string (⟨#[]⟩ : ByteArray), .int .i64 0, .int .i64 0, .string (⟨#[]⟩ : ByteArray), .slice none 0 0] 26 (0, 0)) (by (with_reducible repeat (first | refine blk_drewN ?_ _ | refine blk_drew ?_ | refine blk_alloc ?_ _)); exact BK225.out)) : gb225 ≠ gb226)); have n6_ := Aside0.mk ((by rw [hg]; exact Nat.ne_of_gt (blk_lt (g := gb225) (o := .cells #[.int .i64 0, .int .i64 0, .int .i64 0, .int .i64 0, .string (⟨#[]⟩ : ByteArray), .int .i64 0, .int .i64 0, .string (⟨#[]⟩ : ByteArray), .slice none 0 0] 26 (0, 0)) (by (with_reducible repeat (first | refine blk_drewN ?_ _ | refine blk_drew ?_ | refine blk_alloc ?_ _)); exact BK225.out)) : gb226 ≠ gb225)); clear BK225; clear HB; have BK225 := n0_; have HB := n1_; have HI226 := n2_; have GW226 := n3_; have GE226 := n4_; have NB225_226 := n5_; have NB226_225 := n6_; clear n0_ n1_ n2_ n3_ n4_ n5_ n6_; clear hb hbox hg))
          have n0_ := Aside0.mk (blk_drew BK225.out)
          have n1_ := Aside0.mk (IsS54.drew HI226.out)
          have n2_ := Aside0.mk (below_drew1 HB.out)
          clear BK225
          clear HI226
          clear HB
          have BK225 := n0_
          have HI226 := n1_
          have HB := n2_
          clear n0_ n1_ n2_
          refine start_ (n := 6) (S := fun w' => True) (ds := []) #[false, false, false, false, false, false] (by kernel_rfl) rfl rfl trivial (fun hHeld => ?_)
          generalize w84.drew = w85 at BK225 HI226 HB hHeld ⊢
          refine pure_ (i := 0) (N := some 16) (v := ?_) (a' := ?_) #[true, false, false, false, false, false] rfl rfl (by kernel_rfl) (fun _ _ _ h => h) (Or.inl ⟨by rfl, ?_⟩) ?_ ?_
          rotate_left
          · intro w'
            go_simp
            with_reducible rfl
          rotate_left
          · simp only [Act.put, List.setIfInBounds_toArray, List.set_cons_zero, List.set_cons_succ, i64_w, i32_w]
            rfl
          refine pure_ (i := 2) (N := some 18) (v := ?_) (a' := ?_) #[true, false, true, false, false, false] rfl rfl (by kernel_rfl) (fun _ _ _ h => h) (Or.inl ⟨by rfl, ?_⟩) ?_ ?_
          rotate_left
          · intro w'
            go_simp
            with_reducible rfl
          rotate_left
          · simp only [Act.put, List.setIfInBounds_toArray, List.set_cons_zero, List.set_cons_succ, i64_w, i32_w]
            rfl
          refine pure_ (i := 3) (N := some 19) (v := ?_) (a' := ?_) #[true, false, true, true, false, false] rfl rfl (by kernel_rfl) (fun _ _ _ h => h) (Or.inl ⟨by rfl, ?_⟩) ?_ ?_
          rotate_left
          · intro w'
            go_simp
            with_reducible rfl
          rotate_left
          · simp only [Act.put, List.setIfInBounds_toArray, List.set_cons_zero, List.set_cons_succ, i64_w, i32_w]
            rfl
          refine one_ (i := 1) (N := some 17) #[true, true, true, true, false, false] rfl rfl (by kernel_rfl) (by decide) (fun K hK => ?_)
          refine goes_ Try.func27 (by kernel_rfl) rfl #[.pointer (some ⟨gb226, 0, none⟩), .int .i64 4] (by rfl) rfl rfl (by (try simp only [List.map_toArray, List.map_cons, List.map_nil]); first | done | rfl | (simp only [List.length_drop, List.length_take]; rfl) | (simp only [ByteArray.size_extract, Nat.min_self]; done) | (simp only [ByteArray.size_extract, Nat.min_self]; rfl)) ?_
          with_reducible refine (wire_scan_num.calls k gb226 (a0.extract 0 4) false 4 t227 t228 t229 w _ ?side1 ?side2 A7.out).mono ?_
          (case side1 => repeat (first | (with_reducible first | exact HI226.out | apply IsS54.alloc | apply IsS54.drewN | apply IsS54.drew | apply IsS54.set_0 | apply IsS54.set_1 | refine IsS54.far ?_ NB226_225.out _) | exact HI226.out))
          (case side2 => repeat (first | (with_reducible first | exact HB.out | apply below_alloc | apply pw_below_drewN | apply below_drew1 | refine below_set ?_ (IsS54.ge HI226.out) | refine below_set ?_ GE225.out) | exact HB.out))
          rintro e w86 ⟨rfl, hi, hb, hk⟩
          refine ⟨_, rfl, ?_⟩
          have n0_ := Aside0.mk (KeepBut.blk hk (g' := gb225) (o := .cells #[.int .i64 0, .int .i64 0, .int .i64 0, .int .i64 0, .string (⟨#[]⟩ : ByteArray), .int .i64 0, .int .i64 0, .string (⟨#[]⟩ : ByteArray), .slice none 0 0] 26 (0, 0)) (by (with_reducible repeat (first | refine blk_drewN ?_ _ | refine blk_drew ?_ | refine blk_alloc ?_ _)); exact BK225.out) NB225_226.out (by simp))
          have n1_ := Aside0.mk (hb)
          have n2_ := Aside0.mk (hi)
          clear BK225
          clear HB
          clear HI226
          have BK225 := n0_
          have HB := n1_
          have HI226 := n2_
          clear n0_ n1_ n2_
          (try clear hb)
          (try clear hb2)
          (try clear hk)
          (try clear hi)
          refine hK.out _ _ trivial (fun hHeld => ?_)
          clear hK K
          refine norm_ (a' := ?_) ?_ ?_
          rotate_left
          · show Act.put _ (some 17) _ = _
            simp only [Act.put, List.setIfInBounds_toArray, List.set_cons_zero, List.set_cons_succ, i64_w, i32_w]
            rfl
          refine one_ (i := 4) (N := some 20) #[true, true, true, true, true, false] rfl rfl (by kernel_rfl) (by decide) (fun K hK => ?_)
          refine goes_ Try.func20 (by kernel_rfl) rfl #[.string (a0.extract 4 a0.size)] (by rfl) rfl rfl (by (try simp only [List.map_toArray, List.map_cons, List.map_nil]); first | done | rfl | (simp only [List.length_drop, List.length_take]; rfl) | (simp only [ByteArray.size_extract, Nat.min_self]; done) | (simp only [ByteArray.size_extract, Nat.min_self]; rfl)) ?_
          with_reducible refine (bits_Crc.calls k (a0.extract 4 a0.size) t230 _ A9.out).mono ?_
          rintro e w' ⟨rfl, ⟨nd, rfl⟩⟩
          refine ⟨_, rfl, ?_⟩
          refine hK.out _ _ trivial (fun hHeld => ?_)
          clear hK K
          refine norm_ (a' := ?_) ?_ ?_
          rotate_left
          · show Act.put _ (some 20) _ = _
            simp only [Act.put, List.setIfInBounds_toArray, List.set_cons_zero, List.set_cons_succ, i64_w, i32_w]
            rfl
          refine pure_ (i := 5) (N := some 21) (v := ?_) (a' := ?_) #[true, true, true, true, true, true] rfl rfl (by kernel_rfl) (fun _ _ _ h => h) (Or.inl ⟨by rfl, ?_⟩) ?_ ?_
          rotate_left
          · intro w'
            go_simp
            with_reducible rfl
          rotate_left
          · simp only [Act.put, List.setIfInBounds_toArray, List.set_cons_zero, List.set_cons_succ, i64_w, i32_w]
            rfl
          refine done_ (by kernel_rfl) ?_
          have hnb87 := NB225_226.out
          have hnc87 := NB226_225.out
          have hcz88_0 : w86.cell? ⟨gb225, 0, none⟩ = some (.int .i64 0) := (blk_cell BK225.out 0).trans rfl
          have hcz88_1 : w86.cell? ⟨gb225, 1, none⟩ = some (.int .i64 0) := (blk_cell BK225.out 1).trans rfl
          have hcz88_2 : w86.cell? ⟨gb225, 2, none⟩ = some (.int .i64 0) := (blk_cell BK225.out 2).trans rfl
          have hcz88_3 : w86.cell? ⟨gb225, 3, none⟩ = some (.int .i64 0) := (blk_cell BK225.out 3).trans rfl
          have hcz88_4 : w86.cell? ⟨gb225, 4, none⟩ = some (.string (⟨#[]⟩ : ByteArray)) := (blk_cell BK225.out 4).trans rfl
          have hcz88_5 : w86.cell? ⟨gb225, 5, none⟩ = some (.int .i64 0) := (blk_cell BK225.out 5).trans rfl
          have hcz88_6 : w86.cell? ⟨gb225, 6, none⟩ = some (.int .i64 0) := (blk_cell BK225.out 6).trans rfl
          have hcz88_7 : w86.cell? ⟨gb225, 7, none⟩ = some (.string (⟨#[]⟩ : ByteArray)) := (blk_cell BK225.out 7).trans rfl
          have hcz88_8 : w86.cell? ⟨gb225, 8, none⟩ = some (.slice none 0 0) := (blk_cell BK225.out 8).trans rfl
          have hfz88_0 := blk_frozen BK225.out 0
          have hfz88_1 := blk_frozen BK225.out 1
          have hfz88_2 := blk_frozen BK225.out 2
          have hfz88_3 := blk_frozen BK225.out 3
          have hfz88_4 := blk_frozen BK225.out 4
          have hfz88_5 := blk_frozen BK225.out 5
          have hfz88_6 := blk_frozen BK225.out 6
          have hfz88_7 := blk_frozen BK225.out 7
          have hfz88_8 := blk_frozen BK225.out 8
          try go_wp2
          refine bodyPost_ret (results_ct rfl _ _ gb225 26 #[.int .i64 0, .int .i64 0, .int .i64 0, .int .i64 0, .string (⟨#[]⟩ : ByteArray), .int .i64 0, .int .i64 0, .string (⟨#[]⟩ : ByteArray), .slice none 0 0] (0, 0) _ rfl (by (with_reducible repeat (first | refine blk_drewN ?_ _ | refine blk_drew ?_ | refine blk_alloc ?_ _)); refine blk_put (cs := #[.int .i64 0, .int .i64 0, .int .i64 0, .int .i64 0, .string (⟨#[]⟩ : ByteArray), .int .i64 0, .int .i64 0, .string (⟨#[]⟩ : ByteArray), .slice none 0 0]) ?_ 8 _ rfl; (with_reducible repeat (first | refine blk_drewN ?_ _ | refine blk_drew ?_ | refine blk_alloc ?_ _)); refine blk_put (cs := #[.int .i64 0, .int .i64 0, .int .i64 0, .int .i64 0, .string (⟨#[]⟩ : ByteArray), .int .i64 0, .int .i64 0, .string (⟨#[]⟩ : ByteArray), .slice none 0 0]) ?_ 7 _ rfl; (with_reducible repeat (first | refine blk_drewN ?_ _ | refine blk_drew ?_ | refine blk_alloc ?_ _)); refine blk_put (cs := #[.int .i64 0, .int .i64 0, .int .i64 0, .int .i64 0, .string (⟨#[]⟩ : ByteArray), .int .i64 0, .int .i64 0, .string (⟨#[]⟩ : ByteArray), .slice none 0 0]) ?_ 6 _ rfl; (with_reducible repeat (first | refine blk_drewN ?_ _ | refine blk_drew ?_ | refine blk_alloc ?_ _)); refine blk_put (cs := #[.int .i64 0, .int .i64 0, .int .i64 0, .int .i64 0, .string (⟨#[]⟩ : ByteArray), .int .i64 0, .int .i64 0, .string (⟨#[]⟩ : ByteArray), .slice none 0 0]) ?_ 5 _ rfl; (with_reducible repeat (first | refine blk_drewN ?_ _ | refine blk_drew ?_ | refine blk_alloc ?_ _)); refine blk_put (cs := #[.int .i64 0, .int .i64 0, .int .i64 0, .int .i64 0, .string (⟨#[]⟩ : ByteArray), .int .i64 0, .int .i64 0, .string (⟨#[]⟩ : ByteArray), .slice none 0 0]) ?_ 4 _ rfl; (with_reducible repeat (first | refine blk_drewN ?_ _ | refine blk_drew ?_ | refine blk_alloc ?_ _)); refine blk_put (cs := #[.int .i64 0, .int .i64 0, .int .i64 0, .int .i64 0, .string (⟨#[]⟩ : ByteArray), .int .i64 0, .int .i64 0, .string (⟨#[]⟩ : ByteArray), .slice none 0 0]) ?_ 3 _ rfl; (with_reducible repeat (first | refine blk_drewN ?_ _ | refine blk_drew ?_ | refine blk_alloc ?_ _)); refine blk_put (cs := #[.int .i64 0, .int .i64 0, .int .i64 0, .int .i64 0, .string (⟨#[]⟩ : ByteArray), .int .i64 0, .int .i64 0, .string (⟨#[]⟩ : ByteArray), .slice none 0 0]) ?_ 2 _ rfl; (with_reducible repeat (first | refine blk_drewN ?_ _ | refine blk_drew ?_ | refine blk_alloc ?_ _)); refine blk_put (cs := #[.int .i64 0, .int .i64 0, .int .i64 0, .int .i64 0, .string (⟨#[]⟩ : ByteArray), .int .i64 0, .int .i64 0, .string (⟨#[]⟩ : ByteArray), .slice none 0 0]) ?_ 1 _ rfl; (with_reducible repeat (first | refine blk_drewN ?_ _ | refine blk_drew ?_ | refine blk_alloc ?_ _)); refine blk_put (cs := #[.int .i64 0, .int .i64 0, .int .i64 0, .int .i64 0, .string (⟨#[]⟩ : ByteArray), .int .i64 0, .int .i64 0, .string (⟨#[]⟩ : ByteArray), .slice none 0 0]) ?_ 0 _ rfl; (with_reducible repeat (first | refine blk_drewN ?_ _ | refine blk_drew ?_ | refine blk_alloc ?_ _)); exact BK225.out) Try.underlying26 rfl (by kernel_rfl)) rfl ?_
          exact ⟨_, by first | rfl | (simp [errW_none, errW_some] <;> rfl) | (simp [*, errW_none, errW_some] <;> rfl), by first | exact Kd.R_nil _ _ _ _ _ | exact Kd.N_nil _ _ _ _ _ | exact Kd.V_nil _ _ _ _ _ | exact Kd.Q_nil _ _ _ _ _ | exact Kd.S_nil _ _ _ _ _, by repeat (first | (with_reducible first | exact HB.out | apply below_alloc | apply pw_below_drewN | apply below_drew1 | refine below_set ?_ (IsS54.ge HI226.out) | refine below_set ?_ GE225.out) | exact HB.out)⟩
      · rw [if_neg c6] at H
        exact absurd H (by simp)
    · rw [if_neg c5] at H
      exact absurd H (by simp)

end Go.Proofs.Ytnimhhhbefpifaa.PL20
