/- Printed for this claim by a program of this session over the kit's print program: the Go functions as Lean functions, and proofs that the calls come to these answers. No conditions. -/
import Derived.Test.YtbonmhgihedjpaaXM
import Derived.Test.YtbonmhgihedjpaaXPL15x0
import Derived.Test.YtbonmhgihedjpaaXPL15x12
namespace Go.Proofs.Ytbonmhgihedjpaa.PL15
open Go.RowKit Go.Proofs.YtbonmhgihedjpaaW.PrintWords Go.Proofs.YtbonmhgihedjpaaW.PrintLast Go.Proofs.YtbonmhgihedjpaaW.PrintMore
attribute [local go_sem] max2_int min2_int max_two min_two max_three min_three max_four min_four   -- for this text's walks alone
set_option linter.unusedVariables false
set_option linter.unusedSimpArgs false

@[reducible] def T_ : Bool := true
@[reducible] def F_ : Bool := false
mutual
def vitrineref14_Sum.l0 : Nat → List Int → List Int → List Int → Option (ByteArray)
  | 0, _, _, _ => none
  | k + 1, x3, x4, x5 => if (x5.length : Int) > 0 then (if 64 ≤ 35184372088832 then (vitrineref14_Sum.l1 k x3 x4 x5 (List.replicate 64 0) 0) else (none)) else (vitrineref14_Sum.l5 k x3 ([] : List Int) 0)
def vitrineref14_Sum.l1 : Nat → List Int → List Int → List Int → List Int → Int → Option (ByteArray)
  | 0, _, _, _, _, _ => none
  | k + 1, x3, x4, x5, x6, x7 => if x7 < 16 then (if 0 ≤ (wrap64 (4 * x7)) then (if (wrap64 (4 * x7)) < (x5.length : Int) then (if 0 ≤ (wrap64 ((wrap64 (4 * x7)) + 1)) then (if (wrap64 ((wrap64 (4 * x7)) + 1)) < (x5.length : Int) then (if 0 ≤ (wrap64 ((wrap64 (4 * x7)) + 2)) then (if (wrap64 ((wrap64 (4 * x7)) + 2)) < (x5.length : Int) then (if 0 ≤ (wrap64 ((wrap64 (4 * x7)) + 3)) then (if (wrap64 ((wrap64 (4 * x7)) + 3)) < (x5.length : Int) then (if 0 ≤ x7 then (if x7 < (x6.length : Int) then (vitrineref14_Sum.l1 k x3 x4 x5 (x6.set (x7 : Int).toNat (Go.bits .or .i64 (Go.bits .or .i64 (Go.bits .or .i64 (wrap64 ((wrap64 (rd x5 (wrap64 (4 * x7)))) * 16777216)) (wrap64 ((wrap64 (rd x5 (wrap64 ((wrap64 (4 * x7)) + 1)))) * 65536))) (wrap64 ((wrap64 (rd x5 (wrap64 ((wrap64 (4 * x7)) + 2)))) * 256))) (wrap64 (rd x5 (wrap64 ((wrap64 (4 * x7)) + 3)))))) (wrap64 (x7 + 1))) else (none)) else (none)) else (none)) else (none)) else (none)) else (none)) else (none)) else (none)) else (none)) else (none)) else (vitrineref14_Sum.l2 k x3 x4 x5 x6 16)
def vitrineref14_Sum.l2 : Nat → List Int → List Int → List Int → List Int → Int → Option (ByteArray)
  | 0, _, _, _, _, _ => none
  | k + 1, x3, x4, x5, x6, x8 => if x8 < 64 then (if 0 ≤ (wrap64 (x8 - 15)) then (if (wrap64 (x8 - 15)) < (x6.length : Int) then (if 0 ≤ (wrap64 (x8 - 2)) then (if (wrap64 (x8 - 2)) < (x6.length : Int) then (if 0 ≤ (wrap64 (x8 - 16)) then (if (wrap64 (x8 - 16)) < (x6.length : Int) then ((vitrineref14_turned.f (rd x6 (wrap64 (x8 - 15))) 7).bind fun t204 => ((vitrineref14_turned.f (rd x6 (wrap64 (x8 - 15))) 18).bind fun t205 => (if 0 ≤ (wrap64 (x8 - 7)) then (if (wrap64 (x8 - 7)) < (x6.length : Int) then ((vitrineref14_turned.f (rd x6 (wrap64 (x8 - 2))) 17).bind fun t207 => ((vitrineref14_turned.f (rd x6 (wrap64 (x8 - 2))) 19).bind fun t208 => (if 0 ≤ x8 then (if x8 < (x6.length : Int) then (vitrineref14_Sum.l2 k x3 x4 x5 (x6.set (x8 : Int).toNat (Int.tmod (wrap64 ((wrap64 ((wrap64 ((rd x6 (wrap64 (x8 - 16))) + (Go.bits .xor .i64 (Go.bits .xor .i64 t204 t205) ((rd x6 (wrap64 (x8 - 15))) / 8)))) + (rd x6 (wrap64 (x8 - 7))))) + (Go.bits .xor .i64 (Go.bits .xor .i64 t207 t208) ((rd x6 (wrap64 (x8 - 2))) / 1024)))) 4294967296)) (wrap64 (x8 + 1))) else (none)) else (none)))) else (none)) else (none)))) else (none)) else (none)) else (none)) else (none)) else (none)) else (none)) else ((some (([] : List Int) : List Int)).bind fun y210 => (if y210.length + x3.length < 17592186044416 then (vitrineref14_Sum.l3 k x3 x4 x5 x6 (y210 ++ x3) 0) else (none)))
def vitrineref14_Sum.l3 : Nat → List Int → List Int → List Int → List Int → List Int → Int → Option (ByteArray)
  | 0, _, _, _, _, _, _ => none
  | k + 1, x3, x4, x5, x6, x11, x12 => if x12 < 64 then (if 0 < (x11.length : Int) then (if 4 < (x11.length : Int) then (if 7 < (x11.length : Int) then ((vitrineref14_turned.f (rd x11 4) 6).bind fun t219 => ((vitrineref14_turned.f (rd x11 4) 11).bind fun t220 => ((vitrineref14_turned.f (rd x11 4) 25).bind fun t221 => (if 5 < (x11.length : Int) then (if 6 < (x11.length : Int) then (if 0 ≤ x12 then (if x12 < (x4.length : Int) then (if x12 < (x6.length : Int) then ((vitrineref14_turned.f (rd x11 0) 2).bind fun t226 => ((vitrineref14_turned.f (rd x11 0) 13).bind fun t227 => ((vitrineref14_turned.f (rd x11 0) 22).bind fun t228 => (if 1 < (x11.length : Int) then (if 2 < (x11.length : Int) then (if 3 < (x11.length : Int) then (vitrineref14_Sum.l3 k x3 x4 x5 x6 (([Int.tmod (wrap64 ((Int.tmod (wrap64 ((wrap64 ((wrap64 ((wrap64 ((rd x11 7) + (Go.bits .xor .i64 (Go.bits .xor .i64 t219 t220) t221))) + (Go.bits .xor .i64 (Go.bits .and .i64 (rd x11 4) (rd x11 5)) (Go.bits .and .i64 (wrap64 (4294967295 - (rd x11 4))) (rd x11 6))))) + (rd x4 x12))) + (rd x6 x12))) 4294967296) + (Int.tmod (wrap64 ((Go.bits .xor .i64 (Go.bits .xor .i64 t226 t227) t228) + (Go.bits .xor .i64 (Go.bits .xor .i64 (Go.bits .and .i64 (rd x11 0) (rd x11 1)) (Go.bits .and .i64 (rd x11 0) (rd x11 2))) (Go.bits .and .i64 (rd x11 1) (rd x11 2))))) 4294967296))) 4294967296, rd x11 0, rd x11 1, rd x11 2, Int.tmod (wrap64 ((rd x11 3) + (Int.tmod (wrap64 ((wrap64 ((wrap64 ((wrap64 ((rd x11 7) + (Go.bits .xor .i64 (Go.bits .xor .i64 t219 t220) t221))) + (Go.bits .xor .i64 (Go.bits .and .i64 (rd x11 4) (rd x11 5)) (Go.bits .and .i64 (wrap64 (4294967295 - (rd x11 4))) (rd x11 6))))) + (rd x4 x12))) + (rd x6 x12))) 4294967296))) 4294967296, rd x11 4, rd x11 5, rd x11 6] : List Int)) (wrap64 (x12 + 1))) else (none)) else (none)) else (none))))) else (none)) else (none)) else (none)) else (none)) else (none))))) else (none)) else (none)) else (none)) else (vitrineref14_Sum.l4 k x3 x4 x5 x11 0)
def vitrineref14_Sum.l4 : Nat → List Int → List Int → List Int → List Int → Int → Option (ByteArray)
  | 0, _, _, _, _, _ => none
  | k + 1, x3, x4, x5, x11, x17 => if x17 < 8 then (if 0 ≤ x17 then (if x17 < (x3.length : Int) then (if x17 < (x11.length : Int) then (vitrineref14_Sum.l4 k (x3.set (x17 : Int).toNat (Int.tmod (wrap64 ((rd x3 x17) + (rd x11 x17))) 4294967296)) x4 x5 x11 (wrap64 (x17 + 1))) else (none)) else (none)) else (none)) else (if 64 ≤ (x5.length : Int) then (vitrineref14_Sum.l0 k x3 x4 (x5.drop (64 : Int).toNat)) else (none))
def vitrineref14_Sum.l5 : Nat → List Int → List Int → Int → Option (ByteArray)
  | 0, _, _, _ => none
  | k + 1, x3, x18, x19 => if x19 < 8 then (if 0 ≤ x19 then (if x19 < (x3.length : Int) then ((some (([((rd x3 x19) / 16777216) % 256, ((rd x3 x19) / 65536) % 256, ((rd x3 x19) / 256) % 256, (rd x3 x19) % 256] : List Int) : List Int)).bind fun y253 => (if x18.length + y253.length < 140737488355328 then (vitrineref14_Sum.l5 k x3 (x18 ++ y253) (wrap64 (x19 + 1))) else (none))) else (none)) else (none)) else (some (strOfNums x18))
end
def vitrineref14_Sum.f (k : Nat) (a0 : ByteArray) : Option (ByteArray) := (vitrineref14_constants.f).bind fun t187 => ((vitrineref14_Filled.f k a0).bind fun t190 => (vitrineref14_Sum.l0 k (([1779033703, 3144134277, 1013904242, 2773480762, 1359893119, 2600822924, 528734635, 1541459225] : List Int)) t187 t190))
theorem vitrineref14_Sum.mono_l : ∀ k, (∀ y0 y1 y2, LeO (vitrineref14_Sum.l0 k y0 y1 y2) (vitrineref14_Sum.l0 (k + 1) y0 y1 y2)) ∧ (∀ y0 y1 y2 y3 y4, LeO (vitrineref14_Sum.l1 k y0 y1 y2 y3 y4) (vitrineref14_Sum.l1 (k + 1) y0 y1 y2 y3 y4)) ∧ (∀ y0 y1 y2 y3 y4, LeO (vitrineref14_Sum.l2 k y0 y1 y2 y3 y4) (vitrineref14_Sum.l2 (k + 1) y0 y1 y2 y3 y4)) ∧ (∀ y0 y1 y2 y3 y4 y5, LeO (vitrineref14_Sum.l3 k y0 y1 y2 y3 y4 y5) (vitrineref14_Sum.l3 (k + 1) y0 y1 y2 y3 y4 y5)) ∧ (∀ y0 y1 y2 y3 y4, LeO (vitrineref14_Sum.l4 k y0 y1 y2 y3 y4) (vitrineref14_Sum.l4 (k + 1) y0 y1 y2 y3 y4)) ∧ (∀ y0 y1 y2, LeO (vitrineref14_Sum.l5 k y0 y1 y2) (vitrineref14_Sum.l5 (k + 1) y0 y1 y2))
  | 0 => ⟨fun _ _ _ r h => by simp [vitrineref14_Sum.l0] at h, fun _ _ _ _ _ r h => by simp [vitrineref14_Sum.l1] at h, fun _ _ _ _ _ r h => by simp [vitrineref14_Sum.l2] at h, fun _ _ _ _ _ _ r h => by simp [vitrineref14_Sum.l3] at h, fun _ _ _ _ _ r h => by simp [vitrineref14_Sum.l4] at h, fun _ _ _ r h => by simp [vitrineref14_Sum.l5] at h⟩
  | k + 1 => by
    obtain ⟨ih0, ih1, ih2, ih3, ih4, ih5⟩ := vitrineref14_Sum.mono_l k
    refine ⟨?_, ?_, ?_, ?_, ?_, ?_⟩
    · intro y0 y1 y2
      unfold vitrineref14_Sum.l0
      repeat' first
      | (with_reducible exact ih0 _ _ _)
      | (with_reducible exact ih1 _ _ _ _ _)
      | (with_reducible exact ih2 _ _ _ _ _)
      | (with_reducible exact ih3 _ _ _ _ _ _)
      | (with_reducible exact ih4 _ _ _ _ _)
      | (with_reducible exact ih5 _ _ _)
      | (with_reducible exact vitrineref14_Filled.mono _ _)
      | (with_reducible exact LeO.refl _)
      | (with_reducible exact LeO.none _)
      | (with_reducible refine LeO.ite ?_ ?_)
      | (with_reducible refine LeO.bind ?_ (fun _ => ?_))
      | exact ih0 _ _ _
      | exact ih1 _ _ _ _ _
      | exact ih2 _ _ _ _ _
      | exact ih3 _ _ _ _ _ _
      | exact ih4 _ _ _ _ _
      | exact ih5 _ _ _
      | exact vitrineref14_Filled.mono _ _
      | exact LeO.none _
      | refine LeO.ite ?_ ?_
      | refine LeO.bind ?_ (fun _ => ?_)
    · intro y0 y1 y2 y3 y4
      unfold vitrineref14_Sum.l1
      repeat' first
      | (with_reducible exact ih0 _ _ _)
      | (with_reducible exact ih1 _ _ _ _ _)
      | (with_reducible exact ih2 _ _ _ _ _)
      | (with_reducible exact ih3 _ _ _ _ _ _)
      | (with_reducible exact ih4 _ _ _ _ _)
      | (with_reducible exact ih5 _ _ _)
      | (with_reducible exact vitrineref14_Filled.mono _ _)
      | (with_reducible exact LeO.refl _)
      | (with_reducible exact LeO.none _)
      | (with_reducible refine LeO.ite ?_ ?_)
      | (with_reducible refine LeO.bind ?_ (fun _ => ?_))
      | exact ih0 _ _ _
      | exact ih1 _ _ _ _ _
      | exact ih2 _ _ _ _ _
      | exact ih3 _ _ _ _ _ _
      | exact ih4 _ _ _ _ _
      | exact ih5 _ _ _
      | exact vitrineref14_Filled.mono _ _
      | exact LeO.none _
      | refine LeO.ite ?_ ?_
      | refine LeO.bind ?_ (fun _ => ?_)
    · intro y0 y1 y2 y3 y4
      unfold vitrineref14_Sum.l2
      repeat' first
      | (with_reducible exact ih0 _ _ _)
      | (with_reducible exact ih1 _ _ _ _ _)
      | (with_reducible exact ih2 _ _ _ _ _)
      | (with_reducible exact ih3 _ _ _ _ _ _)
      | (with_reducible exact ih4 _ _ _ _ _)
      | (with_reducible exact ih5 _ _ _)
      | (with_reducible exact vitrineref14_Filled.mono _ _)
      | (with_reducible exact LeO.refl _)
      | (with_reducible exact LeO.none _)
      | (with_reducible refine LeO.ite ?_ ?_)
      | (with_reducible refine LeO.bind ?_ (fun _ => ?_))
      | exact ih0 _ _ _
      | exact ih1 _ _ _ _ _
      | exact ih2 _ _ _ _ _
      | exact ih3 _ _ _ _ _ _
      | exact ih4 _ _ _ _ _
      | exact ih5 _ _ _
      | exact vitrineref14_Filled.mono _ _
      | exact LeO.none _
      | refine LeO.ite ?_ ?_
      | refine LeO.bind ?_ (fun _ => ?_)
    · intro y0 y1 y2 y3 y4 y5
      unfold vitrineref14_Sum.l3
      repeat' first
      | (with_reducible exact ih0 _ _ _)
      | (with_reducible exact ih1 _ _ _ _ _)
      | (with_reducible exact ih2 _ _ _ _ _)
      | (with_reducible exact ih3 _ _ _ _ _ _)
      | (with_reducible exact ih4 _ _ _ _ _)
      | (with_reducible exact ih5 _ _ _)
      | (with_reducible exact vitrineref14_Filled.mono _ _)
      | (with_reducible exact LeO.refl _)
      | (with_reducible exact LeO.none _)
      | (with_reducible refine LeO.ite ?_ ?_)
      | (with_reducible refine LeO.bind ?_ (fun _ => ?_))
      | exact ih0 _ _ _
      | exact ih1 _ _ _ _ _
      | exact ih2 _ _ _ _ _
      | exact ih3 _ _ _ _ _ _
      | exact ih4 _ _ _ _ _
      | exact ih5 _ _ _
      | exact vitrineref14_Filled.mono _ _
      | exact LeO.none _
      | refine LeO.ite ?_ ?_
      | refine LeO.bind ?_ (fun _ => ?_)
    · intro y0 y1 y2 y3 y4
      unfold vitrineref14_Sum.l4
      repeat' first
      | (with_reducible exact ih0 _ _ _)
      | (with_reducible exact ih1 _ _ _ _ _)
      | (with_reducible exact ih2 _ _ _ _ _)
      | (with_reducible exact ih3 _ _ _ _ _ _)
      | (with_reducible exact ih4 _ _ _ _ _)
      | (with_reducible exact ih5 _ _ _)
      | (with_reducible exact vitrineref14_Filled.mono _ _)
      | (with_reducible exact LeO.refl _)
      | (with_reducible exact LeO.none _)
      | (with_reducible refine LeO.ite ?_ ?_)
      | (with_reducible refine LeO.bind ?_ (fun _ => ?_))
      | exact ih0 _ _ _
      | exact ih1 _ _ _ _ _
      | exact ih2 _ _ _ _ _
      | exact ih3 _ _ _ _ _ _
      | exact ih4 _ _ _ _ _
      | exact ih5 _ _ _
      | exact vitrineref14_Filled.mono _ _
      | exact LeO.none _
      | refine LeO.ite ?_ ?_
      | refine LeO.bind ?_ (fun _ => ?_)
    · intro y0 y1 y2
      unfold vitrineref14_Sum.l5
      repeat' first
      | (with_reducible exact ih0 _ _ _)
      | (with_reducible exact ih1 _ _ _ _ _)
      | (with_reducible exact ih2 _ _ _ _ _)
      | (with_reducible exact ih3 _ _ _ _ _ _)
      | (with_reducible exact ih4 _ _ _ _ _)
      | (with_reducible exact ih5 _ _ _)
      | (with_reducible exact vitrineref14_Filled.mono _ _)
      | (with_reducible exact LeO.refl _)
      | (with_reducible exact LeO.none _)
      | (with_reducible refine LeO.ite ?_ ?_)
      | (with_reducible refine LeO.bind ?_ (fun _ => ?_))
      | exact ih0 _ _ _
      | exact ih1 _ _ _ _ _
      | exact ih2 _ _ _ _ _
      | exact ih3 _ _ _ _ _ _
      | exact ih4 _ _ _ _ _
      | exact ih5 _ _ _
      | exact vitrineref14_Filled.mono _ _
      | exact LeO.none _
      | refine LeO.ite ?_ ?_
      | refine LeO.bind ?_ (fun _ => ?_)
theorem vitrineref14_Sum.mono : ∀ a0 k, LeO (vitrineref14_Sum.f k a0) (vitrineref14_Sum.f (k + 1) a0) := by
  intro a0 k
  obtain ⟨ih0, ih1, ih2, ih3, ih4, ih5⟩ := vitrineref14_Sum.mono_l k
  unfold vitrineref14_Sum.f
  repeat' first
      | (with_reducible exact ih0 _ _ _)
      | (with_reducible exact ih1 _ _ _ _ _)
      | (with_reducible exact ih2 _ _ _ _ _)
      | (with_reducible exact ih3 _ _ _ _ _ _)
      | (with_reducible exact ih4 _ _ _ _ _)
      | (with_reducible exact ih5 _ _ _)
      | (with_reducible exact vitrineref14_Filled.mono _ _)
      | (with_reducible exact LeO.refl _)
      | (with_reducible exact LeO.none _)
      | (with_reducible refine LeO.ite ?_ ?_)
      | (with_reducible refine LeO.bind ?_ (fun _ => ?_))
      | exact ih0 _ _ _
      | exact ih1 _ _ _ _ _
      | exact ih2 _ _ _ _ _
      | exact ih3 _ _ _ _ _ _
      | exact ih4 _ _ _ _ _
      | exact ih5 _ _ _
      | exact vitrineref14_Filled.mono _ _
      | exact LeO.none _
      | refine LeO.ite ?_ ?_
      | refine LeO.bind ?_ (fun _ => ?_)
def vitrineref14_Sum.T9 : Bool × List (List Nat × List Nat) := (true, [([], []), ([], []), ([], []), ([], []), ([3], [3]), ([2, 4], [2, 4]), ([5], [5]), ([6], [6]), ([7], [7]), ([], []), ([], []), ([10], [10]), ([11], [11]), ([9, 12], [9, 12]), ([13], [13]), ([14], [14]), ([15], [15]), ([8, 16], [8, 16]), ([], []), ([], []), ([19], [19]), ([20], [20]), ([18, 21], [18, 21]), ([22], [22]), ([23], [23]), ([24], [24]), ([17, 25], [17, 25]), ([], []), ([], []), ([28], [28]), ([29], [29]), ([27, 30], [27, 30]), ([31], [31]), ([32], [32]), ([26, 33], [26, 33]), ([0, 1, 0, 1, 2, 3, 4, 5, 6, 7, 8, 9, 10, 11, 12, 13, 14, 15, 16, 17, 18, 19, 20, 21, 22, 23, 24, 25, 26, 27, 28, 29, 30, 31, 32, 33, 34], [0, 1]), ([35, 34, 0, 1, 2, 3, 4, 5, 6, 7, 8, 9, 10, 11, 12, 13, 14, 15, 16, 17, 18, 19, 20, 21, 22, 23, 24, 25, 26, 27, 28, 29, 30, 31, 32, 33, 34], [34, 35])])
def vitrineref14_Sum.B9 : List Nat := [0, 0, 0, 0, 8, 28, 60, 124, 252, 0, 0, 1024, 3072, 7680, 15872, 32256, 65024, 131068, 0, 0, 524288, 1572864, 3932160, 8126464, 16515072, 33292288, 67108860, 0, 0, 268435456, 805306368, 2013265920, 4160749568, 8455716864, 17179869180, 34359738367, 68719476735]
theorem vitrineref14_Sum.tab9 : rtab .any (opsOf Try.f31 9) = vitrineref14_Sum.T9 := by kernel_rfl
theorem vitrineref14_Sum.bits9 : waitsOk vitrineref14_Sum.T9.2 vitrineref14_Sum.B9 = true := by kernel_rfl
def vitrineref14_Sum.T15 : Bool × List (List Nat × List Nat) := (true, [([], []), ([], []), ([], []), ([], []), ([3], [3]), ([2, 4], [2, 4]), ([5], [5]), ([], []), ([7], [7]), ([], []), ([9, 8], [9]), ([8, 10], [8, 10]), ([], []), ([12], [12]), ([11, 13], [11, 13]), ([6, 14], [6, 14]), ([], []), ([], []), ([17], [17]), ([16, 18], [16, 18]), ([19], [19]), ([15, 20], [15, 20]), ([], []), ([22, 10], [22]), ([], []), ([24, 23], [24]), ([23, 25], [23, 25]), ([], []), ([27], [27]), ([26, 28], [26, 28]), ([21, 29], [21, 29]), ([30], [30]), ([0, 1, 0, 1, 2, 3, 4, 5, 6, 7, 8, 9, 10, 11, 12, 13, 14, 15, 16, 17, 18, 19, 20, 21, 22, 23, 24, 25, 26, 27, 28, 29, 30, 31], [0, 1]), ([32, 31, 25, 0, 1, 2, 3, 4, 5, 6, 7, 8, 9, 10, 11, 12, 13, 14, 15, 16, 17, 18, 19, 20, 21, 22, 23, 24, 25, 26, 27, 28, 29, 30, 31], [31, 32])])
def vitrineref14_Sum.B15 : List Nat := [0, 0, 0, 0, 8, 28, 60, 0, 128, 0, 896, 1920, 0, 4096, 16256, 32764, 0, 0, 131072, 458752, 983040, 2097148, 0, 4196224, 0, 29362048, 62916480, 0, 134217728, 532678528, 1073741820, 2147483644, 4294967295, 8589934591]
theorem vitrineref14_Sum.tab15 : rtab .any (opsOf Try.f31 15) = vitrineref14_Sum.T15 := by kernel_rfl
theorem vitrineref14_Sum.bits15 : waitsOk vitrineref14_Sum.T15.2 vitrineref14_Sum.B15 = true := by kernel_rfl
def vitrineref14_Sum.T22 : Bool × List (List Nat × List Nat) := (true, [([], []), ([0], [0]), ([1], [1]), ([], []), ([3], [3]), ([], []), ([5, 4], [5]), ([4, 6], [4, 6]), ([], []), ([8, 6], [8]), ([7, 9], [7, 9]), ([2, 10], [2, 10]), ([], []), ([], []), ([13], [13]), ([14], [14]), ([12, 15], [12, 15]), ([], []), ([17], [17]), ([], []), ([19], [19]), ([20], [20]), ([18, 21], [18, 21]), ([16, 22], [16, 22]), ([11, 23], [11, 23]), ([], []), ([], []), ([25, 26], [25, 26]), ([27], [27]), ([24, 28], [24, 28]), ([], []), ([], []), ([30, 31], [30, 31]), ([32], [32]), ([29, 33], [29, 33]), ([34], [34]), ([35, 9, 0, 1, 2, 3, 4, 5, 6, 7, 8, 9, 10, 11, 12, 13, 14, 15, 16, 17, 18, 19, 20, 21, 22, 23, 24, 25, 26, 27, 28, 29, 30, 31, 32, 33, 34, 35], [35])])
def vitrineref14_Sum.B22 : List Nat := [0, 1, 3, 0, 8, 0, 56, 120, 0, 376, 1016, 2047, 0, 0, 8192, 24576, 61440, 0, 131072, 0, 524288, 1572864, 4063232, 8384512, 16777215, 0, 0, 100663296, 234881024, 536870911, 0, 0, 3221225472, 7516192768, 17179869183, 34359738367, 68719476735]
theorem vitrineref14_Sum.tab22 : rtab .any (opsOf Try.f31 22) = vitrineref14_Sum.T22 := by kernel_rfl
theorem vitrineref14_Sum.bits22 : waitsOk vitrineref14_Sum.T22.2 vitrineref14_Sum.B22 = true := by kernel_rfl
def vitrineref14_Sum.T23 : Bool × List (List Nat × List Nat) := (true, [([], []), ([0], [0]), ([], []), ([2, 1], [2]), ([1, 3], [1, 3]), ([], []), ([5, 3], [5]), ([4, 6], [4, 6]), ([], []), ([], []), ([9], [9]), ([10], [10]), ([8, 11], [8, 11]), ([], []), ([], []), ([14], [14]), ([15], [15]), ([13, 16], [13, 16]), ([12, 17], [12, 17]), ([], []), ([19], [19]), ([20], [20]), ([], []), ([22], [22]), ([23], [23]), ([21, 24], [21, 24]), ([18, 25], [18, 25]), ([7, 26], [7, 26]), ([27], [27]), ([28, 6, 0, 1, 2, 3, 4, 5, 6, 7, 8, 9, 10, 11, 12, 13, 14, 15, 16, 17, 18, 19, 20, 21, 22, 23, 24, 25, 26, 27, 28], [28])])
def vitrineref14_Sum.B23 : List Nat := [0, 1, 0, 7, 15, 0, 47, 127, 0, 0, 512, 1536, 3840, 0, 0, 16384, 49152, 122880, 261888, 0, 524288, 1572864, 0, 4194304, 12582912, 33030144, 67108608, 134217727, 268435455, 536870911]
theorem vitrineref14_Sum.tab23 : rtab .any (opsOf Try.f31 23) = vitrineref14_Sum.T23 := by kernel_rfl
theorem vitrineref14_Sum.bits23 : waitsOk vitrineref14_Sum.T23.2 vitrineref14_Sum.B23 = true := by kernel_rfl
def vitrineref14_Sum.T24 : Bool × List (List Nat × List Nat) := (true, [([], []), ([], []), ([0, 1], [0, 1]), ([2], [2]), ([], []), ([4], [4]), ([5], [5]), ([], []), ([7], [7]), ([8], [8]), ([], []), ([10], [10]), ([11], [11]), ([], []), ([13], [13]), ([14], [14]), ([], []), ([15, 16], [15, 16]), ([17], [17]), ([], []), ([19], [19]), ([20], [20]), ([], []), ([22], [22]), ([23], [23]), ([], []), ([25], [25]), ([26], [26]), ([3, 6, 9, 12, 18, 21, 24, 27], [3, 6, 9, 12, 18, 21, 24, 27]), ([28, 0, 1, 2, 3, 4, 5, 6, 7, 8, 9, 10, 11, 12, 13, 14, 15, 16, 17, 18, 19, 20, 21, 22, 23, 24, 25, 26, 27, 28], [4, 7, 10, 13, 19, 22, 25, 28])])
def vitrineref14_Sum.B24 : List Nat := [0, 0, 3, 7, 0, 16, 48, 0, 128, 384, 0, 1024, 3072, 0, 8192, 24576, 0, 122880, 253952, 0, 524288, 1572864, 0, 4194304, 12582912, 0, 33554432, 100663296, 268435455, 536870911]
theorem vitrineref14_Sum.tab24 : rtab .any (opsOf Try.f31 24) = vitrineref14_Sum.T24 := by kernel_rfl
theorem vitrineref14_Sum.bits24 : waitsOk vitrineref14_Sum.T24.2 vitrineref14_Sum.B24 = true := by kernel_rfl
def vitrineref14_Sum.T28 : Bool × List (List Nat × List Nat) := (true, [([], []), ([], []), ([], []), ([], []), ([2, 3], [2, 3]), ([4], [4]), ([], []), ([], []), ([6, 7], [6, 7]), ([8], [8]), ([5, 9], [5, 9]), ([10], [10]), ([0, 1, 0, 1, 2, 3, 4, 5, 6, 7, 8, 9, 10, 11], [0, 1]), ([12, 11, 0, 1, 2, 3, 4, 5, 6, 7, 8, 9, 10, 11], [11, 12])])
def vitrineref14_Sum.B28 : List Nat := [0, 0, 0, 0, 12, 28, 0, 0, 192, 448, 1020, 2044, 4095, 8191]
theorem vitrineref14_Sum.tab28 : rtab .any (opsOf Try.f31 28) = vitrineref14_Sum.T28 := by kernel_rfl
theorem vitrineref14_Sum.bits28 : waitsOk vitrineref14_Sum.T28.2 vitrineref14_Sum.B28 = true := by kernel_rfl
def vitrineref14_Sum.T34 : Bool × List (List Nat × List Nat) := (true, [([], []), ([], []), ([], []), ([1, 2], [1, 2]), ([3], [3]), ([4], [4]), ([5], [5]), ([], []), ([], []), ([7, 8], [7, 8]), ([9], [9]), ([10], [10]), ([11], [11]), ([], []), ([], []), ([13, 14], [13, 14]), ([15], [15]), ([16], [16]), ([17], [17]), ([], []), ([], []), ([19, 20], [19, 20]), ([21], [21]), ([22], [22]), ([6, 12, 18, 23], [6, 12, 18, 23]), ([0, 24], [0, 24]), ([25, 25, 0, 1, 2, 3, 4, 5, 6, 7, 8, 9, 10, 11, 12, 13, 14, 15, 16, 17, 18, 19, 20, 21, 22, 23, 24, 25], [0, 25])])
def vitrineref14_Sum.B34 : List Nat := [0, 0, 0, 6, 14, 30, 62, 0, 0, 384, 896, 1920, 3968, 0, 0, 24576, 57344, 122880, 253952, 0, 0, 1572864, 3670016, 7864320, 16777214, 33554431, 67108863]
theorem vitrineref14_Sum.tab34 : rtab .any (opsOf Try.f31 34) = vitrineref14_Sum.T34 := by kernel_rfl
theorem vitrineref14_Sum.bits34 : waitsOk vitrineref14_Sum.T34.2 vitrineref14_Sum.B34 = true := by kernel_rfl
theorem build8 (ev : Operand → Value) (o : Oper) (a0 a1 a2 a3 a4 a5 a6 a7 : Operand) (v0 v1 v2 v3 v4 v5 v6 v7 : Int) (hop : o.op = Op.buildSlice 72 8 #[(0, a0), (1, a1), (2, a2), (3, a3), (4, a4), (5, a5), (6, a6), (7, a7)])
        (h0 : ev a0 = .int .i64 v0) (h1 : ev a1 = .int .i64 v1) (h2 : ev a2 = .int .i64 v2) (h3 : ev a3 = .int .i64 v3) (h4 : ev a4 = .int .i64 v4) (h5 : ev a5 = .int .i64 v5) (h6 : ev a6 = .int .i64 v6) (h7 : ev a7 = .int .i64 v7) (w : World) :
    (execOp ev o).run Try.prog w = .ok (.value (.slice (some ⟨w.heap.size, 0, none⟩) 8 8)) (w.alloc (.cells #[.int .i64 v0, .int .i64 v1, .int .i64 v2, .int .i64 v3, .int .i64 v4, .int .i64 v5, .int .i64 v6, .int .i64 v7] 3)) := by
      unfold execOp
      rw [hop]
      simp only [h0, h1, h2, h3, h4, h5, h6, h7, List.map_toArray, List.map_cons, List.map_nil]
      go_simp
set_option maxHeartbeats 40000000 in
set_option maxRecDepth 100000 in
theorem vitrineref14_Sum.calls (k : Nat) (a0 : ByteArray) (r : ByteArray) (w : World) (h : vitrineref14_Sum.f k a0 = some r) :
    Calls Try.prog 31 #[.string a0] w fun e w' => e = .returned (.string r) ∧ Below w.heap.size w w' := by
 have HB := Aside0.mk (Below.refl w.heap.size w)
 have H : ((vitrineref14_constants.f).bind fun t187 => ((vitrineref14_Filled.f k a0).bind fun t190 => (vitrineref14_Sum.l0 k (([1779033703, 3144134277, 1013904242, 2773480762, 1359893119, 2600822924, 528734635, 1541459225] : List Int)) t187 t190))) = some r := h
 clear h
 obtain ⟨y184, hy184⟩ : ∃ y_ : List Int, y_ = (([1779033703, 3144134277, 1013904242, 2773480762, 1359893119, 2600822924, 528734635, 1541459225] : List Int)) := ⟨_, rfl⟩
 replace H : ((vitrineref14_constants.f).bind fun t187 => ((vitrineref14_Filled.f k a0).bind fun t190 => (vitrineref14_Sum.l0 k y184 t187 t190))) = some r := by first | (rw [hy184]; with_reducible exact H) | (have H2_ := (Option.bind_some _ _).symm.trans H; rw [hy184]; with_reducible exact H2_) | (have H2_ := (Option.bind_some _ _).symm.trans H; with_reducible exact H2_) | with_reducible exact H | (rw [hy184]; exact H) | exact H
 have Ny184 := Aside0.mk hy184
 clear hy184
 replace H := Option.bind_eq_some_iff.mp H
 obtain ⟨t187, A20, H⟩ := H
 replace H : ((vitrineref14_Filled.f k a0).bind fun t190 => (vitrineref14_Sum.l0 k y184 t187 t190)) = some r := H
 have A2 := Aside0.mk A20
 clear A20
 replace H := Option.bind_eq_some_iff.mp H
 obtain ⟨t190, A30, H⟩ := H
 replace H : (vitrineref14_Sum.l0 k y184 t187 t190) = some r := H
 have A3 := Aside0.mk A30
 clear A30
 have H' := Aside0.mk H
 clear H
 go_enter Try.func31, Try.ntmps31
 go_wp2_with (first | ((with_reducible refine gate_dst (N := 20) rfl ?_); refine Kd.R_lit (Kd.int .i64) _ 3 ?hg (N := 20) ?hd (xs := ([1779033703, 3144134277, 1013904242, 2773480762, 1359893119, 2600822924, 528734635, 1541459225] : List Int)) (inner := [.int .i64 1779033703, .int .i64 3144134277, .int .i64 1013904242, .int .i64 2773480762, .int .i64 1359893119, .int .i64 2600822924, .int .i64 528734635, .int .i64 1541459225]) (ok := fun _ => True) (okp := fun _ => True) ?hr ?hp (fun _ hk => hk) trivial (Below.refl _ _) (Nat.le_refl _) (by simp) ?_; (case hd => rfl); (case hg => rfl); (case hr => first | (go_simp; done) | (go_simp; rfl)); (case hp => exact (Reps.one (show Kd.M (Kd.int .i64) _ _ _ 1779033703 [.int .i64 1779033703] from rfl) (Reps.one (show Kd.M (Kd.int .i64) _ _ _ 3144134277 [.int .i64 3144134277] from rfl) (Reps.one (show Kd.M (Kd.int .i64) _ _ _ 1013904242 [.int .i64 1013904242] from rfl) (Reps.one (show Kd.M (Kd.int .i64) _ _ _ 2773480762 [.int .i64 2773480762] from rfl) (Reps.one (show Kd.M (Kd.int .i64) _ _ _ 1359893119 [.int .i64 1359893119] from rfl) (Reps.one (show Kd.M (Kd.int .i64) _ _ _ 2600822924 [.int .i64 2600822924] from rfl) (Reps.one (show Kd.M (Kd.int .i64) _ _ _ 528734635 [.int .i64 528734635] from rfl) (Reps.one (show Kd.M (Kd.int .i64) _ _ _ 1541459225 [.int .i64 1541459225] from rfl) (Reps.none _ _)))))))))); intro v185 w4 ho5 hb hg_ hnew_; clear hg_ hnew_; (first | rw [← Ny184.out] at ho5 | (simp only [Int.reduceToNat] at ho5; rw [← Ny184.out] at ho5)); have n0_ := Aside0.mk (Kd.R_lower ho5 (below_size (by repeat (first | (with_reducible first | exact HB.out | apply below_alloc | apply pw_below_drewN | apply below_drew1) | exact HB.out)))); have n1_ := Aside0.mk (below_step (by repeat (first | (with_reducible first | exact HB.out | apply below_alloc | apply pw_below_drewN | apply below_drew1) | exact HB.out)) hb); clear HB; have HO186 := n0_; have HB := n1_; clear n0_ n1_; clear hb ho5) | ((with_reducible refine gate_callee (f := 42) rfl ?_); refine goesL_ (some 21) rfl rfl Try.func42 (by kernel_rfl) rfl #[] rfl (by (try simp only [List.map_toArray, List.map_cons, List.map_nil]); first | done | rfl | (simp only [List.length_drop, List.length_take]; rfl) | (simp only [ByteArray.size_extract, Nat.min_self]; done) | (simp only [ByteArray.size_extract, Nat.min_self]; rfl)) ?_; (with_reducible refine (vitrineref14_constants.calls  t187 _ A2.out).mono ?_); rintro e w6 ⟨v188, rfl, ho0, hb⟩; refine ⟨_, rfl, ?_⟩; have n0_ := Aside0.mk (Kd.R_elder' (by (with_reducible repeat (first | apply Kd.R_alloc | apply Kd.R_drewN | apply Kd.R_drew)); exact HO186.out) (Kd.R_base ho0) hb); have n1_ := Aside0.mk (Kd.R_lower (Kd.R_new' ho0 (Kd.R_lt (by (with_reducible repeat (first | apply Kd.R_alloc | apply Kd.R_drewN | apply Kd.R_drew)); exact HO186.out))) (below_size (by repeat (first | (with_reducible first | exact HB.out | apply below_alloc | apply pw_below_drewN | apply below_drew1) | exact HB.out)))); have n2_ := Aside0.mk (below_step (by repeat (first | (with_reducible first | exact HB.out | apply below_alloc | apply pw_below_drewN | apply below_drew1) | exact HB.out)) hb); clear HO186; clear HB; have HO186 := n0_; have HO189 := n1_; have HB := n2_; clear n0_ n1_ n2_; (try clear hb); (try clear hb2); (try clear hk); (try clear hi); (try clear ho0)) | ((with_reducible refine gate_callee (f := 43) rfl ?_); refine goesL_ (some 23) rfl rfl Try.func43 (by kernel_rfl) rfl #[.string a0] rfl (by (try simp only [List.map_toArray, List.map_cons, List.map_nil]); first | done | rfl | (simp only [List.length_drop, List.length_take]; rfl) | (simp only [ByteArray.size_extract, Nat.min_self]; done) | (simp only [ByteArray.size_extract, Nat.min_self]; rfl)) ?_; (with_reducible refine (vitrineref14_Filled.calls k a0 t190 _ A3.out).mono ?_); rintro e w7 ⟨v191, rfl, ho0, hb⟩; refine ⟨_, rfl, ?_⟩; have n0_ := Aside0.mk (Kd.R_below (by (with_reducible repeat (first | apply Kd.R_alloc | apply Kd.R_drewN | apply Kd.R_drew)); exact HO186.out) hb); have n1_ := Aside0.mk (Kd.R_below (by (with_reducible repeat (first | apply Kd.R_alloc | apply Kd.R_drewN | apply Kd.R_drew)); exact HO189.out) hb); have n2_ := Aside0.mk (Go.Proofs.YtbonmhgihedjpaaM.RM_lower ho0 (below_size (by repeat (first | (with_reducible first | exact HB.out | apply below_alloc | apply pw_below_drewN | apply below_drew1) | exact HB.out)))); have n3_ := Aside0.mk (below_step (by repeat (first | (with_reducible first | exact HB.out | apply below_alloc | apply pw_below_drewN | apply below_drew1) | exact HB.out)) hb); clear HO186; clear HO189; clear HB; have HO186 := n0_; have HO189 := n1_; have HO192 := n2_; have HB := n3_; clear n0_ n1_ n2_ n3_; (try clear hb); (try clear hb2); (try clear hk); (try clear hi); (try clear ho0)))
 go_loopg [5] k (fun kq v5 w' => ∃ (x3_1 : List Int) (x4_1 : List Int) (x5_1 : List Int), Aside0 (vitrineref14_Sum.l0 kq x3_1 x4_1 x5_1 = some r) ∧ Aside0 (kq ≤ k) ∧ Aside0 (Kd.R (Kd.int .i64) 3 w' w.heap.size (fun k_ => some k_ ≠ (v188 : Value).ownBlock) v185 x3_1) ∧ Aside0 (Kd.R (Kd.int .i64) 3 w' w.heap.size (fun k_ => some k_ ≠ (v185 : Value).ownBlock) v188 x4_1) ∧ Aside0 (Go.Proofs.YtbonmhgihedjpaaM.QM (Kd.int .u8) 5 w' w.heap.size (fun _ => True) v5 x5_1) ∧ Aside0 (Below w.heap.size w w'))
 case atStart => exact ⟨(y184), (t187), (t190), H', ⟨Nat.le_refl _⟩, ⟨by (with_reducible repeat (first | apply Kd.R_alloc | apply Kd.R_drewN | apply Kd.R_drew)); exact Kd.R_mono HO186.out (fun _ hk => hk.2)⟩, ⟨by (with_reducible repeat (first | apply Kd.R_alloc | apply Kd.R_drewN | apply Kd.R_drew)); exact Kd.R_mono HO189.out (fun _ hk => hk.2)⟩, ⟨Go.Proofs.YtbonmhgihedjpaaM.QM_of_RM (by (with_reducible repeat (first | apply Go.Proofs.YtbonmhgihedjpaaM.RM_alloc | apply Go.Proofs.YtbonmhgihedjpaaM.RM_drewN | apply Go.Proofs.YtbonmhgihedjpaaM.RM_drew)); exact HO192.out)⟩, ⟨by repeat (first | (with_reducible first | exact HB.out | apply below_alloc | apply pw_below_drewN | apply below_drew1) | exact HB.out)⟩⟩
 case round =>
  clear H'
  try clear p2
  try clear c3
  try clear c4
  obtain ⟨x3_1, x4_1, x5_1, HA, HK1, HO_3, HO_4, HO_5, HB⟩ := hrel
  cases gk with
  | zero => exact absurd HA.out (by simp [vitrineref14_Sum.l0])
  | succ k1 =>
   have H := HA.out
   clear HA
   simp only [vitrineref14_Sum.l0] at H
   by_cases c8 : (x5_1.length : Int) > 0
   ·
    as_aux_lemma =>
    rw [if_pos c8] at H
    have c8b0 : decide (0 < (x5_1.length : Int)) = true := decide_eq_true c8
    have c8b1 : decide (0 < x5_1.length) = true := decide_eq_true (by omega)
    clear c8
    by_cases c9 : 64 ≤ 35184372088832
    rotate_left
    ·
     as_aux_lemma =>
     rw [if_neg c9] at H
     exact absurd H (by simp)
    as_aux_lemma =>
    rw [if_pos c9] at H
    have c9b0 := eq_true c9
    have c9b1 : decide (64 ≤ 35184372088832) = true := decide_eq_true c9
    clear c9
    obtain ⟨y193, hy193⟩ : ∃ y_ : List Int, y_ = (List.replicate 64 0) := ⟨_, rfl⟩
    replace H : (vitrineref14_Sum.l1 k1 x3_1 x4_1 x5_1 y193 0) = some r := by first | (rw [hy193]; with_reducible exact H) | (have H2_ := (Option.bind_some _ _).symm.trans H; rw [hy193]; with_reducible exact H2_) | (have H2_ := (Option.bind_some _ _).symm.trans H; with_reducible exact H2_) | with_reducible exact H | (rw [hy193]; exact H) | exact H
    have Ny193 := Aside0.mk hy193
    clear hy193
    have H' := Aside0.mk H
    clear H
    obtain ⟨Ao10, co10, eo10, _⟩ := Go.Proofs.YtbonmhgihedjpaaM.QM_slice HO_5.out
    subst eo10
    go_wp2_with (first | ((with_reducible refine gate_dst (N := 27) rfl ?_); refine Kd.R_make (Kd.int .i64) _ 3 rfl (N := 27) rfl 72 _ _ rfl 64 rfl rfl Try.underlying72 (.int .i64 0) 8 info3 rfl (by decide) (by omega) 0 (ok := fun _ => True) (okp := fun _ => True) rfl (fun _ hk => hk) trivial (by omega) (by omega) (Below.refl _ _) (Nat.le_refl _) ?_; intro v194 w11 ho12 hb hg_ hnew_; clear hg_ hnew_; (first | rw [← Ny193.out] at ho12 | (simp only [Int.reduceToNat] at ho12; rw [← Ny193.out] at ho12)); have n0_ := Aside0.mk (Kd.R_elder' (by (with_reducible repeat (first | apply Kd.R_alloc | apply Kd.R_drewN | apply Kd.R_drew)); exact HO_3.out) (Kd.R_base ho12) hb); have n1_ := Aside0.mk (Kd.R_elder' (by (with_reducible repeat (first | apply Kd.R_alloc | apply Kd.R_drewN | apply Kd.R_drew)); exact HO_4.out) (Kd.R_base ho12) hb); have n2_ := Aside0.mk (Go.Proofs.YtbonmhgihedjpaaM.QM_below (by (with_reducible repeat (first | apply Go.Proofs.YtbonmhgihedjpaaM.QM_alloc | apply Go.Proofs.YtbonmhgihedjpaaM.QM_drewN | apply Go.Proofs.YtbonmhgihedjpaaM.QM_drew)); exact HO_5.out) hb); have n3_ := Aside0.mk (Kd.R_lower (Kd.R_new' (Kd.R_new' ho12 (Kd.R_lt (by (with_reducible repeat (first | apply Kd.R_alloc | apply Kd.R_drewN | apply Kd.R_drew)); exact HO_3.out))) (Kd.R_lt (by (with_reducible repeat (first | apply Kd.R_alloc | apply Kd.R_drewN | apply Kd.R_drew)); exact HO_4.out))) (below_size (by repeat (first | (with_reducible first | exact HB.out | apply below_alloc | apply pw_below_drewN | apply below_drew1) | exact HB.out)))); have n4_ := Aside0.mk (below_step (by repeat (first | (with_reducible first | exact HB.out | apply below_alloc | apply pw_below_drewN | apply below_drew1) | exact HB.out)) hb); clear HO_3; clear HO_4; clear HO_5; clear HB; have HO_3 := n0_; have HO_4 := n1_; have HO_5 := n2_; have HO195 := n3_; have HB := n4_; clear n0_ n1_ n2_ n3_ n4_; clear hb ho12))
    go_loopg [7] k1 (fun kq v7 w' => ∃ (x6_2 : List Int) (x7_2 : Int), v7 = .int .i64 x7_2 ∧ Aside0 (vitrineref14_Sum.l1 kq x3_1 x4_1 x5_1 x6_2 x7_2 = some r) ∧ Aside0 (kq ≤ k1) ∧ Aside0 (Kd.R (Kd.int .i64) 3 w' w.heap.size (fun k_ => some k_ ≠ (v188 : Value).ownBlock ∧ some k_ ≠ (v194 : Value).ownBlock) v185 x3_1) ∧ Aside0 (Kd.R (Kd.int .i64) 3 w' w.heap.size (fun k_ => some k_ ≠ (v185 : Value).ownBlock ∧ some k_ ≠ (v194 : Value).ownBlock) v188 x4_1) ∧ Aside0 (Go.Proofs.YtbonmhgihedjpaaM.QM (Kd.int .u8) 5 w' w.heap.size (fun _ => True) (.slice Ao10 x5_1.length co10) x5_1) ∧ Aside0 (Kd.R (Kd.int .i64) 3 w' w.heap.size (fun k_ => some k_ ≠ (v185 : Value).ownBlock ∧ some k_ ≠ (v188 : Value).ownBlock) v194 x6_2) ∧ Aside0 (Below w.heap.size w w'))
    case atStart => exact ⟨(y193), (0), (by first | rfl | (simp; done) | (simp [*]; done)), H', ⟨Nat.le_refl _⟩, ⟨by (with_reducible repeat (first | apply Kd.R_alloc | apply Kd.R_drewN | apply Kd.R_drew)); exact HO_3.out⟩, ⟨by (with_reducible repeat (first | apply Kd.R_alloc | apply Kd.R_drewN | apply Kd.R_drew)); exact HO_4.out⟩, ⟨by (with_reducible repeat (first | apply Go.Proofs.YtbonmhgihedjpaaM.QM_alloc | apply Go.Proofs.YtbonmhgihedjpaaM.QM_drewN | apply Go.Proofs.YtbonmhgihedjpaaM.QM_drew)); exact HO_5.out⟩, ⟨by (with_reducible repeat (first | apply Kd.R_alloc | apply Kd.R_drewN | apply Kd.R_drew)); exact Kd.R_mono HO195.out (fun _ hk => ⟨hk.1.2, hk.2⟩)⟩, ⟨by repeat (first | (with_reducible first | exact HB.out | apply below_alloc | apply pw_below_drewN | apply below_drew1) | exact HB.out)⟩⟩
    case round =>
     clear H'
     try clear p2
     try clear c3
     try clear c4
     try clear c8
     try clear c8b0
     try clear c8b1
     try clear c9
     try clear c9b0
     try clear c9b1
     try clear p2
     obtain ⟨x6_2, x7_2, rfl, HA, HK2, HO_3, HO_4, HO_5, HO_6, HB⟩ := hrel
     cases gk with
     | zero => exact absurd HA.out (by simp [vitrineref14_Sum.l1])
     | succ k2 =>
      have H := HA.out
      clear HA
      simp only [vitrineref14_Sum.l1] at H
      by_cases c13 : x7_2 < 16
      ·
       as_aux_lemma =>
       rw [if_pos c13] at H
       have c13b0 : decide (x7_2 < 16) = true := decide_eq_true c13
       clear c13
       obtain ⟨ji14, hji14⟩ : ∃ j_ : Int, (wrap64 (4 * x7_2)) = j_ := ⟨_, rfl⟩
       replace H : (if 0 ≤ (ji14) then (if (ji14) < (x5_1.length : Int) then (if 0 ≤ (wrap64 ((ji14) + 1)) then (if (wrap64 ((ji14) + 1)) < (x5_1.length : Int) then (if 0 ≤ (wrap64 ((ji14) + 2)) then (if (wrap64 ((ji14) + 2)) < (x5_1.length : Int) then (if 0 ≤ (wrap64 ((ji14) + 3)) then (if (wrap64 ((ji14) + 3)) < (x5_1.length : Int) then (if 0 ≤ x7_2 then (if x7_2 < (x6_2.length : Int) then (vitrineref14_Sum.l1 k2 x3_1 x4_1 x5_1 (x6_2.set (x7_2 : Int).toNat (Go.bits .or .i64 (Go.bits .or .i64 (Go.bits .or .i64 (wrap64 ((wrap64 (rd x5_1 (ji14))) * 16777216)) (wrap64 ((wrap64 (rd x5_1 (wrap64 ((ji14) + 1)))) * 65536))) (wrap64 ((wrap64 (rd x5_1 (wrap64 ((ji14) + 2)))) * 256))) (wrap64 (rd x5_1 (wrap64 ((ji14) + 3)))))) (wrap64 (x7_2 + 1))) else (none)) else (none)) else (none)) else (none)) else (none)) else (none)) else (none)) else (none)) else (none)) else (none)) = some r := by first | (rw [hji14] at H; exact H) | (simp only [hji14] at H ⊢; exact H)
       have hji14w : (IntKind.i64.wrap (4 * x7_2)) = ji14 := (i64_w _).trans hji14
       by_cases c15 : 0 ≤ (ji14)
       rotate_left
       ·
        as_aux_lemma =>
        rw [if_neg c15] at H
        exact absurd H (by simp)
       as_aux_lemma =>
       rw [if_pos c15] at H
       have c15b0 : decide (0 ≤ (ji14)) = true := decide_eq_true c15
       clear c15
       by_cases c16 : (ji14) < (x5_1.length : Int)
       rotate_left
       ·
        as_aux_lemma =>
        rw [if_neg c16] at H
        exact absurd H (by simp)
       as_aux_lemma =>
       rw [if_pos c16] at H
       have c16b0 : decide ((ji14) < (x5_1.length : Int)) = true := decide_eq_true c16
       clear c16
       obtain ⟨ji17, hji17⟩ : ∃ j_ : Int, (wrap64 ((ji14) + 1)) = j_ := ⟨_, rfl⟩
       replace H : (if 0 ≤ (ji17) then (if (ji17) < (x5_1.length : Int) then (if 0 ≤ (wrap64 ((ji14) + 2)) then (if (wrap64 ((ji14) + 2)) < (x5_1.length : Int) then (if 0 ≤ (wrap64 ((ji14) + 3)) then (if (wrap64 ((ji14) + 3)) < (x5_1.length : Int) then (if 0 ≤ x7_2 then (if x7_2 < (x6_2.length : Int) then (vitrineref14_Sum.l1 k2 x3_1 x4_1 x5_1 (x6_2.set (x7_2 : Int).toNat (Go.bits .or .i64 (Go.bits .or .i64 (Go.bits .or .i64 (wrap64 ((wrap64 (rd x5_1 (ji14))) * 16777216)) (wrap64 ((wrap64 (rd x5_1 (ji17))) * 65536))) (wrap64 ((wrap64 (rd x5_1 (wrap64 ((ji14) + 2)))) * 256))) (wrap64 (rd x5_1 (wrap64 ((ji14) + 3)))))) (wrap64 (x7_2 + 1))) else (none)) else (none)) else (none)) else (none)) else (none)) else (none)) else (none)) else (none)) = some r := by first | (rw [hji17] at H; exact H) | (simp only [hji17] at H ⊢; exact H)
       have hji17w : (IntKind.i64.wrap ((ji14) + 1)) = ji17 := (i64_w _).trans hji17
       by_cases c18 : 0 ≤ (ji17)
       rotate_left
       ·
        as_aux_lemma =>
        rw [if_neg c18] at H
        exact absurd H (by simp)
       as_aux_lemma =>
       rw [if_pos c18] at H
       have c18b0 : decide (0 ≤ (ji17)) = true := decide_eq_true c18
       clear c18
       by_cases c19 : (ji17) < (x5_1.length : Int)
       rotate_left
       ·
        as_aux_lemma =>
        rw [if_neg c19] at H
        exact absurd H (by simp)
       as_aux_lemma =>
       rw [if_pos c19] at H
       have c19b0 : decide ((ji17) < (x5_1.length : Int)) = true := decide_eq_true c19
       clear c19
       obtain ⟨ji20, hji20⟩ : ∃ j_ : Int, (wrap64 ((ji14) + 2)) = j_ := ⟨_, rfl⟩
       replace H : (if 0 ≤ (ji20) then (if (ji20) < (x5_1.length : Int) then (if 0 ≤ (wrap64 ((ji14) + 3)) then (if (wrap64 ((ji14) + 3)) < (x5_1.length : Int) then (if 0 ≤ x7_2 then (if x7_2 < (x6_2.length : Int) then (vitrineref14_Sum.l1 k2 x3_1 x4_1 x5_1 (x6_2.set (x7_2 : Int).toNat (Go.bits .or .i64 (Go.bits .or .i64 (Go.bits .or .i64 (wrap64 ((wrap64 (rd x5_1 (ji14))) * 16777216)) (wrap64 ((wrap64 (rd x5_1 (ji17))) * 65536))) (wrap64 ((wrap64 (rd x5_1 (ji20))) * 256))) (wrap64 (rd x5_1 (wrap64 ((ji14) + 3)))))) (wrap64 (x7_2 + 1))) else (none)) else (none)) else (none)) else (none)) else (none)) else (none)) = some r := by first | (rw [hji20] at H; exact H) | (simp only [hji20] at H ⊢; exact H)
       have hji20w : (IntKind.i64.wrap ((ji14) + 2)) = ji20 := (i64_w _).trans hji20
       by_cases c21 : 0 ≤ (ji20)
       rotate_left
       ·
        as_aux_lemma =>
        rw [if_neg c21] at H
        exact absurd H (by simp)
       as_aux_lemma =>
       rw [if_pos c21] at H
       have c21b0 : decide (0 ≤ (ji20)) = true := decide_eq_true c21
       clear c21
       by_cases c22 : (ji20) < (x5_1.length : Int)
       rotate_left
       ·
        as_aux_lemma =>
        rw [if_neg c22] at H
        exact absurd H (by simp)
       as_aux_lemma =>
       rw [if_pos c22] at H
       have c22b0 : decide ((ji20) < (x5_1.length : Int)) = true := decide_eq_true c22
       clear c22
       obtain ⟨ji23, hji23⟩ : ∃ j_ : Int, (wrap64 ((ji14) + 3)) = j_ := ⟨_, rfl⟩
       replace H : (if 0 ≤ (ji23) then (if (ji23) < (x5_1.length : Int) then (if 0 ≤ x7_2 then (if x7_2 < (x6_2.length : Int) then (vitrineref14_Sum.l1 k2 x3_1 x4_1 x5_1 (x6_2.set (x7_2 : Int).toNat (Go.bits .or .i64 (Go.bits .or .i64 (Go.bits .or .i64 (wrap64 ((wrap64 (rd x5_1 (ji14))) * 16777216)) (wrap64 ((wrap64 (rd x5_1 (ji17))) * 65536))) (wrap64 ((wrap64 (rd x5_1 (ji20))) * 256))) (wrap64 (rd x5_1 (ji23))))) (wrap64 (x7_2 + 1))) else (none)) else (none)) else (none)) else (none)) = some r := by first | (rw [hji23] at H; exact H) | (simp only [hji23] at H ⊢; exact H)
       have hji23w : (IntKind.i64.wrap ((ji14) + 3)) = ji23 := (i64_w _).trans hji23
       by_cases c24 : 0 ≤ (ji23)
       rotate_left
       ·
        as_aux_lemma =>
        rw [if_neg c24] at H
        exact absurd H (by simp)
       as_aux_lemma =>
       rw [if_pos c24] at H
       have c24b0 : decide (0 ≤ (ji23)) = true := decide_eq_true c24
       clear c24
       by_cases c25 : (ji23) < (x5_1.length : Int)
       rotate_left
       ·
        as_aux_lemma =>
        rw [if_neg c25] at H
        exact absurd H (by simp)
       as_aux_lemma =>
       rw [if_pos c25] at H
       have c25b0 : decide ((ji23) < (x5_1.length : Int)) = true := decide_eq_true c25
       clear c25
       by_cases c26 : 0 ≤ x7_2
       rotate_left
       ·
        as_aux_lemma =>
        rw [if_neg c26] at H
        exact absurd H (by simp)
       as_aux_lemma =>
       rw [if_pos c26] at H
       have c26b0 : decide (0 ≤ x7_2) = true := decide_eq_true c26
       clear c26
       by_cases c27 : x7_2 < (x6_2.length : Int)
       rotate_left
       ·
        as_aux_lemma =>
        rw [if_neg c27] at H
        exact absurd H (by simp)
       as_aux_lemma =>
       rw [if_pos c27] at H
       have c27b0 : decide (x7_2 < (x6_2.length : Int)) = true := decide_eq_true c27
       clear c27
       obtain ⟨y200, hy200⟩ : ∃ y_ : List Int, y_ = (x6_2.set (x7_2 : Int).toNat (Go.bits .or .i64 (Go.bits .or .i64 (Go.bits .or .i64 (wrap64 ((wrap64 (rd x5_1 (ji14))) * 16777216)) (wrap64 ((wrap64 (rd x5_1 (ji17))) * 65536))) (wrap64 ((wrap64 (rd x5_1 (ji20))) * 256))) (wrap64 (rd x5_1 (ji23))))) := ⟨_, rfl⟩
       replace H : (vitrineref14_Sum.l1 k2 x3_1 x4_1 x5_1 y200 (wrap64 (x7_2 + 1))) = some r := by first | (rw [hy200]; with_reducible exact H) | (have H2_ := (Option.bind_some _ _).symm.trans H; rw [hy200]; with_reducible exact H2_) | (have H2_ := (Option.bind_some _ _).symm.trans H; with_reducible exact H2_) | with_reducible exact H | (rw [hy200]; exact H) | exact H
       have Ny200 := Aside0.mk hy200
       clear hy200
       have H' := Aside0.mk H
       clear H
       try go_wp2
       have n0_ := Aside0.mk (Kd.R_drew HO_3.out)
       have n1_ := Aside0.mk (Kd.R_drew HO_4.out)
       have n2_ := Aside0.mk (Go.Proofs.YtbonmhgihedjpaaM.QM_drew HO_5.out)
       have n3_ := Aside0.mk (Kd.R_drew HO_6.out)
       have n4_ := Aside0.mk (below_drew1 HB.out)
       clear HO_3
       clear HO_4
       clear HO_5
       clear HO_6
       clear HB
       have HO_3 := n0_
       have HO_4 := n1_
       have HO_5 := n2_
       have HO_6 := n3_
       have HB := n4_
       clear n0_ n1_ n2_ n3_ n4_
       have p196 : 0 ≤ ((ji14) : Int) := of_decide_eq_true (by first | (with_reducible assumption) | assumption)
       have q196 : (ji14) < (x5_1.length : Int) := of_decide_eq_true (by first | (with_reducible assumption) | assumption)
       obtain ⟨ad196, e196, hx196_0⟩ := Kd.at_int (Go.Proofs.YtbonmhgihedjpaaM.QM_reads' HO_5.out).2.2 (ji14) p196 q196
       cases e196
       replace p196 := eq_true p196
       replace q196 := eq_true q196
       have p197 : 0 ≤ ((ji17) : Int) := of_decide_eq_true (by first | (with_reducible assumption) | assumption)
       have q197 : (ji17) < (x5_1.length : Int) := of_decide_eq_true (by first | (with_reducible assumption) | assumption)
       obtain ⟨ad197, e197, hx197_0⟩ := Kd.at_int (Go.Proofs.YtbonmhgihedjpaaM.QM_reads' HO_5.out).2.2 (ji17) p197 q197
       obtain rfl : ad196 = ad197 := (by injection e197)
       replace p197 := eq_true p197
       replace q197 := eq_true q197
       have p198 : 0 ≤ ((ji20) : Int) := of_decide_eq_true (by first | (with_reducible assumption) | assumption)
       have q198 : (ji20) < (x5_1.length : Int) := of_decide_eq_true (by first | (with_reducible assumption) | assumption)
       obtain ⟨ad198, e198, hx198_0⟩ := Kd.at_int (Go.Proofs.YtbonmhgihedjpaaM.QM_reads' HO_5.out).2.2 (ji20) p198 q198
       obtain rfl : ad196 = ad198 := (by injection e198)
       replace p198 := eq_true p198
       replace q198 := eq_true q198
       have p199 : 0 ≤ ((ji23) : Int) := of_decide_eq_true (by first | (with_reducible assumption) | assumption)
       have q199 : (ji23) < (x5_1.length : Int) := of_decide_eq_true (by first | (with_reducible assumption) | assumption)
       obtain ⟨ad199, e199, hx199_0⟩ := Kd.at_int (Go.Proofs.YtbonmhgihedjpaaM.QM_reads' HO_5.out).2.2 (ji23) p199 q199
       obtain rfl : ad196 = ad199 := (by injection e199)
       replace p199 := eq_true p199
       replace q199 := eq_true q199
       have p28 : 0 ≤ (x7_2 : Int) := of_decide_eq_true (by first | (with_reducible assumption) | assumption)
       have q28 : (x7_2 : Int) < ((x6_2.length : Int) : Int) := of_decide_eq_true (by first | (with_reducible assumption) | assumption)
       obtain ⟨go28, co28, eo28, gb28, gl28, cl28, HG28⟩ := Kd.R_form HO_6.out (by omega)
       (first | cases eo28 | (injection eo28 with ea_ en_ ec_; (first | subst ea_ | (injection ea_ with ea_; subst ea_)); subst ec_; clear en_))
       have GB28 := Aside0.mk gb28
       have GG28 := Aside0.mk HG28
       clear gb28 gl28 HG28
       obtain ⟨hx28_0, hf28_0⟩ := Kd.R_celln 0 HO_6.out (x7_2 : Int) p28 q28
       replace p28 := eq_true p28
       replace q28 := eq_true q28
       have HP30 := Kd.R_putn HO_6.out (x7_2 : Int) (Go.bits .or .i64 (Go.bits .or .i64 (Go.bits .or .i64 (wrap64 ((wrap64 (rd x5_1 (ji14))) * 16777216)) (wrap64 ((wrap64 (rd x5_1 (ji17))) * 65536))) (wrap64 ((wrap64 (rd x5_1 (ji20))) * 256))) (wrap64 (rd x5_1 (ji23))))
       rw [← Ny200.out] at HP30
       have HQ30 := Aside0.mk HP30
       clear HP30
       refine start_ (n := 37) (S := fun w' => w'.cell? (ad196.add ((ji14)).toNat) = some (.int .u8 (rd x5_1 (ji14))) ∧ w'.cell? (ad196.add ((ji17)).toNat) = some (.int .u8 (rd x5_1 (ji17))) ∧ w'.cell? (ad196.add ((ji20)).toNat) = some (.int .u8 (rd x5_1 (ji20))) ∧ w'.cell? (ad196.add ((ji23)).toNat) = some (.int .u8 (rd x5_1 (ji23)))) (ds := [36]) #[F_, F_, F_, F_, F_, F_, F_, F_, F_, F_, F_, F_, F_, F_, F_, F_, F_, F_, F_, F_, F_, F_, F_, F_, F_, F_, F_, F_, F_, F_, F_, F_, F_, F_, F_, F_, F_] (by kernel_rfl) rfl rfl ⟨hx196_0, hx197_0, hx198_0, hx199_0⟩ (fun hHeld => ?_); refine with_tabW vitrineref14_Sum.tab9 vitrineref14_Sum.bits9 (fun HT_ HW_ => ?_)
       generalize wr.drew = w29 at HO_3 HO_4 HO_5 HO_6 HB GG28 HQ30 hf28_0 hx196_0 hx197_0 hx198_0 hx199_0 hx28_0 hHeld ⊢
       refine pure_ (i := 0) (N := some 32) (v := ?_) (a' := ?_) #[T_, F_, F_, F_, F_, F_, F_, F_, F_, F_, F_, F_, F_, F_, F_, F_, F_, F_, F_, F_, F_, F_, F_, F_, F_, F_, F_, F_, F_, F_, F_, F_, F_, F_, F_, F_, F_] rfl rfl (any_of HT_.out (by kernel_rfl)) (fun _ _ _ h => h) (Or.inl ⟨by rfl, ?_⟩) ?_ ?_
       rotate_left; (focus (intro w'; go_simp; with_reducible rfl))
       rotate_left; (focus (simp only [Act.put, zq1, zq2, zq3, i64_w, i32_w]; rfl))
       refine pure_ (i := 1) (N := some 33) (v := ?_) (a' := ?_) #[T_, T_, F_, F_, F_, F_, F_, F_, F_, F_, F_, F_, F_, F_, F_, F_, F_, F_, F_, F_, F_, F_, F_, F_, F_, F_, F_, F_, F_, F_, F_, F_, F_, F_, F_, F_, F_] rfl rfl (any_of HT_.out (by kernel_rfl)) (fun _ _ _ h => h) (Or.inl ⟨by rfl, ?_⟩) ?_ ?_
       rotate_left; (focus (intro w'; go_simp; with_reducible rfl))
       rotate_left; (focus (simp only [Act.put, zq1, zq2, zq3, i64_w, i32_w]; rfl))
       refine pure_ (i := 2) (N := some 34) (v := ?_) (a' := ?_) #[T_, T_, T_, F_, F_, F_, F_, F_, F_, F_, F_, F_, F_, F_, F_, F_, F_, F_, F_, F_, F_, F_, F_, F_, F_, F_, F_, F_, F_, F_, F_, F_, F_, F_, F_, F_, F_] rfl rfl (any_of HT_.out (by kernel_rfl)) (fun _ _ _ h => h) (Or.inl ⟨by rfl, ?_⟩) ?_ ?_
       rotate_left; (focus (intro w'; go_simp; with_reducible rfl))
       rotate_left; (focus (simp only [Act.put, zq1, zq2, zq3, i64_w, i32_w]; rfl))
       refine pure_ (i := 3) (N := some 35) (v := ?_) (a' := ?_) #[T_, T_, T_, T_, F_, F_, F_, F_, F_, F_, F_, F_, F_, F_, F_, F_, F_, F_, F_, F_, F_, F_, F_, F_, F_, F_, F_, F_, F_, F_, F_, F_, F_, F_, F_, F_, F_] rfl rfl (any_of HT_.out (by kernel_rfl)) (fun _ _ _ h => h) (Or.inl ⟨by rfl, ?_⟩) ?_ ?_
       rotate_left; (focus (intro w'; go_simp; with_reducible rfl))
       rotate_left; (focus (simp only [Act.put, zq1, zq2, zq3, i64_w, i32_w]; rfl))
       refine pure_ (i := 4) (N := some 36) (v := ?_) (a' := ?_) #[T_, T_, T_, T_, T_, F_, F_, F_, F_, F_, F_, F_, F_, F_, F_, F_, F_, F_, F_, F_, F_, F_, F_, F_, F_, F_, F_, F_, F_, F_, F_, F_, F_, F_, F_, F_, F_] rfl rfl (any_of HT_.out (by kernel_rfl)) (fun _ _ _ h => h) (Or.inl ⟨by rfl, ?_⟩) ?_ ?_
       rotate_left; (focus (intro w'; go_simp; with_reducible rfl))
       rotate_left; (focus (simp only [Act.put, zq1, zq2, zq3, i64_w, i32_w]; rfl))
       refine pure_ (i := 5) (N := some 37) (v := ?_) (a' := ?_) #[T_, T_, T_, T_, T_, T_, F_, F_, F_, F_, F_, F_, F_, F_, F_, F_, F_, F_, F_, F_, F_, F_, F_, F_, F_, F_, F_, F_, F_, F_, F_, F_, F_, F_, F_, F_, F_] rfl rfl (any_of HT_.out (by kernel_rfl)) (fun _ _ _ h => h) (Or.inl ⟨by rfl, ?_⟩) ?_ ?_
       rotate_left; (focus (intro w'; go_simp; with_reducible rfl))
       rotate_left; (focus (simp only [Act.put, zq1, zq2, zq3, i64_w, i32_w]; rfl))
       refine pure_ (i := 9) (N := some 41) (v := ?_) (a' := ?_) #[T_, T_, T_, T_, T_, T_, F_, F_, F_, T_, F_, F_, F_, F_, F_, F_, F_, F_, F_, F_, F_, F_, F_, F_, F_, F_, F_, F_, F_, F_, F_, F_, F_, F_, F_, F_, F_] rfl rfl (any_of HT_.out (by kernel_rfl)) (fun _ _ _ h => h) (Or.inl ⟨by rfl, ?_⟩) ?_ ?_
       rotate_left; (focus (intro w'; go_simp; with_reducible rfl))
       rotate_left; (focus (simp only [Act.put, zq1, zq2, zq3, i64_w, i32_w]; rfl))
       refine pure_ (i := 10) (N := some 42) (v := ?_) (a' := ?_) #[T_, T_, T_, T_, T_, T_, F_, F_, F_, T_, T_, F_, F_, F_, F_, F_, F_, F_, F_, F_, F_, F_, F_, F_, F_, F_, F_, F_, F_, F_, F_, F_, F_, F_, F_, F_, F_] rfl rfl (any_of HT_.out (by kernel_rfl)) (fun _ _ _ h => h) (Or.inl ⟨by rfl, ?_⟩) ?_ ?_
       rotate_left; (focus (intro w'; go_simp; with_reducible rfl))
       rotate_left; (focus (simp only [Act.put, zq1, zq2, zq3, i64_w, i32_w]; rfl))
       refine pure_ (i := 11) (N := some 43) (v := ?_) (a' := ?_) #[T_, T_, T_, T_, T_, T_, F_, F_, F_, T_, T_, T_, F_, F_, F_, F_, F_, F_, F_, F_, F_, F_, F_, F_, F_, F_, F_, F_, F_, F_, F_, F_, F_, F_, F_, F_, F_] rfl rfl (any_of HT_.out (by kernel_rfl)) (fun _ _ _ h => h) (Or.inl ⟨by rfl, ?_⟩) ?_ ?_
       rotate_left; (focus (intro w'; go_simp; with_reducible rfl))
       rotate_left; (focus (simp only [Act.put, zq1, zq2, zq3, i64_w, i32_w]; rfl))
       refine pure_ (i := 12) (N := some 44) (v := ?_) (a' := ?_) #[T_, T_, T_, T_, T_, T_, F_, F_, F_, T_, T_, T_, T_, F_, F_, F_, F_, F_, F_, F_, F_, F_, F_, F_, F_, F_, F_, F_, F_, F_, F_, F_, F_, F_, F_, F_, F_] rfl rfl (any_of HT_.out (by kernel_rfl)) (fun _ _ _ h => h) (Or.inl ⟨by rfl, ?_⟩) ?_ ?_
       rotate_left; (focus (intro w'; go_simp; with_reducible rfl))
       rotate_left; (focus (simp only [Act.put, zq1, zq2, zq3, i64_w, i32_w]; rfl))
       refine pure_ (i := 13) (N := some 45) (v := ?_) (a' := ?_) #[T_, T_, T_, T_, T_, T_, F_, F_, F_, T_, T_, T_, T_, T_, F_, F_, F_, F_, F_, F_, F_, F_, F_, F_, F_, F_, F_, F_, F_, F_, F_, F_, F_, F_, F_, F_, F_] rfl rfl (any_of HT_.out (by kernel_rfl)) (fun _ _ _ h => h) (Or.inl ⟨by rfl, ?_⟩) ?_ ?_
       rotate_left; (focus (intro w'; go_simp; with_reducible rfl))
       rotate_left; (focus (simp only [Act.put, zq1, zq2, zq3, i64_w, i32_w]; rfl))
       refine pure_ (i := 18) (N := some 50) (v := ?_) (a' := ?_) #[T_, T_, T_, T_, T_, T_, F_, F_, F_, T_, T_, T_, T_, T_, F_, F_, F_, F_, T_, F_, F_, F_, F_, F_, F_, F_, F_, F_, F_, F_, F_, F_, F_, F_, F_, F_, F_] rfl rfl (any_of HT_.out (by kernel_rfl)) (fun _ _ _ h => h) (Or.inl ⟨by rfl, ?_⟩) ?_ ?_
       rotate_left; (focus (intro w'; go_simp; with_reducible rfl))
       rotate_left; (focus (simp only [Act.put, zq1, zq2, zq3, i64_w, i32_w]; rfl))
       refine pure_ (i := 19) (N := some 51) (v := ?_) (a' := ?_) #[T_, T_, T_, T_, T_, T_, F_, F_, F_, T_, T_, T_, T_, T_, F_, F_, F_, F_, T_, T_, F_, F_, F_, F_, F_, F_, F_, F_, F_, F_, F_, F_, F_, F_, F_, F_, F_] rfl rfl (any_of HT_.out (by kernel_rfl)) (fun _ _ _ h => h) (Or.inl ⟨by rfl, ?_⟩) ?_ ?_
       rotate_left; (focus (intro w'; go_simp; with_reducible rfl))
       rotate_left; (focus (simp only [Act.put, zq1, zq2, zq3, i64_w, i32_w]; rfl))
       refine pure_ (i := 20) (N := some 52) (v := ?_) (a' := ?_) #[T_, T_, T_, T_, T_, T_, F_, F_, F_, T_, T_, T_, T_, T_, F_, F_, F_, F_, T_, T_, T_, F_, F_, F_, F_, F_, F_, F_, F_, F_, F_, F_, F_, F_, F_, F_, F_] rfl rfl (any_of HT_.out (by kernel_rfl)) (fun _ _ _ h => h) (Or.inl ⟨by rfl, ?_⟩) ?_ ?_
       rotate_left; (focus (intro w'; go_simp; with_reducible rfl))
       rotate_left; (focus (simp only [Act.put, zq1, zq2, zq3, i64_w, i32_w]; rfl))
       refine pure_ (i := 21) (N := some 53) (v := ?_) (a' := ?_) #[T_, T_, T_, T_, T_, T_, F_, F_, F_, T_, T_, T_, T_, T_, F_, F_, F_, F_, T_, T_, T_, T_, F_, F_, F_, F_, F_, F_, F_, F_, F_, F_, F_, F_, F_, F_, F_] rfl rfl (any_of HT_.out (by kernel_rfl)) (fun _ _ _ h => h) (Or.inl ⟨by rfl, ?_⟩) ?_ ?_
       rotate_left; (focus (intro w'; go_simp; with_reducible rfl))
       rotate_left; (focus (simp only [Act.put, zq1, zq2, zq3, i64_w, i32_w]; rfl))
       refine pure_ (i := 22) (N := some 54) (v := ?_) (a' := ?_) #[T_, T_, T_, T_, T_, T_, F_, F_, F_, T_, T_, T_, T_, T_, F_, F_, F_, F_, T_, T_, T_, T_, T_, F_, F_, F_, F_, F_, F_, F_, F_, F_, F_, F_, F_, F_, F_] rfl rfl (any_of HT_.out (by kernel_rfl)) (fun _ _ _ h => h) (Or.inl ⟨by rfl, ?_⟩) ?_ ?_
       rotate_left; (focus (intro w'; go_simp; with_reducible rfl))
       rotate_left; (focus (simp only [Act.put, zq1, zq2, zq3, i64_w, i32_w]; rfl))
       refine pure_ (i := 27) (N := some 59) (v := ?_) (a' := ?_) #[T_, T_, T_, T_, T_, T_, F_, F_, F_, T_, T_, T_, T_, T_, F_, F_, F_, F_, T_, T_, T_, T_, T_, F_, F_, F_, F_, T_, F_, F_, F_, F_, F_, F_, F_, F_, F_] rfl rfl (any_of HT_.out (by kernel_rfl)) (fun _ _ _ h => h) (Or.inl ⟨by rfl, ?_⟩) ?_ ?_
       rotate_left; (focus (intro w'; go_simp; with_reducible rfl))
       rotate_left; (focus (simp only [Act.put, zq1, zq2, zq3, i64_w, i32_w]; rfl))
       refine pure_ (i := 28) (N := some 60) (v := ?_) (a' := ?_) #[T_, T_, T_, T_, T_, T_, F_, F_, F_, T_, T_, T_, T_, T_, F_, F_, F_, F_, T_, T_, T_, T_, T_, F_, F_, F_, F_, T_, T_, F_, F_, F_, F_, F_, F_, F_, F_] rfl rfl (any_of HT_.out (by kernel_rfl)) (fun _ _ _ h => h) (Or.inl ⟨by rfl, ?_⟩) ?_ ?_
       rotate_left; (focus (intro w'; go_simp; with_reducible rfl))
       rotate_left; (focus (simp only [Act.put, zq1, zq2, zq3, i64_w, i32_w]; rfl))
       refine pure_ (i := 29) (N := some 61) (v := ?_) (a' := ?_) #[T_, T_, T_, T_, T_, T_, F_, F_, F_, T_, T_, T_, T_, T_, F_, F_, F_, F_, T_, T_, T_, T_, T_, F_, F_, F_, F_, T_, T_, T_, F_, F_, F_, F_, F_, F_, F_] rfl rfl (any_of HT_.out (by kernel_rfl)) (fun _ _ _ h => h) (Or.inl ⟨by rfl, ?_⟩) ?_ ?_
       rotate_left; (focus (intro w'; go_simp; with_reducible rfl))
       rotate_left; (focus (simp only [Act.put, zq1, zq2, zq3, i64_w, i32_w]; rfl))
       refine pure_ (i := 30) (N := some 62) (v := ?_) (a' := ?_) #[T_, T_, T_, T_, T_, T_, F_, F_, F_, T_, T_, T_, T_, T_, F_, F_, F_, F_, T_, T_, T_, T_, T_, F_, F_, F_, F_, T_, T_, T_, T_, F_, F_, F_, F_, F_, F_] rfl rfl (any_of HT_.out (by kernel_rfl)) (fun _ _ _ h => h) (Or.inl ⟨by rfl, ?_⟩) ?_ ?_
       rotate_left; (focus (intro w'; go_simp; with_reducible rfl))
       rotate_left; (focus (simp only [Act.put, zq1, zq2, zq3, i64_w, i32_w]; rfl))
       refine pure_ (i := 31) (N := some 63) (v := ?_) (a' := ?_) #[T_, T_, T_, T_, T_, T_, F_, F_, F_, T_, T_, T_, T_, T_, F_, F_, F_, F_, T_, T_, T_, T_, T_, F_, F_, F_, F_, T_, T_, T_, T_, T_, F_, F_, F_, F_, F_] rfl rfl (any_of HT_.out (by kernel_rfl)) (fun _ _ _ h => h) (Or.inl ⟨by rfl, ?_⟩) ?_ ?_
       rotate_left; (focus (intro w'; go_simp; with_reducible rfl))
       rotate_left; (focus (simp only [Act.put, zq1, zq2, zq3, i64_w, i32_w]; rfl))
       refine take_ (i := 6) (N := some 38) (v := ?_) (a' := ?_) #[T_, T_, T_, T_, T_, T_, T_, F_, F_, T_, T_, T_, T_, T_, F_, F_, F_, F_, T_, T_, T_, T_, T_, F_, F_, F_, F_, T_, T_, T_, T_, T_, F_, F_, F_, F_, F_] rfl rfl (take_ofW HT_.out HW_.out (by kernel_rfl)) (fun _ _ _ h => h) (Or.inl ⟨by rfl, ?_⟩) hHeld ?_ ?_
       rotate_left; (focus (rintro w' ⟨s0, s1, s2, s3⟩; go_simp; with_reducible rfl))
       rotate_left; (focus (simp only [Act.put, zq1, zq2, zq3, i64_w, i32_w]; rfl))
       refine pure_ (i := 7) (N := some 39) (v := ?_) (a' := ?_) #[T_, T_, T_, T_, T_, T_, T_, T_, F_, T_, T_, T_, T_, T_, F_, F_, F_, F_, T_, T_, T_, T_, T_, F_, F_, F_, F_, T_, T_, T_, T_, T_, F_, F_, F_, F_, F_] rfl rfl (any_of HT_.out (by kernel_rfl)) (fun _ _ _ h => h) (Or.inl ⟨by rfl, ?_⟩) ?_ ?_
       rotate_left; (focus (intro w'; go_simp; with_reducible rfl))
       rotate_left; (focus (simp only [Act.put, zq1, zq2, zq3, i64_w, i32_w]; rfl))
       refine pure_ (i := 8) (N := some 40) (v := ?_) (a' := ?_) #[T_, T_, T_, T_, T_, T_, T_, T_, T_, T_, T_, T_, T_, T_, F_, F_, F_, F_, T_, T_, T_, T_, T_, F_, F_, F_, F_, T_, T_, T_, T_, T_, F_, F_, F_, F_, F_] rfl rfl (any_of HT_.out (by kernel_rfl)) (fun _ _ _ h => h) (Or.inl ⟨by rfl, ?_⟩) ?_ ?_
       rotate_left; (focus (intro w'; go_simp; with_reducible rfl))
       rotate_left; (focus (simp only [Act.put, zq1, zq2, zq3, i64_w, i32_w]; rfl))
       refine take_ (i := 14) (N := some 46) (v := ?_) (a' := ?_) #[T_, T_, T_, T_, T_, T_, T_, T_, T_, T_, T_, T_, T_, T_, T_, F_, F_, F_, T_, T_, T_, T_, T_, F_, F_, F_, F_, T_, T_, T_, T_, T_, F_, F_, F_, F_, F_] rfl rfl (take_ofW HT_.out HW_.out (by kernel_rfl)) (fun _ _ _ h => h) (Or.inl ⟨by rfl, ?_⟩) hHeld ?_ ?_
       rotate_left; (focus (rintro w' ⟨s0, s1, s2, s3⟩; go_simp; with_reducible rfl))
       rotate_left; (focus (simp only [Act.put, zq1, zq2, zq3, i64_w, i32_w]; rfl))
       refine pure_ (i := 15) (N := some 47) (v := ?_) (a' := ?_) #[T_, T_, T_, T_, T_, T_, T_, T_, T_, T_, T_, T_, T_, T_, T_, T_, F_, F_, T_, T_, T_, T_, T_, F_, F_, F_, F_, T_, T_, T_, T_, T_, F_, F_, F_, F_, F_] rfl rfl (any_of HT_.out (by kernel_rfl)) (fun _ _ _ h => h) (Or.inl ⟨by rfl, ?_⟩) ?_ ?_
       rotate_left; (focus (intro w'; go_simp; with_reducible rfl))
       rotate_left; (focus (simp only [Act.put, zq1, zq2, zq3, i64_w, i32_w]; rfl))
       refine pure_ (i := 16) (N := some 48) (v := ?_) (a' := ?_) #[T_, T_, T_, T_, T_, T_, T_, T_, T_, T_, T_, T_, T_, T_, T_, T_, T_, F_, T_, T_, T_, T_, T_, F_, F_, F_, F_, T_, T_, T_, T_, T_, F_, F_, F_, F_, F_] rfl rfl (any_of HT_.out (by kernel_rfl)) (fun _ _ _ h => h) (Or.inl ⟨by rfl, ?_⟩) ?_ ?_
       rotate_left; (focus (intro w'; go_simp; with_reducible rfl))
       rotate_left; (focus (simp only [Act.put, zq1, zq2, zq3, i64_w, i32_w]; rfl))
       refine pure_ (i := 17) (N := some 49) (v := ?_) (a' := ?_) #[T_, T_, T_, T_, T_, T_, T_, T_, T_, T_, T_, T_, T_, T_, T_, T_, T_, T_, T_, T_, T_, T_, T_, F_, F_, F_, F_, T_, T_, T_, T_, T_, F_, F_, F_, F_, F_] rfl rfl (any_of HT_.out (by kernel_rfl)) (fun _ _ _ h => h) (Or.inl ⟨by rfl, ?_⟩) ?_ ?_
       rotate_left; (focus (intro w'; go_simp; with_reducible rfl))
       rotate_left; (focus (simp only [Act.put, zq1, zq2, zq3, i64_w, i32_w]; rfl))
       refine take_ (i := 23) (N := some 55) (v := ?_) (a' := ?_) #[T_, T_, T_, T_, T_, T_, T_, T_, T_, T_, T_, T_, T_, T_, T_, T_, T_, T_, T_, T_, T_, T_, T_, T_, F_, F_, F_, T_, T_, T_, T_, T_, F_, F_, F_, F_, F_] rfl rfl (take_ofW HT_.out HW_.out (by kernel_rfl)) (fun _ _ _ h => h) (Or.inl ⟨by rfl, ?_⟩) hHeld ?_ ?_
       rotate_left; (focus (rintro w' ⟨s0, s1, s2, s3⟩; go_simp; with_reducible rfl))
       rotate_left; (focus (simp only [Act.put, zq1, zq2, zq3, i64_w, i32_w]; rfl))
       refine pure_ (i := 24) (N := some 56) (v := ?_) (a' := ?_) #[T_, T_, T_, T_, T_, T_, T_, T_, T_, T_, T_, T_, T_, T_, T_, T_, T_, T_, T_, T_, T_, T_, T_, T_, T_, F_, F_, T_, T_, T_, T_, T_, F_, F_, F_, F_, F_] rfl rfl (any_of HT_.out (by kernel_rfl)) (fun _ _ _ h => h) (Or.inl ⟨by rfl, ?_⟩) ?_ ?_
       rotate_left; (focus (intro w'; go_simp; with_reducible rfl))
       rotate_left; (focus (simp only [Act.put, zq1, zq2, zq3, i64_w, i32_w]; rfl))
       refine pure_ (i := 25) (N := some 57) (v := ?_) (a' := ?_) #[T_, T_, T_, T_, T_, T_, T_, T_, T_, T_, T_, T_, T_, T_, T_, T_, T_, T_, T_, T_, T_, T_, T_, T_, T_, T_, F_, T_, T_, T_, T_, T_, F_, F_, F_, F_, F_] rfl rfl (any_of HT_.out (by kernel_rfl)) (fun _ _ _ h => h) (Or.inl ⟨by rfl, ?_⟩) ?_ ?_
       rotate_left; (focus (intro w'; go_simp; with_reducible rfl))
       rotate_left; (focus (simp only [Act.put, zq1, zq2, zq3, i64_w, i32_w]; rfl))
       refine pure_ (i := 26) (N := some 58) (v := ?_) (a' := ?_) #[T_, T_, T_, T_, T_, T_, T_, T_, T_, T_, T_, T_, T_, T_, T_, T_, T_, T_, T_, T_, T_, T_, T_, T_, T_, T_, T_, T_, T_, T_, T_, T_, F_, F_, F_, F_, F_] rfl rfl (any_of HT_.out (by kernel_rfl)) (fun _ _ _ h => h) (Or.inl ⟨by rfl, ?_⟩) ?_ ?_
       rotate_left; (focus (intro w'; go_simp; with_reducible rfl))
       rotate_left; (focus (simp only [Act.put, zq1, zq2, zq3, i64_w, i32_w]; rfl))
       refine take_ (i := 32) (N := some 64) (v := ?_) (a' := ?_) #[T_, T_, T_, T_, T_, T_, T_, T_, T_, T_, T_, T_, T_, T_, T_, T_, T_, T_, T_, T_, T_, T_, T_, T_, T_, T_, T_, T_, T_, T_, T_, T_, T_, F_, F_, F_, F_] rfl rfl (take_ofW HT_.out HW_.out (by kernel_rfl)) (fun _ _ _ h => h) (Or.inl ⟨by rfl, ?_⟩) hHeld ?_ ?_
       rotate_left; (focus (rintro w' ⟨s0, s1, s2, s3⟩; go_simp; with_reducible rfl))
       rotate_left; (focus (simp only [Act.put, zq1, zq2, zq3, i64_w, i32_w]; rfl))
       refine pure_ (i := 33) (N := some 65) (v := ?_) (a' := ?_) #[T_, T_, T_, T_, T_, T_, T_, T_, T_, T_, T_, T_, T_, T_, T_, T_, T_, T_, T_, T_, T_, T_, T_, T_, T_, T_, T_, T_, T_, T_, T_, T_, T_, T_, F_, F_, F_] rfl rfl (any_of HT_.out (by kernel_rfl)) (fun _ _ _ h => h) (Or.inl ⟨by rfl, ?_⟩) ?_ ?_
       rotate_left; (focus (intro w'; go_simp; with_reducible rfl))
       rotate_left; (focus (simp only [Act.put, zq1, zq2, zq3, i64_w, i32_w]; rfl))
       refine pure_ (i := 34) (N := some 66) (v := ?_) (a' := ?_) #[T_, T_, T_, T_, T_, T_, T_, T_, T_, T_, T_, T_, T_, T_, T_, T_, T_, T_, T_, T_, T_, T_, T_, T_, T_, T_, T_, T_, T_, T_, T_, T_, T_, T_, T_, F_, F_] rfl rfl (any_of HT_.out (by kernel_rfl)) (fun _ _ _ h => h) (Or.inl ⟨by rfl, ?_⟩) ?_ ?_
       rotate_left; (focus (intro w'; go_simp; with_reducible rfl))
       rotate_left; (focus (simp only [Act.put, zq1, zq2, zq3, i64_w, i32_w]; rfl))
       refine pure_ (i := 35) (N := some 67) (v := ?_) (a' := ?_) #[T_, T_, T_, T_, T_, T_, T_, T_, T_, T_, T_, T_, T_, T_, T_, T_, T_, T_, T_, T_, T_, T_, T_, T_, T_, T_, T_, T_, T_, T_, T_, T_, T_, T_, T_, T_, F_] rfl rfl (any_of HT_.out (by kernel_rfl)) (fun _ _ _ h => h) (Or.inl ⟨by rfl, ?_⟩) ?_ ?_
       rotate_left; (focus (intro w'; go_simp; with_reducible rfl))
       rotate_left; (focus (simp only [Act.put, zq1, zq2, zq3, i64_w, i32_w]; rfl))
       refine last_ (i := 36) (N := none) #[T_, T_, T_, T_, T_, T_, T_, T_, T_, T_, T_, T_, T_, T_, T_, T_, T_, T_, T_, T_, T_, T_, T_, T_, T_, T_, T_, T_, T_, T_, T_, T_, T_, T_, T_, T_, T_] rfl rfl (one_of HT_.out (by kernel_rfl)) (by decide) (fun K hK => ?_)
       refine skip_ (w1 := ?_) (by rfl) rfl ?_ ?_
       rotate_left; (focus (go_simp; rfl))
       refine hK.out _ _ ?_
       clear hK K
       refine done_ (done_of HT_.out (by kernel_rfl)) ?_
       try go_wp2
       go_roundg k2
       case measure => have := HK1.out; have := HK2.out; omega
       case rel => exact ⟨(y200), (wrap64 (x7_2 + 1)), (by first | rfl | (simp; done) | (simp [*]; done)), H', ⟨by have := HK1.out; have := HK2.out; omega⟩, ⟨by (with_reducible repeat (first | apply Kd.R_alloc | apply Kd.R_drewN | apply Kd.R_drew)); exact Kd.R_mono (Kd.R_far (p := ⟨go28, (x7_2 : Int).toNat, none⟩) (Kd.R_mono HO_3.out (fun k_ hk => (⟨hk, fun e_ => hk.2 (by rw [e_]; rfl)⟩ : _ ∧ k_ ≠ go28))) (fun _ hk => hk.2) (.int .i64 (Go.bits .or .i64 (Go.bits .or .i64 (Go.bits .or .i64 (wrap64 ((wrap64 (rd x5_1 (ji14))) * 16777216)) (wrap64 ((wrap64 (rd x5_1 (ji17))) * 65536))) (wrap64 ((wrap64 (rd x5_1 (ji20))) * 256))) (wrap64 (rd x5_1 (ji23)))))) (fun _ hk => ⟨hk.1.1, hk.1.2⟩)⟩, ⟨by (with_reducible repeat (first | apply Kd.R_alloc | apply Kd.R_drewN | apply Kd.R_drew)); exact Kd.R_mono (Kd.R_far (p := ⟨go28, (x7_2 : Int).toNat, none⟩) (Kd.R_mono HO_4.out (fun k_ hk => (⟨hk, fun e_ => hk.2 (by rw [e_]; rfl)⟩ : _ ∧ k_ ≠ go28))) (fun _ hk => hk.2) (.int .i64 (Go.bits .or .i64 (Go.bits .or .i64 (Go.bits .or .i64 (wrap64 ((wrap64 (rd x5_1 (ji14))) * 16777216)) (wrap64 ((wrap64 (rd x5_1 (ji17))) * 65536))) (wrap64 ((wrap64 (rd x5_1 (ji20))) * 256))) (wrap64 (rd x5_1 (ji23)))))) (fun _ hk => ⟨hk.1.1, hk.1.2⟩)⟩, ⟨by (with_reducible repeat (first | apply Go.Proofs.YtbonmhgihedjpaaM.QM_alloc | apply Go.Proofs.YtbonmhgihedjpaaM.QM_drewN | apply Go.Proofs.YtbonmhgihedjpaaM.QM_drew)); exact Go.Proofs.YtbonmhgihedjpaaM.QM_mono (Go.Proofs.YtbonmhgihedjpaaM.QM_far (p := ⟨go28, (x7_2 : Int).toNat, none⟩) (Go.Proofs.YtbonmhgihedjpaaM.QM_types HO_5.out GG28.out (by decide)) (fun _ hk => hk.2) (.int .i64 (Go.bits .or .i64 (Go.bits .or .i64 (Go.bits .or .i64 (wrap64 ((wrap64 (rd x5_1 (ji14))) * 16777216)) (wrap64 ((wrap64 (rd x5_1 (ji17))) * 65536))) (wrap64 ((wrap64 (rd x5_1 (ji20))) * 256))) (wrap64 (rd x5_1 (ji23)))))) (fun _ hk => trivial)⟩, ⟨by (with_reducible repeat (first | apply Kd.R_alloc | apply Kd.R_drewN | apply Kd.R_drew)); exact HQ30.out⟩, ⟨by repeat (first | (with_reducible first | exact HB.out | apply below_alloc | apply pw_below_drewN | apply below_drew1 | refine below_set ?_ GB28.out) | exact HB.out)⟩⟩
      ·
       as_aux_lemma =>
       rw [if_neg c13] at H
       have c13b0 : decide (x7_2 < 16) = false := decide_eq_false c13
       clear c13
       have H' := Aside0.mk H
       clear H
       go_wp2
       go_loopg [8] k2 (fun kq v8 w' => ∃ (x6_3 : List Int) (x8_3 : Int), v8 = .int .i64 x8_3 ∧ Aside0 (vitrineref14_Sum.l2 kq x3_1 x4_1 x5_1 x6_3 x8_3 = some r) ∧ Aside0 (kq ≤ k2) ∧ Aside0 (Kd.R (Kd.int .i64) 3 w' w.heap.size (fun k_ => some k_ ≠ (v188 : Value).ownBlock ∧ some k_ ≠ (v194 : Value).ownBlock) v185 x3_1) ∧ Aside0 (Kd.R (Kd.int .i64) 3 w' w.heap.size (fun k_ => some k_ ≠ (v185 : Value).ownBlock ∧ some k_ ≠ (v194 : Value).ownBlock) v188 x4_1) ∧ Aside0 (Go.Proofs.YtbonmhgihedjpaaM.QM (Kd.int .u8) 5 w' w.heap.size (fun _ => True) (.slice Ao10 x5_1.length co10) x5_1) ∧ Aside0 (Kd.R (Kd.int .i64) 3 w' w.heap.size (fun k_ => some k_ ≠ (v185 : Value).ownBlock ∧ some k_ ≠ (v188 : Value).ownBlock) v194 x6_3) ∧ Aside0 (Below w.heap.size w w'))
       case atStart => exact ⟨(x6_2), (16), (by first | rfl | (simp; done) | (simp [*]; done)), H', ⟨Nat.le_refl _⟩, ⟨by (with_reducible repeat (first | apply Kd.R_alloc | apply Kd.R_drewN | apply Kd.R_drew)); exact HO_3.out⟩, ⟨by (with_reducible repeat (first | apply Kd.R_alloc | apply Kd.R_drewN | apply Kd.R_drew)); exact HO_4.out⟩, ⟨by (with_reducible repeat (first | apply Go.Proofs.YtbonmhgihedjpaaM.QM_alloc | apply Go.Proofs.YtbonmhgihedjpaaM.QM_drewN | apply Go.Proofs.YtbonmhgihedjpaaM.QM_drew)); exact HO_5.out⟩, ⟨by (with_reducible repeat (first | apply Kd.R_alloc | apply Kd.R_drewN | apply Kd.R_drew)); exact HO_6.out⟩, ⟨by repeat (first | (with_reducible first | exact HB.out | apply below_alloc | apply pw_below_drewN | apply below_drew1) | exact HB.out)⟩⟩
       case round =>
        clear H'
        try clear c1
        try clear p1
        try clear q1
        try clear hx1
        try clear c2
        try clear p2
        try clear q2
        try clear hx2
        try clear hf2
        try clear c3
        try clear c4
        try clear p6
        try clear c8
        try clear c8b0
        try clear c8b1
        try clear c9
        try clear c9b0
        try clear c9b1
        try clear c13
        try clear c13b0
        try clear c15
        try clear c15b0
        try clear c16
        try clear c16b0
        try clear c18
        try clear c18b0
        try clear c19
        try clear c19b0
        try clear p19
        try clear q19
        try clear hx19
        try clear c21
        try clear c21b0
        try clear c22
        try clear c22b0
        try clear c24
        try clear c24b0
        try clear c25
        try clear c25b0
        try clear c26
        try clear c26b0
        try clear c27
        try clear c27b0
        try clear p28
        try clear q28
        try clear hx28
        try clear hf28
        try clear hx196_0
        try clear hx197_0
        try clear hx198_0
        try clear hx199_0
        try clear hx28_0
        try clear p196
        try clear p197
        try clear p198
        try clear p199
        try clear p2
        try clear p28
        try clear q196
        try clear q197
        try clear q198
        try clear q199
        try clear q28
        obtain ⟨x6_3, x8_3, rfl, HA, HK3, HO_3, HO_4, HO_5, HO_6, HB⟩ := hrel
        cases gk with
        | zero => exact absurd HA.out (by simp [vitrineref14_Sum.l2])
        | succ k3 =>
         have H := HA.out
         clear HA
         simp only [vitrineref14_Sum.l2] at H
         by_cases c31 : x8_3 < 64
         ·
          as_aux_lemma =>
          rw [if_pos c31] at H
          have c31b0 : decide (x8_3 < 64) = true := decide_eq_true c31
          clear c31
          obtain ⟨ji32, hji32⟩ : ∃ j_ : Int, (wrap64 (x8_3 - 15)) = j_ := ⟨_, rfl⟩
          replace H : (if 0 ≤ (ji32) then (if (ji32) < (x6_3.length : Int) then (if 0 ≤ (wrap64 (x8_3 - 2)) then (if (wrap64 (x8_3 - 2)) < (x6_3.length : Int) then (if 0 ≤ (wrap64 (x8_3 - 16)) then (if (wrap64 (x8_3 - 16)) < (x6_3.length : Int) then ((vitrineref14_turned.f (rd x6_3 (ji32)) 7).bind fun t204 => ((vitrineref14_turned.f (rd x6_3 (ji32)) 18).bind fun t205 => (if 0 ≤ (wrap64 (x8_3 - 7)) then (if (wrap64 (x8_3 - 7)) < (x6_3.length : Int) then ((vitrineref14_turned.f (rd x6_3 (wrap64 (x8_3 - 2))) 17).bind fun t207 => ((vitrineref14_turned.f (rd x6_3 (wrap64 (x8_3 - 2))) 19).bind fun t208 => (if 0 ≤ x8_3 then (if x8_3 < (x6_3.length : Int) then (vitrineref14_Sum.l2 k3 x3_1 x4_1 x5_1 (x6_3.set (x8_3 : Int).toNat (Int.tmod (wrap64 ((wrap64 ((wrap64 ((rd x6_3 (wrap64 (x8_3 - 16))) + (Go.bits .xor .i64 (Go.bits .xor .i64 t204 t205) ((rd x6_3 (ji32)) / 8)))) + (rd x6_3 (wrap64 (x8_3 - 7))))) + (Go.bits .xor .i64 (Go.bits .xor .i64 t207 t208) ((rd x6_3 (wrap64 (x8_3 - 2))) / 1024)))) 4294967296)) (wrap64 (x8_3 + 1))) else (none)) else (none)))) else (none)) else (none)))) else (none)) else (none)) else (none)) else (none)) else (none)) else (none)) = some r := by first | (rw [hji32] at H; exact H) | (simp only [hji32] at H ⊢; exact H)
          have hji32w : (IntKind.i64.wrap (x8_3 - 15)) = ji32 := (i64_w _).trans hji32
          by_cases c33 : 0 ≤ (ji32)
          rotate_left
          ·
           as_aux_lemma =>
           rw [if_neg c33] at H
           exact absurd H (by simp)
          as_aux_lemma =>
          rw [if_pos c33] at H
          have c33b0 : decide (0 ≤ (ji32)) = true := decide_eq_true c33
          clear c33
          by_cases c34 : (ji32) < (x6_3.length : Int)
          rotate_left
          ·
           as_aux_lemma =>
           rw [if_neg c34] at H
           exact absurd H (by simp)
          as_aux_lemma =>
          rw [if_pos c34] at H
          have c34b0 : decide ((ji32) < (x6_3.length : Int)) = true := decide_eq_true c34
          clear c34
          obtain ⟨ji35, hji35⟩ : ∃ j_ : Int, (wrap64 (x8_3 - 2)) = j_ := ⟨_, rfl⟩
          replace H : (if 0 ≤ (ji35) then (if (ji35) < (x6_3.length : Int) then (if 0 ≤ (wrap64 (x8_3 - 16)) then (if (wrap64 (x8_3 - 16)) < (x6_3.length : Int) then ((vitrineref14_turned.f (rd x6_3 (ji32)) 7).bind fun t204 => ((vitrineref14_turned.f (rd x6_3 (ji32)) 18).bind fun t205 => (if 0 ≤ (wrap64 (x8_3 - 7)) then (if (wrap64 (x8_3 - 7)) < (x6_3.length : Int) then ((vitrineref14_turned.f (rd x6_3 (ji35)) 17).bind fun t207 => ((vitrineref14_turned.f (rd x6_3 (ji35)) 19).bind fun t208 => (if 0 ≤ x8_3 then (if x8_3 < (x6_3.length : Int) then (vitrineref14_Sum.l2 k3 x3_1 x4_1 x5_1 (x6_3.set (x8_3 : Int).toNat (Int.tmod (wrap64 ((wrap64 ((wrap64 ((rd x6_3 (wrap64 (x8_3 - 16))) + (Go.bits .xor .i64 (Go.bits .xor .i64 t204 t205) ((rd x6_3 (ji32)) / 8)))) + (rd x6_3 (wrap64 (x8_3 - 7))))) + (Go.bits .xor .i64 (Go.bits .xor .i64 t207 t208) ((rd x6_3 (ji35)) / 1024)))) 4294967296)) (wrap64 (x8_3 + 1))) else (none)) else (none)))) else (none)) else (none)))) else (none)) else (none)) else (none)) else (none)) = some r := by first | (rw [hji35] at H; exact H) | (simp only [hji35] at H ⊢; exact H)
          have hji35w : (IntKind.i64.wrap (x8_3 - 2)) = ji35 := (i64_w _).trans hji35
          by_cases c36 : 0 ≤ (ji35)
          rotate_left
          ·
           as_aux_lemma =>
           rw [if_neg c36] at H
           exact absurd H (by simp)
          as_aux_lemma =>
          rw [if_pos c36] at H
          have c36b0 : decide (0 ≤ (ji35)) = true := decide_eq_true c36
          clear c36
          by_cases c37 : (ji35) < (x6_3.length : Int)
          rotate_left
          ·
           as_aux_lemma =>
           rw [if_neg c37] at H
           exact absurd H (by simp)
          as_aux_lemma =>
          rw [if_pos c37] at H
          have c37b0 : decide ((ji35) < (x6_3.length : Int)) = true := decide_eq_true c37
          clear c37
          obtain ⟨ji38, hji38⟩ : ∃ j_ : Int, (wrap64 (x8_3 - 16)) = j_ := ⟨_, rfl⟩
          replace H : (if 0 ≤ (ji38) then (if (ji38) < (x6_3.length : Int) then ((vitrineref14_turned.f (rd x6_3 (ji32)) 7).bind fun t204 => ((vitrineref14_turned.f (rd x6_3 (ji32)) 18).bind fun t205 => (if 0 ≤ (wrap64 (x8_3 - 7)) then (if (wrap64 (x8_3 - 7)) < (x6_3.length : Int) then ((vitrineref14_turned.f (rd x6_3 (ji35)) 17).bind fun t207 => ((vitrineref14_turned.f (rd x6_3 (ji35)) 19).bind fun t208 => (if 0 ≤ x8_3 then (if x8_3 < (x6_3.length : Int) then (vitrineref14_Sum.l2 k3 x3_1 x4_1 x5_1 (x6_3.set (x8_3 : Int).toNat (Int.tmod (wrap64 ((wrap64 ((wrap64 ((rd x6_3 (ji38)) + (Go.bits .xor .i64 (Go.bits .xor .i64 t204 t205) ((rd x6_3 (ji32)) / 8)))) + (rd x6_3 (wrap64 (x8_3 - 7))))) + (Go.bits .xor .i64 (Go.bits .xor .i64 t207 t208) ((rd x6_3 (ji35)) / 1024)))) 4294967296)) (wrap64 (x8_3 + 1))) else (none)) else (none)))) else (none)) else (none)))) else (none)) else (none)) = some r := by first | (rw [hji38] at H; exact H) | (simp only [hji38] at H ⊢; exact H)
          have hji38w : (IntKind.i64.wrap (x8_3 - 16)) = ji38 := (i64_w _).trans hji38
          by_cases c39 : 0 ≤ (ji38)
          rotate_left
          ·
           as_aux_lemma =>
           rw [if_neg c39] at H
           exact absurd H (by simp)
          as_aux_lemma =>
          rw [if_pos c39] at H
          have c39b0 : decide (0 ≤ (ji38)) = true := decide_eq_true c39
          clear c39
          by_cases c40 : (ji38) < (x6_3.length : Int)
          rotate_left
          ·
           as_aux_lemma =>
           rw [if_neg c40] at H
           exact absurd H (by simp)
          as_aux_lemma =>
          rw [if_pos c40] at H
          have c40b0 : decide ((ji38) < (x6_3.length : Int)) = true := decide_eq_true c40
          clear c40
          replace H := Option.bind_eq_some_iff.mp H
          obtain ⟨t204, A410, H⟩ := H
          replace H : ((vitrineref14_turned.f (rd x6_3 (ji32)) 18).bind fun t205 => (if 0 ≤ (wrap64 (x8_3 - 7)) then (if (wrap64 (x8_3 - 7)) < (x6_3.length : Int) then ((vitrineref14_turned.f (rd x6_3 (ji35)) 17).bind fun t207 => ((vitrineref14_turned.f (rd x6_3 (ji35)) 19).bind fun t208 => (if 0 ≤ x8_3 then (if x8_3 < (x6_3.length : Int) then (vitrineref14_Sum.l2 k3 x3_1 x4_1 x5_1 (x6_3.set (x8_3 : Int).toNat (Int.tmod (wrap64 ((wrap64 ((wrap64 ((rd x6_3 (ji38)) + (Go.bits .xor .i64 (Go.bits .xor .i64 t204 t205) ((rd x6_3 (ji32)) / 8)))) + (rd x6_3 (wrap64 (x8_3 - 7))))) + (Go.bits .xor .i64 (Go.bits .xor .i64 t207 t208) ((rd x6_3 (ji35)) / 1024)))) 4294967296)) (wrap64 (x8_3 + 1))) else (none)) else (none)))) else (none)) else (none))) = some r := H
          have A41 := Aside0.mk A410
          clear A410
          replace H := Option.bind_eq_some_iff.mp H
          obtain ⟨t205, A420, H⟩ := H
          replace H : (if 0 ≤ (wrap64 (x8_3 - 7)) then (if (wrap64 (x8_3 - 7)) < (x6_3.length : Int) then ((vitrineref14_turned.f (rd x6_3 (ji35)) 17).bind fun t207 => ((vitrineref14_turned.f (rd x6_3 (ji35)) 19).bind fun t208 => (if 0 ≤ x8_3 then (if x8_3 < (x6_3.length : Int) then (vitrineref14_Sum.l2 k3 x3_1 x4_1 x5_1 (x6_3.set (x8_3 : Int).toNat (Int.tmod (wrap64 ((wrap64 ((wrap64 ((rd x6_3 (ji38)) + (Go.bits .xor .i64 (Go.bits .xor .i64 t204 t205) ((rd x6_3 (ji32)) / 8)))) + (rd x6_3 (wrap64 (x8_3 - 7))))) + (Go.bits .xor .i64 (Go.bits .xor .i64 t207 t208) ((rd x6_3 (ji35)) / 1024)))) 4294967296)) (wrap64 (x8_3 + 1))) else (none)) else (none)))) else (none)) else (none)) = some r := H
          have A42 := Aside0.mk A420
          clear A420
          obtain ⟨ji43, hji43⟩ : ∃ j_ : Int, (wrap64 (x8_3 - 7)) = j_ := ⟨_, rfl⟩
          replace H : (if 0 ≤ (ji43) then (if (ji43) < (x6_3.length : Int) then ((vitrineref14_turned.f (rd x6_3 (ji35)) 17).bind fun t207 => ((vitrineref14_turned.f (rd x6_3 (ji35)) 19).bind fun t208 => (if 0 ≤ x8_3 then (if x8_3 < (x6_3.length : Int) then (vitrineref14_Sum.l2 k3 x3_1 x4_1 x5_1 (x6_3.set (x8_3 : Int).toNat (Int.tmod (wrap64 ((wrap64 ((wrap64 ((rd x6_3 (ji38)) + (Go.bits .xor .i64 (Go.bits .xor .i64 t204 t205) ((rd x6_3 (ji32)) / 8)))) + (rd x6_3 (ji43)))) + (Go.bits .xor .i64 (Go.bits .xor .i64 t207 t208) ((rd x6_3 (ji35)) / 1024)))) 4294967296)) (wrap64 (x8_3 + 1))) else (none)) else (none)))) else (none)) else (none)) = some r := by first | (rw [hji43] at H; exact H) | (simp only [hji43] at H ⊢; exact H)
          (try rw [hji43] at A41)
          (try rw [hji43] at A42)
          have hji43w : (IntKind.i64.wrap (x8_3 - 7)) = ji43 := (i64_w _).trans hji43
          by_cases c44 : 0 ≤ (ji43)
          rotate_left
          ·
           as_aux_lemma =>
           rw [if_neg c44] at H
           exact absurd H (by simp)
          as_aux_lemma =>
          rw [if_pos c44] at H
          have c44b0 : decide (0 ≤ (ji43)) = true := decide_eq_true c44
          clear c44
          by_cases c45 : (ji43) < (x6_3.length : Int)
          rotate_left
          ·
           as_aux_lemma =>
           rw [if_neg c45] at H
           exact absurd H (by simp)
          as_aux_lemma =>
          rw [if_pos c45] at H
          have c45b0 : decide ((ji43) < (x6_3.length : Int)) = true := decide_eq_true c45
          clear c45
          replace H := Option.bind_eq_some_iff.mp H
          obtain ⟨t207, A460, H⟩ := H
          replace H : ((vitrineref14_turned.f (rd x6_3 (ji35)) 19).bind fun t208 => (if 0 ≤ x8_3 then (if x8_3 < (x6_3.length : Int) then (vitrineref14_Sum.l2 k3 x3_1 x4_1 x5_1 (x6_3.set (x8_3 : Int).toNat (Int.tmod (wrap64 ((wrap64 ((wrap64 ((rd x6_3 (ji38)) + (Go.bits .xor .i64 (Go.bits .xor .i64 t204 t205) ((rd x6_3 (ji32)) / 8)))) + (rd x6_3 (ji43)))) + (Go.bits .xor .i64 (Go.bits .xor .i64 t207 t208) ((rd x6_3 (ji35)) / 1024)))) 4294967296)) (wrap64 (x8_3 + 1))) else (none)) else (none))) = some r := H
          have A46 := Aside0.mk A460
          clear A460
          replace H := Option.bind_eq_some_iff.mp H
          obtain ⟨t208, A470, H⟩ := H
          replace H : (if 0 ≤ x8_3 then (if x8_3 < (x6_3.length : Int) then (vitrineref14_Sum.l2 k3 x3_1 x4_1 x5_1 (x6_3.set (x8_3 : Int).toNat (Int.tmod (wrap64 ((wrap64 ((wrap64 ((rd x6_3 (ji38)) + (Go.bits .xor .i64 (Go.bits .xor .i64 t204 t205) ((rd x6_3 (ji32)) / 8)))) + (rd x6_3 (ji43)))) + (Go.bits .xor .i64 (Go.bits .xor .i64 t207 t208) ((rd x6_3 (ji35)) / 1024)))) 4294967296)) (wrap64 (x8_3 + 1))) else (none)) else (none)) = some r := H
          have A47 := Aside0.mk A470
          clear A470
          by_cases c48 : 0 ≤ x8_3
          rotate_left
          ·
           as_aux_lemma =>
           rw [if_neg c48] at H
           exact absurd H (by simp)
          as_aux_lemma =>
          rw [if_pos c48] at H
          have c48b0 : decide (0 ≤ x8_3) = true := decide_eq_true c48
          clear c48
          by_cases c49 : x8_3 < (x6_3.length : Int)
          rotate_left
          ·
           as_aux_lemma =>
           rw [if_neg c49] at H
           exact absurd H (by simp)
          as_aux_lemma =>
          rw [if_pos c49] at H
          have c49b0 : decide (x8_3 < (x6_3.length : Int)) = true := decide_eq_true c49
          clear c49
          obtain ⟨y209, hy209⟩ : ∃ y_ : List Int, y_ = (x6_3.set (x8_3 : Int).toNat (Int.tmod (wrap64 ((wrap64 ((wrap64 ((rd x6_3 (ji38)) + (Go.bits .xor .i64 (Go.bits .xor .i64 t204 t205) ((rd x6_3 (ji32)) / 8)))) + (rd x6_3 (ji43)))) + (Go.bits .xor .i64 (Go.bits .xor .i64 t207 t208) ((rd x6_3 (ji35)) / 1024)))) 4294967296)) := ⟨_, rfl⟩
          replace H : (vitrineref14_Sum.l2 k3 x3_1 x4_1 x5_1 y209 (wrap64 (x8_3 + 1))) = some r := by first | (rw [hy209]; with_reducible exact H) | (have H2_ := (Option.bind_some _ _).symm.trans H; rw [hy209]; with_reducible exact H2_) | (have H2_ := (Option.bind_some _ _).symm.trans H; with_reducible exact H2_) | with_reducible exact H | (rw [hy209]; exact H) | exact H
          have Ny209 := Aside0.mk hy209
          clear hy209
          have H' := Aside0.mk H
          clear H
          obtain ⟨Ao51, co51, eo51⟩ := Kd.R_slice HO_6.out
          subst eo51
          have p201 : 0 ≤ ((ji32) : Int) := of_decide_eq_true (by first | (with_reducible assumption) | assumption)
          have q201 : (ji32) < (x6_3.length : Int) := of_decide_eq_true (by first | (with_reducible assumption) | assumption)
          obtain ⟨ad201, e201, hx201_0⟩ := Kd.at_int (Kd.R_reads' HO_6.out).2.2 (ji32) p201 q201
          cases e201
          replace p201 := eq_true p201
          replace q201 := eq_true q201
          have p202 : 0 ≤ ((ji35) : Int) := of_decide_eq_true (by first | (with_reducible assumption) | assumption)
          have q202 : (ji35) < (x6_3.length : Int) := of_decide_eq_true (by first | (with_reducible assumption) | assumption)
          obtain ⟨ad202, e202, hx202_0⟩ := Kd.at_int (Kd.R_reads' HO_6.out).2.2 (ji35) p202 q202
          obtain rfl : ad201 = ad202 := (by injection e202)
          replace p202 := eq_true p202
          replace q202 := eq_true q202
          try go_wp2
          have n0_ := Aside0.mk (Kd.R_drew HO_3.out)
          have n1_ := Aside0.mk (Kd.R_drew HO_4.out)
          have n2_ := Aside0.mk (Go.Proofs.YtbonmhgihedjpaaM.QM_drew HO_5.out)
          have n3_ := Aside0.mk (Kd.R_drew HO_6.out)
          have n4_ := Aside0.mk (below_drew1 HB.out)
          clear HO_3
          clear HO_4
          clear HO_5
          clear HO_6
          clear HB
          have HO_3 := n0_
          have HO_4 := n1_
          have HO_5 := n2_
          have HO_6 := n3_
          have HB := n4_
          clear n0_ n1_ n2_ n3_ n4_
          have p203 : 0 ≤ ((ji38) : Int) := of_decide_eq_true (by first | (with_reducible assumption) | assumption)
          have q203 : (ji38) < (x6_3.length : Int) := of_decide_eq_true (by first | (with_reducible assumption) | assumption)
          obtain ⟨ad203, e203, hx203_0⟩ := Kd.at_int (Kd.R_reads' HO_6.out).2.2 (ji38) p203 q203
          obtain rfl : ad201 = ad203 := (by injection e203)
          replace p203 := eq_true p203
          replace q203 := eq_true q203
          have p206 : 0 ≤ ((ji43) : Int) := of_decide_eq_true (by first | (with_reducible assumption) | assumption)
          have q206 : (ji43) < (x6_3.length : Int) := of_decide_eq_true (by first | (with_reducible assumption) | assumption)
          obtain ⟨ad206, e206, hx206_0⟩ := Kd.at_int (Kd.R_reads' HO_6.out).2.2 (ji43) p206 q206
          obtain rfl : ad201 = ad206 := (by injection e206)
          replace p206 := eq_true p206
          replace q206 := eq_true q206
          refine start_ (n := 34) (S := fun w' => w'.cell? (ad201.add ((ji38)).toNat) = some (.int .i64 (rd x6_3 (ji38))) ∧ w'.cell? (ad201.add ((ji43)).toNat) = some (.int .i64 (rd x6_3 (ji43)))) (ds := [33]) #[F_, F_, F_, F_, F_, F_, F_, F_, F_, F_, F_, F_, F_, F_, F_, F_, F_, F_, F_, F_, F_, F_, F_, F_, F_, F_, F_, F_, F_, F_, F_, F_, F_, F_] (by kernel_rfl) rfl rfl ⟨hx203_0, hx206_0⟩ (fun hHeld => ?_); refine with_tabW vitrineref14_Sum.tab15 vitrineref14_Sum.bits15 (fun HT_ HW_ => ?_)
          generalize wr.drew = w52 at HO_3 HO_4 HO_5 HO_6 HB hx203_0 hx206_0 hHeld ⊢
          refine pure_ (i := 0) (N := some 82) (v := ?_) (a' := ?_) #[T_, F_, F_, F_, F_, F_, F_, F_, F_, F_, F_, F_, F_, F_, F_, F_, F_, F_, F_, F_, F_, F_, F_, F_, F_, F_, F_, F_, F_, F_, F_, F_, F_, F_] rfl rfl (any_of HT_.out (by kernel_rfl)) (fun _ _ _ h => h) (Or.inl ⟨by rfl, ?_⟩) ?_ ?_
          rotate_left; (focus (intro w'; go_simp; with_reducible rfl))
          rotate_left; (focus (simp only [Act.put, zq1, zq2, zq3, i64_w, i32_w]; rfl))
          refine pure_ (i := 1) (N := some 83) (v := ?_) (a' := ?_) #[T_, T_, F_, F_, F_, F_, F_, F_, F_, F_, F_, F_, F_, F_, F_, F_, F_, F_, F_, F_, F_, F_, F_, F_, F_, F_, F_, F_, F_, F_, F_, F_, F_, F_] rfl rfl (any_of HT_.out (by kernel_rfl)) (fun _ _ _ h => h) (Or.inl ⟨by rfl, ?_⟩) ?_ ?_
          rotate_left; (focus (intro w'; go_simp; with_reducible rfl))
          rotate_left; (focus (simp only [Act.put, zq1, zq2, zq3, i64_w, i32_w]; rfl))
          refine pure_ (i := 2) (N := some 84) (v := ?_) (a' := ?_) #[T_, T_, T_, F_, F_, F_, F_, F_, F_, F_, F_, F_, F_, F_, F_, F_, F_, F_, F_, F_, F_, F_, F_, F_, F_, F_, F_, F_, F_, F_, F_, F_, F_, F_] rfl rfl (any_of HT_.out (by kernel_rfl)) (fun _ _ _ h => h) (Or.inl ⟨by rfl, ?_⟩) ?_ ?_
          rotate_left; (focus (intro w'; go_simp; with_reducible rfl))
          rotate_left; (focus (simp only [Act.put, zq1, zq2, zq3, i64_w, i32_w]; rfl))
          refine pure_ (i := 3) (N := some 85) (v := ?_) (a' := ?_) #[T_, T_, T_, T_, F_, F_, F_, F_, F_, F_, F_, F_, F_, F_, F_, F_, F_, F_, F_, F_, F_, F_, F_, F_, F_, F_, F_, F_, F_, F_, F_, F_, F_, F_] rfl rfl (any_of HT_.out (by kernel_rfl)) (fun _ _ _ h => h) (Or.inl ⟨by rfl, ?_⟩) ?_ ?_
          rotate_left; (focus (intro w'; go_simp; with_reducible rfl))
          rotate_left; (focus (simp only [Act.put, zq1, zq2, zq3, i64_w, i32_w]; rfl))
          refine pure_ (i := 4) (N := some 86) (v := ?_) (a' := ?_) #[T_, T_, T_, T_, T_, F_, F_, F_, F_, F_, F_, F_, F_, F_, F_, F_, F_, F_, F_, F_, F_, F_, F_, F_, F_, F_, F_, F_, F_, F_, F_, F_, F_, F_] rfl rfl (any_of HT_.out (by kernel_rfl)) (fun _ _ _ h => h) (Or.inl ⟨by rfl, ?_⟩) ?_ ?_
          rotate_left; (focus (intro w'; go_simp; with_reducible rfl))
          rotate_left; (focus (simp only [Act.put, zq1, zq2, zq3, i64_w, i32_w]; rfl))
          refine pure_ (i := 5) (N := some 87) (v := ?_) (a' := ?_) #[T_, T_, T_, T_, T_, T_, F_, F_, F_, F_, F_, F_, F_, F_, F_, F_, F_, F_, F_, F_, F_, F_, F_, F_, F_, F_, F_, F_, F_, F_, F_, F_, F_, F_] rfl rfl (any_of HT_.out (by kernel_rfl)) (fun _ _ _ h => h) (Or.inl ⟨by rfl, ?_⟩) ?_ ?_
          rotate_left; (focus (intro w'; go_simp; with_reducible rfl))
          rotate_left; (focus (simp only [Act.put, zq1, zq2, zq3, i64_w, i32_w]; rfl))
          refine pure_ (i := 7) (N := some 89) (v := ?_) (a' := ?_) #[T_, T_, T_, T_, T_, T_, F_, T_, F_, F_, F_, F_, F_, F_, F_, F_, F_, F_, F_, F_, F_, F_, F_, F_, F_, F_, F_, F_, F_, F_, F_, F_, F_, F_] rfl rfl (any_of HT_.out (by kernel_rfl)) (fun _ _ _ h => h) (Or.inl ⟨by rfl, ?_⟩) ?_ ?_
          rotate_left; (focus (intro w'; go_simp; with_reducible rfl))
          rotate_left; (focus (simp only [Act.put, zq1, zq2, zq3, i64_w, i32_w]; rfl))
          refine pure_ (i := 9) (N := some 91) (v := ?_) (a' := ?_) #[T_, T_, T_, T_, T_, T_, F_, T_, F_, T_, F_, F_, F_, F_, F_, F_, F_, F_, F_, F_, F_, F_, F_, F_, F_, F_, F_, F_, F_, F_, F_, F_, F_, F_] rfl rfl (any_of HT_.out (by kernel_rfl)) (fun _ _ _ h => h) (Or.inl ⟨by rfl, ?_⟩) ?_ ?_
          rotate_left; (focus (intro w'; go_simp; with_reducible rfl))
          rotate_left; (focus (simp only [Act.put, zq1, zq2, zq3, i64_w, i32_w]; rfl))
          refine pure_ (i := 12) (N := some 94) (v := ?_) (a' := ?_) #[T_, T_, T_, T_, T_, T_, F_, T_, F_, T_, F_, F_, T_, F_, F_, F_, F_, F_, F_, F_, F_, F_, F_, F_, F_, F_, F_, F_, F_, F_, F_, F_, F_, F_] rfl rfl (any_of HT_.out (by kernel_rfl)) (fun _ _ _ h => h) (Or.inl ⟨by rfl, ?_⟩) ?_ ?_
          rotate_left; (focus (intro w'; go_simp; with_reducible rfl))
          rotate_left; (focus (simp only [Act.put, zq1, zq2, zq3, i64_w, i32_w]; rfl))
          refine pure_ (i := 13) (N := some 95) (v := ?_) (a' := ?_) #[T_, T_, T_, T_, T_, T_, F_, T_, F_, T_, F_, F_, T_, T_, F_, F_, F_, F_, F_, F_, F_, F_, F_, F_, F_, F_, F_, F_, F_, F_, F_, F_, F_, F_] rfl rfl (any_of HT_.out (by kernel_rfl)) (fun _ _ _ h => h) (Or.inl ⟨by rfl, ?_⟩) ?_ ?_
          rotate_left; (focus (intro w'; go_simp; with_reducible rfl))
          rotate_left; (focus (simp only [Act.put, zq1, zq2, zq3, i64_w, i32_w]; rfl))
          refine pure_ (i := 16) (N := some 98) (v := ?_) (a' := ?_) #[T_, T_, T_, T_, T_, T_, F_, T_, F_, T_, F_, F_, T_, T_, F_, F_, T_, F_, F_, F_, F_, F_, F_, F_, F_, F_, F_, F_, F_, F_, F_, F_, F_, F_] rfl rfl (any_of HT_.out (by kernel_rfl)) (fun _ _ _ h => h) (Or.inl ⟨by rfl, ?_⟩) ?_ ?_
          rotate_left; (focus (intro w'; go_simp; with_reducible rfl))
          rotate_left; (focus (simp only [Act.put, zq1, zq2, zq3, i64_w, i32_w]; rfl))
          refine pure_ (i := 17) (N := some 99) (v := ?_) (a' := ?_) #[T_, T_, T_, T_, T_, T_, F_, T_, F_, T_, F_, F_, T_, T_, F_, F_, T_, T_, F_, F_, F_, F_, F_, F_, F_, F_, F_, F_, F_, F_, F_, F_, F_, F_] rfl rfl (any_of HT_.out (by kernel_rfl)) (fun _ _ _ h => h) (Or.inl ⟨by rfl, ?_⟩) ?_ ?_
          rotate_left; (focus (intro w'; go_simp; with_reducible rfl))
          rotate_left; (focus (simp only [Act.put, zq1, zq2, zq3, i64_w, i32_w]; rfl))
          refine pure_ (i := 18) (N := some 100) (v := ?_) (a' := ?_) #[T_, T_, T_, T_, T_, T_, F_, T_, F_, T_, F_, F_, T_, T_, F_, F_, T_, T_, T_, F_, F_, F_, F_, F_, F_, F_, F_, F_, F_, F_, F_, F_, F_, F_] rfl rfl (any_of HT_.out (by kernel_rfl)) (fun _ _ _ h => h) (Or.inl ⟨by rfl, ?_⟩) ?_ ?_
          rotate_left; (focus (intro w'; go_simp; with_reducible rfl))
          rotate_left; (focus (simp only [Act.put, zq1, zq2, zq3, i64_w, i32_w]; rfl))
          refine pure_ (i := 19) (N := some 101) (v := ?_) (a' := ?_) #[T_, T_, T_, T_, T_, T_, F_, T_, F_, T_, F_, F_, T_, T_, F_, F_, T_, T_, T_, T_, F_, F_, F_, F_, F_, F_, F_, F_, F_, F_, F_, F_, F_, F_] rfl rfl (any_of HT_.out (by kernel_rfl)) (fun _ _ _ h => h) (Or.inl ⟨by rfl, ?_⟩) ?_ ?_
          rotate_left; (focus (intro w'; go_simp; with_reducible rfl))
          rotate_left; (focus (simp only [Act.put, zq1, zq2, zq3, i64_w, i32_w]; rfl))
          refine pure_ (i := 22) (N := some 104) (v := ?_) (a' := ?_) #[T_, T_, T_, T_, T_, T_, F_, T_, F_, T_, F_, F_, T_, T_, F_, F_, T_, T_, T_, T_, F_, F_, T_, F_, F_, F_, F_, F_, F_, F_, F_, F_, F_, F_] rfl rfl (any_of HT_.out (by kernel_rfl)) (fun _ _ _ h => h) (Or.inl ⟨by rfl, ?_⟩) ?_ ?_
          rotate_left; (focus (intro w'; go_simp; with_reducible rfl))
          rotate_left; (focus (simp only [Act.put, zq1, zq2, zq3, i64_w, i32_w]; rfl))
          refine pure_ (i := 24) (N := some 106) (v := ?_) (a' := ?_) #[T_, T_, T_, T_, T_, T_, F_, T_, F_, T_, F_, F_, T_, T_, F_, F_, T_, T_, T_, T_, F_, F_, T_, F_, T_, F_, F_, F_, F_, F_, F_, F_, F_, F_] rfl rfl (any_of HT_.out (by kernel_rfl)) (fun _ _ _ h => h) (Or.inl ⟨by rfl, ?_⟩) ?_ ?_
          rotate_left; (focus (intro w'; go_simp; with_reducible rfl))
          rotate_left; (focus (simp only [Act.put, zq1, zq2, zq3, i64_w, i32_w]; rfl))
          refine pure_ (i := 27) (N := some 109) (v := ?_) (a' := ?_) #[T_, T_, T_, T_, T_, T_, F_, T_, F_, T_, F_, F_, T_, T_, F_, F_, T_, T_, T_, T_, F_, F_, T_, F_, T_, F_, F_, T_, F_, F_, F_, F_, F_, F_] rfl rfl (any_of HT_.out (by kernel_rfl)) (fun _ _ _ h => h) (Or.inl ⟨by rfl, ?_⟩) ?_ ?_
          rotate_left; (focus (intro w'; go_simp; with_reducible rfl))
          rotate_left; (focus (simp only [Act.put, zq1, zq2, zq3, i64_w, i32_w]; rfl))
          refine pure_ (i := 28) (N := some 110) (v := ?_) (a' := ?_) #[T_, T_, T_, T_, T_, T_, F_, T_, F_, T_, F_, F_, T_, T_, F_, F_, T_, T_, T_, T_, F_, F_, T_, F_, T_, F_, F_, T_, T_, F_, F_, F_, F_, F_] rfl rfl (any_of HT_.out (by kernel_rfl)) (fun _ _ _ h => h) (Or.inl ⟨by rfl, ?_⟩) ?_ ?_
          rotate_left; (focus (intro w'; go_simp; with_reducible rfl))
          rotate_left; (focus (simp only [Act.put, zq1, zq2, zq3, i64_w, i32_w]; rfl))
          refine take_ (i := 6) (N := some 88) (v := ?_) (a' := ?_) #[T_, T_, T_, T_, T_, T_, T_, T_, F_, T_, F_, F_, T_, T_, F_, F_, T_, T_, T_, T_, F_, F_, T_, F_, T_, F_, F_, T_, T_, F_, F_, F_, F_, F_] rfl rfl (take_ofW HT_.out HW_.out (by kernel_rfl)) (fun _ _ _ h => h) (Or.inl ⟨by rfl, ?_⟩) hHeld ?_ ?_
          rotate_left; (focus (rintro w' ⟨s0, s1⟩; go_simp; with_reducible rfl))
          rotate_left; (focus (simp only [Act.put, zq1, zq2, zq3, i64_w, i32_w]; rfl))
          refine take_ (i := 20) (N := some 102) (v := ?_) (a' := ?_) #[T_, T_, T_, T_, T_, T_, T_, T_, F_, T_, F_, F_, T_, T_, F_, F_, T_, T_, T_, T_, T_, F_, T_, F_, T_, F_, F_, T_, T_, F_, F_, F_, F_, F_] rfl rfl (take_ofW HT_.out HW_.out (by kernel_rfl)) (fun _ _ _ h => h) (Or.inl ⟨by rfl, ?_⟩) hHeld ?_ ?_
          rotate_left; (focus (rintro w' ⟨s0, s1⟩; go_simp; with_reducible rfl))
          rotate_left; (focus (simp only [Act.put, zq1, zq2, zq3, i64_w, i32_w]; rfl))
          refine one_ (i := 8) (N := some 90) #[T_, T_, T_, T_, T_, T_, T_, T_, T_, T_, F_, F_, T_, T_, F_, F_, T_, T_, T_, T_, T_, F_, T_, F_, T_, F_, F_, T_, T_, F_, F_, F_, F_, F_] rfl rfl (one_of HT_.out (by kernel_rfl)) (by decide) (fun K hK => ?_)
          refine goes_ Try.func44 (by kernel_rfl) rfl #[.int .i64 (rd x6_3 (ji32)), .int .i64 7] (by rfl) rfl rfl (by (try simp only [List.map_toArray, List.map_cons, List.map_nil]); first | done | (simp only [hji32]; rfl) | rfl | (simp only [List.length_drop, List.length_take]; rfl) | (simp only [ByteArray.size_extract, Nat.min_self]; done) | (simp only [ByteArray.size_extract, Nat.min_self]; rfl)) ?_
          with_reducible refine (vitrineref14_turned.calls (rd x6_3 (ji32)) 7 t204 _ A41.out).mono ?_
          rintro e w' ⟨rfl, ⟨nd, rfl⟩⟩
          refine ⟨_, rfl, ?_⟩
          refine hK.out _ _ ⟨hHeld.1, hHeld.2⟩ (fun hHeld => ?_)
          clear hK K
          refine norm_ (a' := ?_) ?_ ?_
          rotate_left; (focus (show Act.put _ (some 90) _ = _; simp only [Act.put, zq1, zq2, zq3, i64_w, i32_w]; rfl))
          refine one_ (i := 10) (N := some 92) #[T_, T_, T_, T_, T_, T_, T_, T_, T_, T_, T_, F_, T_, T_, F_, F_, T_, T_, T_, T_, T_, F_, T_, F_, T_, F_, F_, T_, T_, F_, F_, F_, F_, F_] rfl rfl (one_of HT_.out (by kernel_rfl)) (by decide) (fun K hK => ?_)
          refine goes_ Try.func44 (by kernel_rfl) rfl #[.int .i64 (rd x6_3 (ji32)), .int .i64 18] (by rfl) rfl rfl (by (try simp only [List.map_toArray, List.map_cons, List.map_nil]); first | done | (simp only [hji32]; rfl) | rfl | (simp only [List.length_drop, List.length_take]; rfl) | (simp only [ByteArray.size_extract, Nat.min_self]; done) | (simp only [ByteArray.size_extract, Nat.min_self]; rfl)) ?_
          with_reducible refine (vitrineref14_turned.calls (rd x6_3 (ji32)) 18 t205 _ A42.out).mono ?_
          rintro e w' ⟨rfl, ⟨nd, rfl⟩⟩
          refine ⟨_, rfl, ?_⟩
          refine hK.out _ _ ⟨hHeld.1, hHeld.2⟩ (fun hHeld => ?_)
          clear hK K
          refine norm_ (a' := ?_) ?_ ?_
          rotate_left; (focus (show Act.put _ (some 92) _ = _; simp only [Act.put, zq1, zq2, zq3, i64_w, i32_w]; rfl))
          refine pure_ (i := 11) (N := some 93) (v := ?_) (a' := ?_) #[T_, T_, T_, T_, T_, T_, T_, T_, T_, T_, T_, T_, T_, T_, F_, F_, T_, T_, T_, T_, T_, F_, T_, F_, T_, F_, F_, T_, T_, F_, F_, F_, F_, F_] rfl rfl (any_of HT_.out (by kernel_rfl)) (fun _ _ _ h => h) (Or.inl ⟨by rfl, ?_⟩) ?_ ?_
          rotate_left; (focus (intro w'; go_simp; with_reducible rfl))
          rotate_left; (focus (simp only [Act.put, zq1, zq2, zq3, i64_w, i32_w]; rfl))
          refine pure_ (i := 14) (N := some 96) (v := ?_) (a' := ?_) #[T_, T_, T_, T_, T_, T_, T_, T_, T_, T_, T_, T_, T_, T_, T_, F_, T_, T_, T_, T_, T_, F_, T_, F_, T_, F_, F_, T_, T_, F_, F_, F_, F_, F_] rfl rfl (any_of HT_.out (by kernel_rfl)) (fun _ _ _ h => h) (Or.inl ⟨by rfl, ?_⟩) ?_ ?_
          rotate_left; (focus (intro w'; go_simp; with_reducible rfl))
          rotate_left; (focus (simp only [Act.put, zq1, zq2, zq3, i64_w, i32_w]; rfl))
          refine pure_ (i := 15) (N := some 97) (v := ?_) (a' := ?_) #[T_, T_, T_, T_, T_, T_, T_, T_, T_, T_, T_, T_, T_, T_, T_, T_, T_, T_, T_, T_, T_, F_, T_, F_, T_, F_, F_, T_, T_, F_, F_, F_, F_, F_] rfl rfl (any_of HT_.out (by kernel_rfl)) (fun _ _ _ h => h) (Or.inl ⟨by rfl, ?_⟩) ?_ ?_
          rotate_left; (focus (intro w'; go_simp; with_reducible rfl))
          rotate_left; (focus (simp only [Act.put, zq1, zq2, zq3, i64_w, i32_w]; rfl))
          refine pure_ (i := 21) (N := some 103) (v := ?_) (a' := ?_) #[T_, T_, T_, T_, T_, T_, T_, T_, T_, T_, T_, T_, T_, T_, T_, T_, T_, T_, T_, T_, T_, T_, T_, F_, T_, F_, F_, T_, T_, F_, F_, F_, F_, F_] rfl rfl (any_of HT_.out (by kernel_rfl)) (fun _ _ _ h => h) (Or.inl ⟨by rfl, ?_⟩) ?_ ?_
          rotate_left; (focus (intro w'; go_simp; with_reducible rfl))
          rotate_left; (focus (simp only [Act.put, zq1, zq2, zq3, i64_w, i32_w]; rfl))
          refine one_ (i := 23) (N := some 105) #[T_, T_, T_, T_, T_, T_, T_, T_, T_, T_, T_, T_, T_, T_, T_, T_, T_, T_, T_, T_, T_, T_, T_, T_, T_, F_, F_, T_, T_, F_, F_, F_, F_, F_] rfl rfl (one_of HT_.out (by kernel_rfl)) (by decide) (fun K hK => ?_)
          refine goes_ Try.func44 (by kernel_rfl) rfl #[.int .i64 (rd x6_3 (ji35)), .int .i64 17] (by rfl) rfl rfl (by (try simp only [List.map_toArray, List.map_cons, List.map_nil]); first | done | (simp only [hji35]; rfl) | rfl | (simp only [List.length_drop, List.length_take]; rfl) | (simp only [ByteArray.size_extract, Nat.min_self]; done) | (simp only [ByteArray.size_extract, Nat.min_self]; rfl)) ?_
          with_reducible refine (vitrineref14_turned.calls (rd x6_3 (ji35)) 17 t207 _ A46.out).mono ?_
          rintro e w' ⟨rfl, ⟨nd, rfl⟩⟩
          refine ⟨_, rfl, ?_⟩
          refine hK.out _ _ ⟨hHeld.1, hHeld.2⟩ (fun hHeld => ?_)
          clear hK K
          refine norm_ (a' := ?_) ?_ ?_
          rotate_left; (focus (show Act.put _ (some 105) _ = _; simp only [Act.put, zq1, zq2, zq3, i64_w, i32_w]; rfl))
          refine one_ (i := 25) (N := some 107) #[T_, T_, T_, T_, T_, T_, T_, T_, T_, T_, T_, T_, T_, T_, T_, T_, T_, T_, T_, T_, T_, T_, T_, T_, T_, T_, F_, T_, T_, F_, F_, F_, F_, F_] rfl rfl (one_of HT_.out (by kernel_rfl)) (by decide) (fun K hK => ?_)
          refine goes_ Try.func44 (by kernel_rfl) rfl #[.int .i64 (rd x6_3 (ji35)), .int .i64 19] (by rfl) rfl rfl (by (try simp only [List.map_toArray, List.map_cons, List.map_nil]); first | done | (simp only [hji35]; rfl) | rfl | (simp only [List.length_drop, List.length_take]; rfl) | (simp only [ByteArray.size_extract, Nat.min_self]; done) | (simp only [ByteArray.size_extract, Nat.min_self]; rfl)) ?_
          with_reducible refine (vitrineref14_turned.calls (rd x6_3 (ji35)) 19 t208 _ A47.out).mono ?_
          rintro e w' ⟨rfl, ⟨nd, rfl⟩⟩
          refine ⟨_, rfl, ?_⟩
          have p50 : 0 ≤ (x8_3 : Int) := of_decide_eq_true (by first | (with_reducible assumption) | assumption)
          have q50 : (x8_3 : Int) < ((x6_3.length : Int) : Int) := of_decide_eq_true (by first | (with_reducible assumption) | assumption)
          obtain ⟨go50, co50, eo50, gb50, gl50, cl50, HG50⟩ := Kd.R_form HO_6.out (by omega)
          (first | cases eo50 | (injection eo50 with ea_ en_ ec_; (first | subst ea_ | (injection ea_ with ea_; subst ea_)); subst ec_; clear en_))
          have GB50 := Aside0.mk gb50
          have GG50 := Aside0.mk HG50
          clear gb50 gl50 HG50
          (first | simp only [add_plain] at hx201_0 | skip)
          (first | simp only [add_plain] at hx202_0 | skip)
          (first | simp only [add_plain] at hx203_0 | skip)
          (first | simp only [add_plain] at hx206_0 | skip)
          obtain ⟨hx50_0, hf50_0⟩ := Kd.R_celln 0 HO_6.out (x8_3 : Int) p50 q50
          replace p50 := eq_true p50
          replace q50 := eq_true q50
          have HP53 := Kd.R_putn HO_6.out (x8_3 : Int) (Int.tmod (wrap64 ((wrap64 ((wrap64 ((rd x6_3 (ji38)) + (Go.bits .xor .i64 (Go.bits .xor .i64 t204 t205) ((rd x6_3 (ji32)) / 8)))) + (rd x6_3 (ji43)))) + (Go.bits .xor .i64 (Go.bits .xor .i64 t207 t208) ((rd x6_3 (ji35)) / 1024)))) 4294967296)
          rw [← Ny209.out] at HP53
          have HQ53 := Aside0.mk HP53
          clear HP53
          refine hK.out _ _ ⟨hHeld.1, hHeld.2⟩ (fun hHeld => ?_)
          clear hK K
          refine norm_ (a' := ?_) ?_ ?_
          rotate_left; (focus (show Act.put _ (some 107) _ = _; simp only [Act.put, zq1, zq2, zq3, i64_w, i32_w]; rfl))
          refine pure_ (i := 26) (N := some 108) (v := ?_) (a' := ?_) #[T_, T_, T_, T_, T_, T_, T_, T_, T_, T_, T_, T_, T_, T_, T_, T_, T_, T_, T_, T_, T_, T_, T_, T_, T_, T_, T_, T_, T_, F_, F_, F_, F_, F_] rfl rfl (any_of HT_.out (by kernel_rfl)) (fun _ _ _ h => h) (Or.inl ⟨by rfl, ?_⟩) ?_ ?_
          rotate_left; (focus (intro w'; go_simp; with_reducible rfl))
          rotate_left; (focus (simp only [Act.put, zq1, zq2, zq3, i64_w, i32_w]; rfl))
          refine pure_ (i := 29) (N := some 111) (v := ?_) (a' := ?_) #[T_, T_, T_, T_, T_, T_, T_, T_, T_, T_, T_, T_, T_, T_, T_, T_, T_, T_, T_, T_, T_, T_, T_, T_, T_, T_, T_, T_, T_, T_, F_, F_, F_, F_] rfl rfl (any_of HT_.out (by kernel_rfl)) (fun _ _ _ h => h) (Or.inl ⟨by rfl, ?_⟩) ?_ ?_
          rotate_left; (focus (intro w'; go_simp; with_reducible rfl))
          rotate_left; (focus (simp only [Act.put, zq1, zq2, zq3, i64_w, i32_w]; rfl))
          refine pure_ (i := 30) (N := some 112) (v := ?_) (a' := ?_) #[T_, T_, T_, T_, T_, T_, T_, T_, T_, T_, T_, T_, T_, T_, T_, T_, T_, T_, T_, T_, T_, T_, T_, T_, T_, T_, T_, T_, T_, T_, T_, F_, F_, F_] rfl rfl (any_of HT_.out (by kernel_rfl)) (fun _ _ _ h => h) (Or.inl ⟨by rfl, ?_⟩) ?_ ?_
          rotate_left; (focus (intro w'; go_simp; with_reducible rfl))
          rotate_left; (focus (simp only [Act.put, zq1, zq2, zq3, i64_w, i32_w]; rfl))
          refine pure_ (i := 31) (N := some 113) (v := ?_) (a' := ?_) #[T_, T_, T_, T_, T_, T_, T_, T_, T_, T_, T_, T_, T_, T_, T_, T_, T_, T_, T_, T_, T_, T_, T_, T_, T_, T_, T_, T_, T_, T_, T_, T_, F_, F_] rfl rfl (any_of HT_.out (by kernel_rfl)) (fun _ _ _ h => h) (Or.inl ⟨by rfl, ?_⟩) ?_ ?_
          rotate_left; (focus (intro w'; go_simp; with_reducible rfl))
          rotate_left; (focus (simp only [Act.put, zq1, zq2, zq3, i64_w, i32_w]; rfl))
          refine pure_ (i := 32) (N := some 114) (v := ?_) (a' := ?_) #[T_, T_, T_, T_, T_, T_, T_, T_, T_, T_, T_, T_, T_, T_, T_, T_, T_, T_, T_, T_, T_, T_, T_, T_, T_, T_, T_, T_, T_, T_, T_, T_, T_, F_] rfl rfl (any_of HT_.out (by kernel_rfl)) (fun _ _ _ h => h) (Or.inl ⟨by rfl, ?_⟩) ?_ ?_
          rotate_left; (focus (intro w'; go_simp; with_reducible rfl))
          rotate_left; (focus (simp only [Act.put, zq1, zq2, zq3, i64_w, i32_w]; rfl))
          refine last_ (i := 33) (N := none) #[T_, T_, T_, T_, T_, T_, T_, T_, T_, T_, T_, T_, T_, T_, T_, T_, T_, T_, T_, T_, T_, T_, T_, T_, T_, T_, T_, T_, T_, T_, T_, T_, T_, T_] rfl rfl (one_of HT_.out (by kernel_rfl)) (by decide) (fun K hK => ?_)
          refine skip_ (w1 := ?_) (by rfl) rfl ?_ ?_
          rotate_left; (focus (go_simp; rfl))
          refine hK.out _ _ ?_
          clear hK K
          refine done_ (done_of HT_.out (by kernel_rfl)) ?_
          try go_wp2
          go_roundg k3
          case measure => have := HK1.out; have := HK2.out; have := HK3.out; omega
          case rel => exact ⟨(y209), (wrap64 (x8_3 + 1)), (by first | rfl | (simp; done) | (simp [*]; done)), H', ⟨by have := HK1.out; have := HK2.out; have := HK3.out; omega⟩, ⟨by (with_reducible repeat (first | apply Kd.R_alloc | apply Kd.R_drewN | apply Kd.R_drew)); exact Kd.R_mono (Kd.R_far (p := ⟨go50, (x8_3 : Int).toNat, none⟩) (Kd.R_mono HO_3.out (fun k_ hk => (⟨hk, fun e_ => hk.2 (by rw [e_]; rfl)⟩ : _ ∧ k_ ≠ go50))) (fun _ hk => hk.2) (.int .i64 (Int.tmod (wrap64 ((wrap64 ((wrap64 ((rd x6_3 (ji38)) + (Go.bits .xor .i64 (Go.bits .xor .i64 t204 t205) ((rd x6_3 (ji32)) / 8)))) + (rd x6_3 (ji43)))) + (Go.bits .xor .i64 (Go.bits .xor .i64 t207 t208) ((rd x6_3 (ji35)) / 1024)))) 4294967296))) (fun _ hk => ⟨hk.1.1, hk.1.2⟩)⟩, ⟨by (with_reducible repeat (first | apply Kd.R_alloc | apply Kd.R_drewN | apply Kd.R_drew)); exact Kd.R_mono (Kd.R_far (p := ⟨go50, (x8_3 : Int).toNat, none⟩) (Kd.R_mono HO_4.out (fun k_ hk => (⟨hk, fun e_ => hk.2 (by rw [e_]; rfl)⟩ : _ ∧ k_ ≠ go50))) (fun _ hk => hk.2) (.int .i64 (Int.tmod (wrap64 ((wrap64 ((wrap64 ((rd x6_3 (ji38)) + (Go.bits .xor .i64 (Go.bits .xor .i64 t204 t205) ((rd x6_3 (ji32)) / 8)))) + (rd x6_3 (ji43)))) + (Go.bits .xor .i64 (Go.bits .xor .i64 t207 t208) ((rd x6_3 (ji35)) / 1024)))) 4294967296))) (fun _ hk => ⟨hk.1.1, hk.1.2⟩)⟩, ⟨by (with_reducible repeat (first | apply Go.Proofs.YtbonmhgihedjpaaM.QM_alloc | apply Go.Proofs.YtbonmhgihedjpaaM.QM_drewN | apply Go.Proofs.YtbonmhgihedjpaaM.QM_drew)); exact Go.Proofs.YtbonmhgihedjpaaM.QM_mono (Go.Proofs.YtbonmhgihedjpaaM.QM_far (p := ⟨go50, (x8_3 : Int).toNat, none⟩) (Go.Proofs.YtbonmhgihedjpaaM.QM_types HO_5.out GG50.out (by decide)) (fun _ hk => hk.2) (.int .i64 (Int.tmod (wrap64 ((wrap64 ((wrap64 ((rd x6_3 (ji38)) + (Go.bits .xor .i64 (Go.bits .xor .i64 t204 t205) ((rd x6_3 (ji32)) / 8)))) + (rd x6_3 (ji43)))) + (Go.bits .xor .i64 (Go.bits .xor .i64 t207 t208) ((rd x6_3 (ji35)) / 1024)))) 4294967296))) (fun _ hk => trivial)⟩, ⟨by (with_reducible repeat (first | apply Kd.R_alloc | apply Kd.R_drewN | apply Kd.R_drew)); exact HQ53.out⟩, ⟨by repeat (first | (with_reducible first | exact HB.out | apply below_alloc | apply pw_below_drewN | apply below_drew1 | refine below_set ?_ GB50.out) | exact HB.out)⟩⟩
         ·
          as_aux_lemma =>
          rw [if_neg c31] at H
          have c31b0 : decide (x8_3 < 64) = false := decide_eq_false c31
          clear c31
          obtain ⟨y210, hy210⟩ : ∃ y_ : List Int, y_ = (([] : List Int)) := ⟨_, rfl⟩
          replace H : (if y210.length + x3_1.length < 17592186044416 then (vitrineref14_Sum.l3 k3 x3_1 x4_1 x5_1 x6_3 (y210 ++ x3_1) 0) else (none)) = some r := by first | (rw [hy210]; with_reducible exact H) | (have H2_ := (Option.bind_some _ _).symm.trans H; rw [hy210]; with_reducible exact H2_) | (have H2_ := (Option.bind_some _ _).symm.trans H; with_reducible exact H2_) | with_reducible exact H | (rw [hy210]; exact H) | exact H
          have Ny210 := Aside0.mk hy210
          clear hy210
          by_cases c54 : y210.length + x3_1.length < 17592186044416
          rotate_left
          ·
           as_aux_lemma =>
           rw [if_neg c54] at H
           exact absurd H (by simp)
          as_aux_lemma =>
          rw [if_pos c54] at H
          have LMc54 := Aside0.mk c54
          clear c54
          obtain ⟨y213, hy213⟩ : ∃ y_ : List Int, y_ = (y210 ++ x3_1) := ⟨_, rfl⟩
          replace H : (vitrineref14_Sum.l3 k3 x3_1 x4_1 x5_1 x6_3 y213 0) = some r := by first | (rw [hy213]; with_reducible exact H) | (have H2_ := (Option.bind_some _ _).symm.trans H; rw [hy213]; with_reducible exact H2_) | (have H2_ := (Option.bind_some _ _).symm.trans H; with_reducible exact H2_) | with_reducible exact H | (rw [hy213]; exact H) | exact H
          have Ny213 := Aside0.mk hy213
          clear hy213
          have H' := Aside0.mk H
          clear H
          go_wp2_with (first | ((with_reducible refine gate_dst (N := 115) rfl ?_); refine Kd.R_lit (Kd.int .i64) _ 3 ?hg (N := 115) ?hd (xs := ([] : List Int)) (inner := []) (ok := fun _ => True) (okp := fun _ => True) ?hr ?hp (fun _ hk => hk) trivial (Below.refl _ _) (Nat.le_refl _) (by simp) ?_; (case hd => rfl); (case hg => rfl); (case hr => first | (go_simp; done) | (go_simp; rfl)); (case hp => exact (Reps.none _ _)); intro v211 w55 ho56 hb hg_ hnew_; clear hg_ hnew_; (first | rw [← Ny210.out] at ho56 | (simp only [Int.reduceToNat] at ho56; rw [← Ny210.out] at ho56)); have n0_ := Aside0.mk (Kd.R_elder' (by (with_reducible repeat (first | apply Kd.R_alloc | apply Kd.R_drewN | apply Kd.R_drew)); exact HO_3.out) (Kd.R_base ho56) hb); have n1_ := Aside0.mk (Kd.R_elder' (by (with_reducible repeat (first | apply Kd.R_alloc | apply Kd.R_drewN | apply Kd.R_drew)); exact HO_4.out) (Kd.R_base ho56) hb); have n2_ := Aside0.mk (Go.Proofs.YtbonmhgihedjpaaM.QM_below (by (with_reducible repeat (first | apply Go.Proofs.YtbonmhgihedjpaaM.QM_alloc | apply Go.Proofs.YtbonmhgihedjpaaM.QM_drewN | apply Go.Proofs.YtbonmhgihedjpaaM.QM_drew)); exact HO_5.out) hb); have n3_ := Aside0.mk (Kd.R_elder' (by (with_reducible repeat (first | apply Kd.R_alloc | apply Kd.R_drewN | apply Kd.R_drew)); exact HO_6.out) (Kd.R_base ho56) hb); have n4_ := Aside0.mk (Kd.R_lower (Kd.R_new' (Kd.R_new' (Kd.R_new' ho56 (Kd.R_lt (by (with_reducible repeat (first | apply Kd.R_alloc | apply Kd.R_drewN | apply Kd.R_drew)); exact HO_3.out))) (Kd.R_lt (by (with_reducible repeat (first | apply Kd.R_alloc | apply Kd.R_drewN | apply Kd.R_drew)); exact HO_4.out))) (Kd.R_lt (by (with_reducible repeat (first | apply Kd.R_alloc | apply Kd.R_drewN | apply Kd.R_drew)); exact HO_6.out))) (below_size (by repeat (first | (with_reducible first | exact HB.out | apply below_alloc | apply pw_below_drewN | apply below_drew1) | exact HB.out)))); have n5_ := Aside0.mk (below_step (by repeat (first | (with_reducible first | exact HB.out | apply below_alloc | apply pw_below_drewN | apply below_drew1) | exact HB.out)) hb); clear HO_3; clear HO_4; clear HO_5; clear HO_6; clear HB; have HO_3 := n0_; have HO_4 := n1_; have HO_5 := n2_; have HO_6 := n3_; have HO212 := n4_; have HB := n5_; clear n0_ n1_ n2_ n3_ n4_ n5_; clear hb ho56; obtain ⟨Ao58, co58, eo58⟩ := Kd.R_slice HO_3.out; subst eo58) | ((with_reducible refine gate_builtin (b := .append) (xs := #[.tmp 115, .tmp 116]) rfl ?_); at_builtin; refine Kd.R_append_rows (Kd.int .i64) (w0 := w) w.heap.size rfl (.tmp 115) (.tmp 116) 72 3 (.int .i64 0) 8 rfl Try.underlying72 info3 rfl (by decide) (by omega) v211 y210 x3_1 _ _ _ (fun k_ => some k_ ≠ (.slice Ao58 x3_1.length co58 : Value).ownBlock ∧ some k_ ≠ (v188 : Value).ownBlock ∧ some k_ ≠ (v194 : Value).ownBlock) (fun _ => False) rfl rfl ?aO ?aR (fun _ _ h => h) (fun _ h => h.elim) ?aF ?aB ?aS ?aL ?_; (case aR => repeat (first | exact (Kd.R_reads' HO_3.out).2.2 | (with_reducible refine Kd.C_alloc ?_ _) | (with_reducible refine Kd.C_drewN ?_ _) | (with_reducible refine Kd.C_drew ?_))); (case aB => exact (by repeat (first | (with_reducible first | exact HB.out | apply below_alloc | apply pw_below_drewN | apply below_drew1) | exact HB.out))); (case aF => exact (fun k_ hk => ⟨Kd.fresh' (Kd.R_lt (by (with_reducible repeat (first | apply Kd.R_alloc | apply Kd.R_drewN | apply Kd.R_drew)); exact HO_3.out)) k_ hk, Kd.fresh' (Kd.R_lt (by (with_reducible repeat (first | apply Kd.R_alloc | apply Kd.R_drewN | apply Kd.R_drew)); exact HO_4.out)) k_ hk, Kd.fresh' (Kd.R_lt (by (with_reducible repeat (first | apply Kd.R_alloc | apply Kd.R_drewN | apply Kd.R_drew)); exact HO_6.out)) k_ hk⟩)); (case aO => exact (by (with_reducible repeat (first | apply Kd.R_alloc | apply Kd.R_drewN | apply Kd.R_drew)); exact Kd.R_mono HO212.out (fun _ hk => ⟨hk.1.1.2, ⟨hk.1.2, hk.2⟩⟩))); (case aS => exact (below_size (by repeat (first | (with_reducible first | exact HB.out | apply below_alloc | apply pw_below_drewN | apply below_drew1) | exact HB.out)))); (case aL => have := LMc54.out; omega); intro v214 w57 ho hb hg hat; rw [← Ny213.out] at ho; have n0_ := Aside0.mk (Kd.R_after (ok := (fun k_ => some k_ ≠ (v188 : Value).ownBlock ∧ some k_ ≠ (v194 : Value).ownBlock)) (by (with_reducible repeat (first | apply Kd.R_alloc | apply Kd.R_drewN | apply Kd.R_drew)); exact HO_3.out) hg hat); have n1_ := Aside0.mk (Kd.R_after (ok := (fun k_ => some k_ ≠ (.slice Ao58 x3_1.length co58 : Value).ownBlock ∧ some k_ ≠ (v194 : Value).ownBlock)) (by (with_reducible repeat (first | apply Kd.R_alloc | apply Kd.R_drewN | apply Kd.R_drew)); exact HO_4.out) hg hat); have n2_ := Aside0.mk (Go.Proofs.YtbonmhgihedjpaaM.QM_over' (by (with_reducible repeat (first | apply Go.Proofs.YtbonmhgihedjpaaM.QM_alloc | apply Go.Proofs.YtbonmhgihedjpaaM.QM_drewN | apply Go.Proofs.YtbonmhgihedjpaaM.QM_drew)); exact HO_5.out) (Kd.R_typed (by (with_reducible repeat (first | apply Kd.R_alloc | apply Kd.R_drewN | apply Kd.R_drew)); exact HO212.out)) (by decide) hg); have n3_ := Aside0.mk (Kd.R_after (ok := (fun k_ => some k_ ≠ (.slice Ao58 x3_1.length co58 : Value).ownBlock ∧ some k_ ≠ (v188 : Value).ownBlock)) (by (with_reducible repeat (first | apply Kd.R_alloc | apply Kd.R_drewN | apply Kd.R_drew)); exact HO_6.out) hg hat); have n4_ := Aside0.mk (hb); have n5_ := Aside0.mk (ho); clear HO_3; clear HO_4; clear HO_5; clear HO_6; clear HB; clear HO212; have HO_3 := n0_; have HO_4 := n1_; have HO_5 := n2_; have HO_6 := n3_; have HB := n4_; have HO215 := n5_; clear n0_ n1_ n2_ n3_ n4_ n5_; clear ho hb hg hat))
          go_loopg [11, 12] k3 (fun kq v11 v12 w' => ∃ (x11_4 : List Int) (x12_4 : Int), v12 = .int .i64 x12_4 ∧ Aside0 (vitrineref14_Sum.l3 kq x3_1 x4_1 x5_1 x6_3 x11_4 x12_4 = some r) ∧ Aside0 (kq ≤ k3) ∧ Aside0 (Kd.R (Kd.int .i64) 3 w' w.heap.size (fun k_ => some k_ ≠ (v188 : Value).ownBlock ∧ some k_ ≠ (v194 : Value).ownBlock ∧ some k_ ≠ (v11 : Value).ownBlock) (.slice Ao58 x3_1.length co58) x3_1) ∧ Aside0 (Kd.R (Kd.int .i64) 3 w' w.heap.size (fun k_ => some k_ ≠ ((.slice Ao58 x3_1.length co58) : Value).ownBlock ∧ some k_ ≠ (v194 : Value).ownBlock ∧ some k_ ≠ (v11 : Value).ownBlock) v188 x4_1) ∧ Aside0 (Go.Proofs.YtbonmhgihedjpaaM.QM (Kd.int .u8) 5 w' w.heap.size (fun _ => True) (.slice Ao10 x5_1.length co10) x5_1) ∧ Aside0 (Kd.R (Kd.int .i64) 3 w' w.heap.size (fun k_ => some k_ ≠ ((.slice Ao58 x3_1.length co58) : Value).ownBlock ∧ some k_ ≠ (v188 : Value).ownBlock ∧ some k_ ≠ (v11 : Value).ownBlock) v194 x6_3) ∧ Aside0 (Kd.R (Kd.int .i64) 3 w' w.heap.size (fun k_ => some k_ ≠ ((.slice Ao58 x3_1.length co58) : Value).ownBlock ∧ some k_ ≠ (v188 : Value).ownBlock ∧ some k_ ≠ (v194 : Value).ownBlock) v11 x11_4) ∧ Aside0 (Below w.heap.size w w'))
          case atStart => exact ⟨(y213), (0), (by first | rfl | (simp; done) | (simp [*]; done)), H', ⟨Nat.le_refl _⟩, ⟨by (with_reducible repeat (first | apply Kd.R_alloc | apply Kd.R_drewN | apply Kd.R_drew)); exact Kd.R_mono HO_3.out (fun _ hk => ⟨hk.1.1, ⟨hk.1.2, hk.2⟩⟩)⟩, ⟨by (with_reducible repeat (first | apply Kd.R_alloc | apply Kd.R_drewN | apply Kd.R_drew)); exact Kd.R_mono HO_4.out (fun _ hk => ⟨hk.1.1, ⟨hk.1.2, hk.2⟩⟩)⟩, ⟨by (with_reducible repeat (first | apply Go.Proofs.YtbonmhgihedjpaaM.QM_alloc | apply Go.Proofs.YtbonmhgihedjpaaM.QM_drewN | apply Go.Proofs.YtbonmhgihedjpaaM.QM_drew)); exact HO_5.out⟩, ⟨by (with_reducible repeat (first | apply Kd.R_alloc | apply Kd.R_drewN | apply Kd.R_drew)); exact Kd.R_mono HO_6.out (fun _ hk => ⟨hk.1.1, ⟨hk.1.2, hk.2⟩⟩)⟩, ⟨by (with_reducible repeat (first | apply Kd.R_alloc | apply Kd.R_drewN | apply Kd.R_drew)); exact HO215.out⟩, ⟨by repeat (first | (with_reducible first | exact HB.out | apply below_alloc | apply pw_below_drewN | apply below_drew1) | exact HB.out)⟩⟩
          case round =>
           clear H'
           try clear c1
           try clear p1
           try clear q1
           try clear hx1
           try clear c2
           try clear p2
           try clear q2
           try clear hx2
           try clear hf2
           try clear c3
           try clear c4
           try clear c5
           try clear p5
           try clear q5
           try clear hx5
           try clear hf5
           try clear p6
           try clear c8
           try clear c8b0
           try clear c8b1
           try clear c9
           try clear c9b0
           try clear c9b1
           try clear c13
           try clear c13b0
           try clear c15
           try clear c15b0
           try clear c16
           try clear c16b0
           try clear c18
           try clear c18b0
           try clear c19
           try clear c19b0
           try clear p19
           try clear q19
           try clear hx19
           try clear p20
           try clear q20
           try clear hx20
           try clear c21
           try clear c21b0
           try clear c22
           try clear c22b0
           try clear c24
           try clear c24b0
           try clear c25
           try clear c25b0
           try clear c26
           try clear c26b0
           try clear c27
           try clear c27b0
           try clear p28
           try clear q28
           try clear hx28
           try clear hf28
           try clear c31
           try clear c31b0
           try clear c33
           try clear c33b0
           try clear c34
           try clear c34b0
           try clear c36
           try clear c36b0
           try clear c37
           try clear c37b0
           try clear c39
           try clear c39b0
           try clear c40
           try clear c40b0
           try clear c44
           try clear c44b0
           try clear c45
           try clear c45b0
           try clear c48
           try clear c48b0
           try clear c49
           try clear c49b0
           try clear p50
           try clear q50
           try clear hx50
           try clear hf50
           try clear c54
           try clear hx196_0
           try clear hx197_0
           try clear hx198_0
           try clear hx199_0
           try clear hx201_0
           try clear hx202_0
           try clear hx203_0
           try clear hx206_0
           try clear hx28_0
           try clear hx50_0
           try clear p1
           try clear p19
           try clear p196
           try clear p197
           try clear p198
           try clear p199
           try clear p2
           try clear p201
           try clear p202
           try clear p203
           try clear p206
           try clear p28
           try clear p50
           try clear p6
           try clear q1
           try clear q19
           try clear q196
           try clear q197
           try clear q198
           try clear q199
           try clear q2
           try clear q201
           try clear q202
           try clear q203
           try clear q206
           try clear q28
           try clear q50
           obtain ⟨x11_4, x12_4, rfl, HA, HK4, HO_3, HO_4, HO_5, HO_6, HO_11, HB⟩ := hrel
           cases gk with
           | zero => exact absurd HA.out (by simp [vitrineref14_Sum.l3])
           | succ k4 =>
            have H := HA.out
            clear HA
            simp only [vitrineref14_Sum.l3] at H
            by_cases c59 : x12_4 < 64
            ·
             as_aux_lemma =>
             rw [if_pos c59] at H
             have c59b0 : decide (x12_4 < 64) = true := decide_eq_true c59
             clear c59
             by_cases c60 : 0 < (x11_4.length : Int)
             rotate_left
             ·
              as_aux_lemma =>
              rw [if_neg c60] at H
              exact absurd H (by simp)
             as_aux_lemma =>
             rw [if_pos c60] at H
             have c60b0 : decide (0 < (x11_4.length : Int)) = true := decide_eq_true c60
             have c60b1 : decide (0 < x11_4.length) = true := decide_eq_true (by omega)
             clear c60
             by_cases c61 : 4 < (x11_4.length : Int)
             rotate_left
             ·
              as_aux_lemma =>
              rw [if_neg c61] at H
              exact absurd H (by simp)
             as_aux_lemma =>
             rw [if_pos c61] at H
             have c61b0 : decide (4 < (x11_4.length : Int)) = true := decide_eq_true c61
             have c61b1 : decide (4 < x11_4.length) = true := decide_eq_true (by omega)
             clear c61
             by_cases c62 : 7 < (x11_4.length : Int)
             rotate_left
             ·
              as_aux_lemma =>
              rw [if_neg c62] at H
              exact absurd H (by simp)
             as_aux_lemma =>
             rw [if_pos c62] at H
             have c62b0 : decide (7 < (x11_4.length : Int)) = true := decide_eq_true c62
             have c62b1 : decide (7 < x11_4.length) = true := decide_eq_true (by omega)
             clear c62
             replace H := Option.bind_eq_some_iff.mp H
             obtain ⟨t219, A630, H⟩ := H
             replace H : ((vitrineref14_turned.f (rd x11_4 4) 11).bind fun t220 => ((vitrineref14_turned.f (rd x11_4 4) 25).bind fun t221 => (if 5 < (x11_4.length : Int) then (if 6 < (x11_4.length : Int) then (if 0 ≤ x12_4 then (if x12_4 < (x4_1.length : Int) then (if x12_4 < (x6_3.length : Int) then ((vitrineref14_turned.f (rd x11_4 0) 2).bind fun t226 => ((vitrineref14_turned.f (rd x11_4 0) 13).bind fun t227 => ((vitrineref14_turned.f (rd x11_4 0) 22).bind fun t228 => (if 1 < (x11_4.length : Int) then (if 2 < (x11_4.length : Int) then (if 3 < (x11_4.length : Int) then (vitrineref14_Sum.l3 k4 x3_1 x4_1 x5_1 x6_3 (([Int.tmod (wrap64 ((Int.tmod (wrap64 ((wrap64 ((wrap64 ((wrap64 ((rd x11_4 7) + (Go.bits .xor .i64 (Go.bits .xor .i64 t219 t220) t221))) + (Go.bits .xor .i64 (Go.bits .and .i64 (rd x11_4 4) (rd x11_4 5)) (Go.bits .and .i64 (wrap64 (4294967295 - (rd x11_4 4))) (rd x11_4 6))))) + (rd x4_1 x12_4))) + (rd x6_3 x12_4))) 4294967296) + (Int.tmod (wrap64 ((Go.bits .xor .i64 (Go.bits .xor .i64 t226 t227) t228) + (Go.bits .xor .i64 (Go.bits .xor .i64 (Go.bits .and .i64 (rd x11_4 0) (rd x11_4 1)) (Go.bits .and .i64 (rd x11_4 0) (rd x11_4 2))) (Go.bits .and .i64 (rd x11_4 1) (rd x11_4 2))))) 4294967296))) 4294967296, rd x11_4 0, rd x11_4 1, rd x11_4 2, Int.tmod (wrap64 ((rd x11_4 3) + (Int.tmod (wrap64 ((wrap64 ((wrap64 ((wrap64 ((rd x11_4 7) + (Go.bits .xor .i64 (Go.bits .xor .i64 t219 t220) t221))) + (Go.bits .xor .i64 (Go.bits .and .i64 (rd x11_4 4) (rd x11_4 5)) (Go.bits .and .i64 (wrap64 (4294967295 - (rd x11_4 4))) (rd x11_4 6))))) + (rd x4_1 x12_4))) + (rd x6_3 x12_4))) 4294967296))) 4294967296, rd x11_4 4, rd x11_4 5, rd x11_4 6] : List Int)) (wrap64 (x12_4 + 1))) else (none)) else (none)) else (none))))) else (none)) else (none)) else (none)) else (none)) else (none)))) = some r := H
             have A63 := Aside0.mk A630
             clear A630
             replace H := Option.bind_eq_some_iff.mp H
             obtain ⟨t220, A640, H⟩ := H
             replace H : ((vitrineref14_turned.f (rd x11_4 4) 25).bind fun t221 => (if 5 < (x11_4.length : Int) then (if 6 < (x11_4.length : Int) then (if 0 ≤ x12_4 then (if x12_4 < (x4_1.length : Int) then (if x12_4 < (x6_3.length : Int) then ((vitrineref14_turned.f (rd x11_4 0) 2).bind fun t226 => ((vitrineref14_turned.f (rd x11_4 0) 13).bind fun t227 => ((vitrineref14_turned.f (rd x11_4 0) 22).bind fun t228 => (if 1 < (x11_4.length : Int) then (if 2 < (x11_4.length : Int) then (if 3 < (x11_4.length : Int) then (vitrineref14_Sum.l3 k4 x3_1 x4_1 x5_1 x6_3 (([Int.tmod (wrap64 ((Int.tmod (wrap64 ((wrap64 ((wrap64 ((wrap64 ((rd x11_4 7) + (Go.bits .xor .i64 (Go.bits .xor .i64 t219 t220) t221))) + (Go.bits .xor .i64 (Go.bits .and .i64 (rd x11_4 4) (rd x11_4 5)) (Go.bits .and .i64 (wrap64 (4294967295 - (rd x11_4 4))) (rd x11_4 6))))) + (rd x4_1 x12_4))) + (rd x6_3 x12_4))) 4294967296) + (Int.tmod (wrap64 ((Go.bits .xor .i64 (Go.bits .xor .i64 t226 t227) t228) + (Go.bits .xor .i64 (Go.bits .xor .i64 (Go.bits .and .i64 (rd x11_4 0) (rd x11_4 1)) (Go.bits .and .i64 (rd x11_4 0) (rd x11_4 2))) (Go.bits .and .i64 (rd x11_4 1) (rd x11_4 2))))) 4294967296))) 4294967296, rd x11_4 0, rd x11_4 1, rd x11_4 2, Int.tmod (wrap64 ((rd x11_4 3) + (Int.tmod (wrap64 ((wrap64 ((wrap64 ((wrap64 ((rd x11_4 7) + (Go.bits .xor .i64 (Go.bits .xor .i64 t219 t220) t221))) + (Go.bits .xor .i64 (Go.bits .and .i64 (rd x11_4 4) (rd x11_4 5)) (Go.bits .and .i64 (wrap64 (4294967295 - (rd x11_4 4))) (rd x11_4 6))))) + (rd x4_1 x12_4))) + (rd x6_3 x12_4))) 4294967296))) 4294967296, rd x11_4 4, rd x11_4 5, rd x11_4 6] : List Int)) (wrap64 (x12_4 + 1))) else (none)) else (none)) else (none))))) else (none)) else (none)) else (none)) else (none)) else (none))) = some r := H
             have A64 := Aside0.mk A640
             clear A640
             replace H := Option.bind_eq_some_iff.mp H
             obtain ⟨t221, A650, H⟩ := H
             replace H : (if 5 < (x11_4.length : Int) then (if 6 < (x11_4.length : Int) then (if 0 ≤ x12_4 then (if x12_4 < (x4_1.length : Int) then (if x12_4 < (x6_3.length : Int) then ((vitrineref14_turned.f (rd x11_4 0) 2).bind fun t226 => ((vitrineref14_turned.f (rd x11_4 0) 13).bind fun t227 => ((vitrineref14_turned.f (rd x11_4 0) 22).bind fun t228 => (if 1 < (x11_4.length : Int) then (if 2 < (x11_4.length : Int) then (if 3 < (x11_4.length : Int) then (vitrineref14_Sum.l3 k4 x3_1 x4_1 x5_1 x6_3 (([Int.tmod (wrap64 ((Int.tmod (wrap64 ((wrap64 ((wrap64 ((wrap64 ((rd x11_4 7) + (Go.bits .xor .i64 (Go.bits .xor .i64 t219 t220) t221))) + (Go.bits .xor .i64 (Go.bits .and .i64 (rd x11_4 4) (rd x11_4 5)) (Go.bits .and .i64 (wrap64 (4294967295 - (rd x11_4 4))) (rd x11_4 6))))) + (rd x4_1 x12_4))) + (rd x6_3 x12_4))) 4294967296) + (Int.tmod (wrap64 ((Go.bits .xor .i64 (Go.bits .xor .i64 t226 t227) t228) + (Go.bits .xor .i64 (Go.bits .xor .i64 (Go.bits .and .i64 (rd x11_4 0) (rd x11_4 1)) (Go.bits .and .i64 (rd x11_4 0) (rd x11_4 2))) (Go.bits .and .i64 (rd x11_4 1) (rd x11_4 2))))) 4294967296))) 4294967296, rd x11_4 0, rd x11_4 1, rd x11_4 2, Int.tmod (wrap64 ((rd x11_4 3) + (Int.tmod (wrap64 ((wrap64 ((wrap64 ((wrap64 ((rd x11_4 7) + (Go.bits .xor .i64 (Go.bits .xor .i64 t219 t220) t221))) + (Go.bits .xor .i64 (Go.bits .and .i64 (rd x11_4 4) (rd x11_4 5)) (Go.bits .and .i64 (wrap64 (4294967295 - (rd x11_4 4))) (rd x11_4 6))))) + (rd x4_1 x12_4))) + (rd x6_3 x12_4))) 4294967296))) 4294967296, rd x11_4 4, rd x11_4 5, rd x11_4 6] : List Int)) (wrap64 (x12_4 + 1))) else (none)) else (none)) else (none))))) else (none)) else (none)) else (none)) else (none)) else (none)) = some r := H
             have A65 := Aside0.mk A650
             clear A650
             by_cases c66 : 5 < (x11_4.length : Int)
             rotate_left
             ·
              as_aux_lemma =>
              rw [if_neg c66] at H
              exact absurd H (by simp)
             as_aux_lemma =>
             rw [if_pos c66] at H
             have c66b0 : decide (5 < (x11_4.length : Int)) = true := decide_eq_true c66
             have c66b1 : decide (5 < x11_4.length) = true := decide_eq_true (by omega)
             clear c66
             by_cases c67 : 6 < (x11_4.length : Int)
             rotate_left
             ·
              as_aux_lemma =>
              rw [if_neg c67] at H
              exact absurd H (by simp)
             as_aux_lemma =>
             rw [if_pos c67] at H
             have c67b0 : decide (6 < (x11_4.length : Int)) = true := decide_eq_true c67
             have c67b1 : decide (6 < x11_4.length) = true := decide_eq_true (by omega)
             clear c67
             by_cases c68 : 0 ≤ x12_4
             rotate_left
             ·
              as_aux_lemma =>
              rw [if_neg c68] at H
              exact absurd H (by simp)
             as_aux_lemma =>
             rw [if_pos c68] at H
             have c68b0 : decide (0 ≤ x12_4) = true := decide_eq_true c68
             clear c68
             by_cases c69 : x12_4 < (x4_1.length : Int)
             rotate_left
             ·
              as_aux_lemma =>
              rw [if_neg c69] at H
              exact absurd H (by simp)
             as_aux_lemma =>
             rw [if_pos c69] at H
             have c69b0 : decide (x12_4 < (x4_1.length : Int)) = true := decide_eq_true c69
             clear c69
             by_cases c70 : x12_4 < (x6_3.length : Int)
             rotate_left
             ·
              as_aux_lemma =>
              rw [if_neg c70] at H
              exact absurd H (by simp)
             as_aux_lemma =>
             rw [if_pos c70] at H
             have c70b0 : decide (x12_4 < (x6_3.length : Int)) = true := decide_eq_true c70
             clear c70
             replace H := Option.bind_eq_some_iff.mp H
             obtain ⟨t226, A710, H⟩ := H
             replace H : ((vitrineref14_turned.f (rd x11_4 0) 13).bind fun t227 => ((vitrineref14_turned.f (rd x11_4 0) 22).bind fun t228 => (if 1 < (x11_4.length : Int) then (if 2 < (x11_4.length : Int) then (if 3 < (x11_4.length : Int) then (vitrineref14_Sum.l3 k4 x3_1 x4_1 x5_1 x6_3 (([Int.tmod (wrap64 ((Int.tmod (wrap64 ((wrap64 ((wrap64 ((wrap64 ((rd x11_4 7) + (Go.bits .xor .i64 (Go.bits .xor .i64 t219 t220) t221))) + (Go.bits .xor .i64 (Go.bits .and .i64 (rd x11_4 4) (rd x11_4 5)) (Go.bits .and .i64 (wrap64 (4294967295 - (rd x11_4 4))) (rd x11_4 6))))) + (rd x4_1 x12_4))) + (rd x6_3 x12_4))) 4294967296) + (Int.tmod (wrap64 ((Go.bits .xor .i64 (Go.bits .xor .i64 t226 t227) t228) + (Go.bits .xor .i64 (Go.bits .xor .i64 (Go.bits .and .i64 (rd x11_4 0) (rd x11_4 1)) (Go.bits .and .i64 (rd x11_4 0) (rd x11_4 2))) (Go.bits .and .i64 (rd x11_4 1) (rd x11_4 2))))) 4294967296))) 4294967296, rd x11_4 0, rd x11_4 1, rd x11_4 2, Int.tmod (wrap64 ((rd x11_4 3) + (Int.tmod (wrap64 ((wrap64 ((wrap64 ((wrap64 ((rd x11_4 7) + (Go.bits .xor .i64 (Go.bits .xor .i64 t219 t220) t221))) + (Go.bits .xor .i64 (Go.bits .and .i64 (rd x11_4 4) (rd x11_4 5)) (Go.bits .and .i64 (wrap64 (4294967295 - (rd x11_4 4))) (rd x11_4 6))))) + (rd x4_1 x12_4))) + (rd x6_3 x12_4))) 4294967296))) 4294967296, rd x11_4 4, rd x11_4 5, rd x11_4 6] : List Int)) (wrap64 (x12_4 + 1))) else (none)) else (none)) else (none)))) = some r := H
             have A71 := Aside0.mk A710
             clear A710
             replace H := Option.bind_eq_some_iff.mp H
             obtain ⟨t227, A720, H⟩ := H
             replace H : ((vitrineref14_turned.f (rd x11_4 0) 22).bind fun t228 => (if 1 < (x11_4.length : Int) then (if 2 < (x11_4.length : Int) then (if 3 < (x11_4.length : Int) then (vitrineref14_Sum.l3 k4 x3_1 x4_1 x5_1 x6_3 (([Int.tmod (wrap64 ((Int.tmod (wrap64 ((wrap64 ((wrap64 ((wrap64 ((rd x11_4 7) + (Go.bits .xor .i64 (Go.bits .xor .i64 t219 t220) t221))) + (Go.bits .xor .i64 (Go.bits .and .i64 (rd x11_4 4) (rd x11_4 5)) (Go.bits .and .i64 (wrap64 (4294967295 - (rd x11_4 4))) (rd x11_4 6))))) + (rd x4_1 x12_4))) + (rd x6_3 x12_4))) 4294967296) + (Int.tmod (wrap64 ((Go.bits .xor .i64 (Go.bits .xor .i64 t226 t227) t228) + (Go.bits .xor .i64 (Go.bits .xor .i64 (Go.bits .and .i64 (rd x11_4 0) (rd x11_4 1)) (Go.bits .and .i64 (rd x11_4 0) (rd x11_4 2))) (Go.bits .and .i64 (rd x11_4 1) (rd x11_4 2))))) 4294967296))) 4294967296, rd x11_4 0, rd x11_4 1, rd x11_4 2, Int.tmod (wrap64 ((rd x11_4 3) + (Int.tmod (wrap64 ((wrap64 ((wrap64 ((wrap64 ((rd x11_4 7) + (Go.bits .xor .i64 (Go.bits .xor .i64 t219 t220) t221))) + (Go.bits .xor .i64 (Go.bits .and .i64 (rd x11_4 4) (rd x11_4 5)) (Go.bits .and .i64 (wrap64 (4294967295 - (rd x11_4 4))) (rd x11_4 6))))) + (rd x4_1 x12_4))) + (rd x6_3 x12_4))) 4294967296))) 4294967296, rd x11_4 4, rd x11_4 5, rd x11_4 6] : List Int)) (wrap64 (x12_4 + 1))) else (none)) else (none)) else (none))) = some r := H
             have A72 := Aside0.mk A720
             clear A720
             replace H := Option.bind_eq_some_iff.mp H
             obtain ⟨t228, A730, H⟩ := H
             replace H : (if 1 < (x11_4.length : Int) then (if 2 < (x11_4.length : Int) then (if 3 < (x11_4.length : Int) then (vitrineref14_Sum.l3 k4 x3_1 x4_1 x5_1 x6_3 (([Int.tmod (wrap64 ((Int.tmod (wrap64 ((wrap64 ((wrap64 ((wrap64 ((rd x11_4 7) + (Go.bits .xor .i64 (Go.bits .xor .i64 t219 t220) t221))) + (Go.bits .xor .i64 (Go.bits .and .i64 (rd x11_4 4) (rd x11_4 5)) (Go.bits .and .i64 (wrap64 (4294967295 - (rd x11_4 4))) (rd x11_4 6))))) + (rd x4_1 x12_4))) + (rd x6_3 x12_4))) 4294967296) + (Int.tmod (wrap64 ((Go.bits .xor .i64 (Go.bits .xor .i64 t226 t227) t228) + (Go.bits .xor .i64 (Go.bits .xor .i64 (Go.bits .and .i64 (rd x11_4 0) (rd x11_4 1)) (Go.bits .and .i64 (rd x11_4 0) (rd x11_4 2))) (Go.bits .and .i64 (rd x11_4 1) (rd x11_4 2))))) 4294967296))) 4294967296, rd x11_4 0, rd x11_4 1, rd x11_4 2, Int.tmod (wrap64 ((rd x11_4 3) + (Int.tmod (wrap64 ((wrap64 ((wrap64 ((wrap64 ((rd x11_4 7) + (Go.bits .xor .i64 (Go.bits .xor .i64 t219 t220) t221))) + (Go.bits .xor .i64 (Go.bits .and .i64 (rd x11_4 4) (rd x11_4 5)) (Go.bits .and .i64 (wrap64 (4294967295 - (rd x11_4 4))) (rd x11_4 6))))) + (rd x4_1 x12_4))) + (rd x6_3 x12_4))) 4294967296))) 4294967296, rd x11_4 4, rd x11_4 5, rd x11_4 6] : List Int)) (wrap64 (x12_4 + 1))) else (none)) else (none)) else (none)) = some r := H
             have A73 := Aside0.mk A730
             clear A730
             by_cases c74 : 1 < (x11_4.length : Int)
             rotate_left
             ·
              as_aux_lemma =>
              rw [if_neg c74] at H
              exact absurd H (by simp)
             as_aux_lemma =>
             rw [if_pos c74] at H
             have c74b0 : decide (1 < (x11_4.length : Int)) = true := decide_eq_true c74
             have c74b1 : decide (1 < x11_4.length) = true := decide_eq_true (by omega)
             clear c74
             by_cases c75 : 2 < (x11_4.length : Int)
             rotate_left
             ·
              as_aux_lemma =>
              rw [if_neg c75] at H
              exact absurd H (by simp)
             as_aux_lemma =>
             rw [if_pos c75] at H
             have c75b0 : decide (2 < (x11_4.length : Int)) = true := decide_eq_true c75
             have c75b1 : decide (2 < x11_4.length) = true := decide_eq_true (by omega)
             clear c75
             by_cases c76 : 3 < (x11_4.length : Int)
             rotate_left
             ·
              as_aux_lemma =>
              rw [if_neg c76] at H
              exact absurd H (by simp)
             as_aux_lemma =>
             rw [if_pos c76] at H
             have c76b0 : decide (3 < (x11_4.length : Int)) = true := decide_eq_true c76
             have c76b1 : decide (3 < x11_4.length) = true := decide_eq_true (by omega)
             clear c76
             obtain ⟨y240, hy240⟩ : ∃ y_ : List Int, y_ = (([Int.tmod (wrap64 ((Int.tmod (wrap64 ((wrap64 ((wrap64 ((wrap64 ((rd x11_4 7) + (Go.bits .xor .i64 (Go.bits .xor .i64 t219 t220) t221))) + (Go.bits .xor .i64 (Go.bits .and .i64 (rd x11_4 4) (rd x11_4 5)) (Go.bits .and .i64 (wrap64 (4294967295 - (rd x11_4 4))) (rd x11_4 6))))) + (rd x4_1 x12_4))) + (rd x6_3 x12_4))) 4294967296) + (Int.tmod (wrap64 ((Go.bits .xor .i64 (Go.bits .xor .i64 t226 t227) t228) + (Go.bits .xor .i64 (Go.bits .xor .i64 (Go.bits .and .i64 (rd x11_4 0) (rd x11_4 1)) (Go.bits .and .i64 (rd x11_4 0) (rd x11_4 2))) (Go.bits .and .i64 (rd x11_4 1) (rd x11_4 2))))) 4294967296))) 4294967296, rd x11_4 0, rd x11_4 1, rd x11_4 2, Int.tmod (wrap64 ((rd x11_4 3) + (Int.tmod (wrap64 ((wrap64 ((wrap64 ((wrap64 ((rd x11_4 7) + (Go.bits .xor .i64 (Go.bits .xor .i64 t219 t220) t221))) + (Go.bits .xor .i64 (Go.bits .and .i64 (rd x11_4 4) (rd x11_4 5)) (Go.bits .and .i64 (wrap64 (4294967295 - (rd x11_4 4))) (rd x11_4 6))))) + (rd x4_1 x12_4))) + (rd x6_3 x12_4))) 4294967296))) 4294967296, rd x11_4 4, rd x11_4 5, rd x11_4 6] : List Int)) := ⟨_, rfl⟩
             replace H : (vitrineref14_Sum.l3 k4 x3_1 x4_1 x5_1 x6_3 y240 (wrap64 (x12_4 + 1))) = some r := by first | (rw [hy240]; with_reducible exact H) | (have H2_ := (Option.bind_some _ _).symm.trans H; rw [hy240]; with_reducible exact H2_) | (have H2_ := (Option.bind_some _ _).symm.trans H; with_reducible exact H2_) | with_reducible exact H | (rw [hy240]; exact H) | exact H
             have Ny240 := Aside0.mk hy240
             clear hy240
             have H' := Aside0.mk H
             clear H
             obtain ⟨Ao77, co77, eo77⟩ := Kd.R_slice HO_11.out
             subst eo77
             have p216 : 0 ≤ (0 : Int) := (by omega)
             have q216 : 0 < (x11_4.length : Int) := of_decide_eq_true (by first | (with_reducible assumption) | assumption)
             obtain ⟨ad216, e216, hx216_0⟩ := Kd.at_int (Kd.R_reads' HO_11.out).2.2 0 p216 q216
             cases e216
             have qi216 : (0 < x11_4.length) = True := eq_true (by omega)
             (try rw [show ((0 : Int)).toNat = 0 from rfl] at hx216_0)
             (try rw [Addr.add_zero'] at hx216_0)
             replace p216 := eq_true p216
             replace q216 := eq_true q216
             have p217 : 0 ≤ (4 : Int) := (by omega)
             have q217 : 4 < (x11_4.length : Int) := of_decide_eq_true (by first | (with_reducible assumption) | assumption)
             obtain ⟨ad217, e217, hx217_0⟩ := Kd.at_int (Kd.R_reads' HO_11.out).2.2 4 p217 q217
             obtain rfl : ad216 = ad217 := (by injection e217)
             (try simp only [show (4 : Int).toNat = 4 from rfl, Nat.reduceMul, Nat.reduceEqDiff, Go.Addr.add, ↓reduceIte] at hx217_0)
             have qi217 : (4 < x11_4.length) = True := eq_true (by omega)
             (try rw [show ((4 : Int)).toNat = 4 from rfl] at hx217_0)
             replace p217 := eq_true p217
             replace q217 := eq_true q217
             try go_wp2
             have n0_ := Aside0.mk (Kd.R_drew HO_3.out)
             have n1_ := Aside0.mk (Kd.R_drew HO_4.out)
             have n2_ := Aside0.mk (Go.Proofs.YtbonmhgihedjpaaM.QM_drew HO_5.out)
             have n3_ := Aside0.mk (Kd.R_drew HO_6.out)
             have n4_ := Aside0.mk (Kd.R_drew HO_11.out)
             have n5_ := Aside0.mk (below_drew1 HB.out)
             clear HO_3
             clear HO_4
             clear HO_5
             clear HO_6
             clear HO_11
             clear HB
             have HO_3 := n0_
             have HO_4 := n1_
             have HO_5 := n2_
             have HO_6 := n3_
             have HO_11 := n4_
             have HB := n5_
             clear n0_ n1_ n2_ n3_ n4_ n5_
             have p218 : 0 ≤ (7 : Int) := (by omega)
             have q218 : 7 < (x11_4.length : Int) := of_decide_eq_true (by first | (with_reducible assumption) | assumption)
             obtain ⟨ad218, e218, hx218_0⟩ := Kd.at_int (Kd.R_reads' HO_11.out).2.2 7 p218 q218
             obtain rfl : ad216 = ad218 := (by injection e218)
             (try simp only [show (7 : Int).toNat = 7 from rfl, Nat.reduceMul, Nat.reduceEqDiff, Go.Addr.add, ↓reduceIte] at hx218_0)
             have qi218 : (7 < x11_4.length) = True := eq_true (by omega)
             (try rw [show ((7 : Int)).toNat = 7 from rfl] at hx218_0)
             replace p218 := eq_true p218
             replace q218 := eq_true q218
             have p222 : 0 ≤ (5 : Int) := (by omega)
             have q222 : 5 < (x11_4.length : Int) := of_decide_eq_true (by first | (with_reducible assumption) | assumption)
             obtain ⟨ad222, e222, hx222_0⟩ := Kd.at_int (Kd.R_reads' HO_11.out).2.2 5 p222 q222
             obtain rfl : ad216 = ad222 := (by injection e222)
             (try simp only [show (5 : Int).toNat = 5 from rfl, Nat.reduceMul, Nat.reduceEqDiff, Go.Addr.add, ↓reduceIte] at hx222_0)
             have qi222 : (5 < x11_4.length) = True := eq_true (by omega)
             (try rw [show ((5 : Int)).toNat = 5 from rfl] at hx222_0)
             replace p222 := eq_true p222
             replace q222 := eq_true q222
             have p223 : 0 ≤ (6 : Int) := (by omega)
             have q223 : 6 < (x11_4.length : Int) := of_decide_eq_true (by first | (with_reducible assumption) | assumption)
             obtain ⟨ad223, e223, hx223_0⟩ := Kd.at_int (Kd.R_reads' HO_11.out).2.2 6 p223 q223
             obtain rfl : ad216 = ad223 := (by injection e223)
             (try simp only [show (6 : Int).toNat = 6 from rfl, Nat.reduceMul, Nat.reduceEqDiff, Go.Addr.add, ↓reduceIte] at hx223_0)
             have qi223 : (6 < x11_4.length) = True := eq_true (by omega)
             (try rw [show ((6 : Int)).toNat = 6 from rfl] at hx223_0)
             replace p223 := eq_true p223
             replace q223 := eq_true q223
             obtain ⟨Ao79, co79, eo79⟩ := Kd.R_slice HO_4.out
             (first | subst eo79 | (injection eo79 with f1_ f2_ f3_; have f4_ := f1_.symm; have f5_ := f3_.symm; clear f1_ f2_ f3_; subst f4_; subst f5_))
             have p224 : 0 ≤ (x12_4 : Int) := of_decide_eq_true (by first | (with_reducible assumption) | assumption)
             have q224 : x12_4 < (x4_1.length : Int) := of_decide_eq_true (by first | (with_reducible assumption) | assumption)
             obtain ⟨ad224, e224, hx224_0⟩ := Kd.at_int (Kd.R_reads' HO_4.out).2.2 x12_4 p224 q224
             cases e224
             replace p224 := eq_true p224
             replace q224 := eq_true q224
             obtain ⟨Ao80, co80, eo80⟩ := Kd.R_slice HO_6.out
             (first | subst eo80 | (injection eo80 with f1_ f2_ f3_; have f4_ := f1_.symm; have f5_ := f3_.symm; clear f1_ f2_ f3_; subst f4_; subst f5_))
             have p225 : 0 ≤ (x12_4 : Int) := of_decide_eq_true (by first | (with_reducible assumption) | assumption)
             have q225 : x12_4 < (x6_3.length : Int) := of_decide_eq_true (by first | (with_reducible assumption) | assumption)
             obtain ⟨ad225, e225, hx225_0⟩ := Kd.at_int (Kd.R_reads' HO_6.out).2.2 x12_4 p225 q225
             cases e225
             replace p225 := eq_true p225
             replace q225 := eq_true q225
             refine start_ (n := 37) (S := fun w' => w'.cell? ⟨ad216.block, ad216.off + 7, none⟩ = some (.int .i64 (rd x11_4 7)) ∧ w'.cell? ⟨ad216.block, ad216.off + 5, none⟩ = some (.int .i64 (rd x11_4 5)) ∧ w'.cell? ⟨ad216.block, ad216.off + 6, none⟩ = some (.int .i64 (rd x11_4 6)) ∧ w'.cell? (ad224.add (x12_4).toNat) = some (.int .i64 (rd x4_1 x12_4)) ∧ w'.cell? (ad225.add (x12_4).toNat) = some (.int .i64 (rd x6_3 x12_4))) (ds := []) #[F_, F_, F_, F_, F_, F_, F_, F_, F_, F_, F_, F_, F_, F_, F_, F_, F_, F_, F_, F_, F_, F_, F_, F_, F_, F_, F_, F_, F_, F_, F_, F_, F_, F_, F_, F_, F_] (by kernel_rfl) rfl rfl ⟨hx218_0, hx222_0, hx223_0, hx224_0, hx225_0⟩ (fun hHeld => ?_); refine with_tabW vitrineref14_Sum.tab22 vitrineref14_Sum.bits22 (fun HT_ HW_ => ?_)
             generalize wr.drew = w78 at HO_3 HO_4 HO_5 HO_6 HO_11 HB hx218_0 hx222_0 hx223_0 hx224_0 hx225_0 hHeld ⊢
             refine pure_ (i := 0) (N := some 128) (v := ?_) (a' := ?_) #[T_, F_, F_, F_, F_, F_, F_, F_, F_, F_, F_, F_, F_, F_, F_, F_, F_, F_, F_, F_, F_, F_, F_, F_, F_, F_, F_, F_, F_, F_, F_, F_, F_, F_, F_, F_, F_] rfl rfl (any_of HT_.out (by kernel_rfl)) (fun _ _ _ h => h) (Or.inl ⟨by rfl, ?_⟩) ?_ ?_
             rotate_left; (focus (intro w'; go_simp; with_reducible rfl))
             rotate_left; (focus (simp only [Act.put, zq1, zq2, zq3, i64_w, i32_w]; rfl))
             refine pure_ (i := 1) (N := some 129) (v := ?_) (a' := ?_) #[T_, T_, F_, F_, F_, F_, F_, F_, F_, F_, F_, F_, F_, F_, F_, F_, F_, F_, F_, F_, F_, F_, F_, F_, F_, F_, F_, F_, F_, F_, F_, F_, F_, F_, F_, F_, F_] rfl rfl (any_of HT_.out (by kernel_rfl)) (fun _ _ _ h => h) (Or.inl ⟨by rfl, ?_⟩) ?_ ?_
             rotate_left; (focus (intro w'; go_simp; with_reducible rfl))
             rotate_left; (focus (simp only [Act.put, zq1, zq2, zq3, i64_w, i32_w]; rfl))
             refine pure_ (i := 3) (N := some 131) (v := ?_) (a' := ?_) #[T_, T_, F_, T_, F_, F_, F_, F_, F_, F_, F_, F_, F_, F_, F_, F_, F_, F_, F_, F_, F_, F_, F_, F_, F_, F_, F_, F_, F_, F_, F_, F_, F_, F_, F_, F_, F_] rfl rfl (any_of HT_.out (by kernel_rfl)) (fun _ _ _ h => h) (Or.inl ⟨by rfl, ?_⟩) ?_ ?_
             rotate_left; (focus (intro w'; go_simp; with_reducible rfl))
             rotate_left; (focus (simp only [Act.put, zq1, zq2, zq3, i64_w, i32_w]; rfl))
             refine pure_ (i := 5) (N := some 133) (v := ?_) (a' := ?_) #[T_, T_, F_, T_, F_, T_, F_, F_, F_, F_, F_, F_, F_, F_, F_, F_, F_, F_, F_, F_, F_, F_, F_, F_, F_, F_, F_, F_, F_, F_, F_, F_, F_, F_, F_, F_, F_] rfl rfl (any_of HT_.out (by kernel_rfl)) (fun _ _ _ h => h) (Or.inl ⟨by rfl, ?_⟩) ?_ ?_
             rotate_left; (focus (intro w'; go_simp; with_reducible rfl))
             rotate_left; (focus (simp only [Act.put, zq1, zq2, zq3, i64_w, i32_w]; rfl))
             refine pure_ (i := 8) (N := some 136) (v := ?_) (a' := ?_) #[T_, T_, F_, T_, F_, T_, F_, F_, T_, F_, F_, F_, F_, F_, F_, F_, F_, F_, F_, F_, F_, F_, F_, F_, F_, F_, F_, F_, F_, F_, F_, F_, F_, F_, F_, F_, F_] rfl rfl (any_of HT_.out (by kernel_rfl)) (fun _ _ _ h => h) (Or.inl ⟨by rfl, ?_⟩) ?_ ?_
             rotate_left; (focus (intro w'; go_simp; with_reducible rfl))
             rotate_left; (focus (simp only [Act.put, zq1, zq2, zq3, i64_w, i32_w]; rfl))
             refine pure_ (i := 12) (N := some 140) (v := ?_) (a' := ?_) #[T_, T_, F_, T_, F_, T_, F_, F_, T_, F_, F_, F_, T_, F_, F_, F_, F_, F_, F_, F_, F_, F_, F_, F_, F_, F_, F_, F_, F_, F_, F_, F_, F_, F_, F_, F_, F_] rfl rfl (any_of HT_.out (by kernel_rfl)) (fun _ _ _ h => h) (Or.inl ⟨by rfl, ?_⟩) ?_ ?_
             rotate_left; (focus (intro w'; go_simp; with_reducible rfl))
             rotate_left; (focus (simp only [Act.put, zq1, zq2, zq3, i64_w, i32_w]; rfl))
             refine pure_ (i := 13) (N := some 141) (v := ?_) (a' := ?_) #[T_, T_, F_, T_, F_, T_, F_, F_, T_, F_, F_, F_, T_, T_, F_, F_, F_, F_, F_, F_, F_, F_, F_, F_, F_, F_, F_, F_, F_, F_, F_, F_, F_, F_, F_, F_, F_] rfl rfl (any_of HT_.out (by kernel_rfl)) (fun _ _ _ h => h) (Or.inl ⟨by rfl, ?_⟩) ?_ ?_
             rotate_left; (focus (intro w'; go_simp; with_reducible rfl))
             rotate_left; (focus (simp only [Act.put, zq1, zq2, zq3, i64_w, i32_w]; rfl))
             refine pure_ (i := 14) (N := some 142) (v := ?_) (a' := ?_) #[T_, T_, F_, T_, F_, T_, F_, F_, T_, F_, F_, F_, T_, T_, T_, F_, F_, F_, F_, F_, F_, F_, F_, F_, F_, F_, F_, F_, F_, F_, F_, F_, F_, F_, F_, F_, F_] rfl rfl (any_of HT_.out (by kernel_rfl)) (fun _ _ _ h => h) (Or.inl ⟨by rfl, ?_⟩) ?_ ?_
             rotate_left; (focus (intro w'; go_simp; with_reducible rfl))
             rotate_left; (focus (simp only [Act.put, zq1, zq2, zq3, i64_w, i32_w]; rfl))
             refine pure_ (i := 17) (N := some 145) (v := ?_) (a' := ?_) #[T_, T_, F_, T_, F_, T_, F_, F_, T_, F_, F_, F_, T_, T_, T_, F_, F_, T_, F_, F_, F_, F_, F_, F_, F_, F_, F_, F_, F_, F_, F_, F_, F_, F_, F_, F_, F_] rfl rfl (any_of HT_.out (by kernel_rfl)) (fun _ _ _ h => h) (Or.inl ⟨by rfl, ?_⟩) ?_ ?_
             rotate_left; (focus (intro w'; go_simp; with_reducible rfl))
             rotate_left; (focus (simp only [Act.put, zq1, zq2, zq3, i64_w, i32_w]; rfl))
             refine pure_ (i := 18) (N := some 146) (v := ?_) (a' := ?_) #[T_, T_, F_, T_, F_, T_, F_, F_, T_, F_, F_, F_, T_, T_, T_, F_, F_, T_, T_, F_, F_, F_, F_, F_, F_, F_, F_, F_, F_, F_, F_, F_, F_, F_, F_, F_, F_] rfl rfl (any_of HT_.out (by kernel_rfl)) (fun _ _ _ h => h) (Or.inl ⟨by rfl, ?_⟩) ?_ ?_
             rotate_left; (focus (intro w'; go_simp; with_reducible rfl))
             rotate_left; (focus (simp only [Act.put, zq1, zq2, zq3, i64_w, i32_w]; rfl))
             refine pure_ (i := 19) (N := some 147) (v := ?_) (a' := ?_) #[T_, T_, F_, T_, F_, T_, F_, F_, T_, F_, F_, F_, T_, T_, T_, F_, F_, T_, T_, T_, F_, F_, F_, F_, F_, F_, F_, F_, F_, F_, F_, F_, F_, F_, F_, F_, F_] rfl rfl (any_of HT_.out (by kernel_rfl)) (fun _ _ _ h => h) (Or.inl ⟨by rfl, ?_⟩) ?_ ?_
             rotate_left; (focus (intro w'; go_simp; with_reducible rfl))
             rotate_left; (focus (simp only [Act.put, zq1, zq2, zq3, i64_w, i32_w]; rfl))
             refine pure_ (i := 20) (N := some 148) (v := ?_) (a' := ?_) #[T_, T_, F_, T_, F_, T_, F_, F_, T_, F_, F_, F_, T_, T_, T_, F_, F_, T_, T_, T_, T_, F_, F_, F_, F_, F_, F_, F_, F_, F_, F_, F_, F_, F_, F_, F_, F_] rfl rfl (any_of HT_.out (by kernel_rfl)) (fun _ _ _ h => h) (Or.inl ⟨by rfl, ?_⟩) ?_ ?_
             rotate_left; (focus (intro w'; go_simp; with_reducible rfl))
             rotate_left; (focus (simp only [Act.put, zq1, zq2, zq3, i64_w, i32_w]; rfl))
             refine pure_ (i := 25) (N := some 153) (v := ?_) (a' := ?_) #[T_, T_, F_, T_, F_, T_, F_, F_, T_, F_, F_, F_, T_, T_, T_, F_, F_, T_, T_, T_, T_, F_, F_, F_, F_, T_, F_, F_, F_, F_, F_, F_, F_, F_, F_, F_, F_] rfl rfl (any_of HT_.out (by kernel_rfl)) (fun _ _ _ h => h) (Or.inl ⟨by rfl, ?_⟩) ?_ ?_
             rotate_left; (focus (intro w'; go_simp; with_reducible rfl))
             rotate_left; (focus (simp only [Act.put, zq1, zq2, zq3, i64_w, i32_w]; rfl))
             refine pure_ (i := 26) (N := some 154) (v := ?_) (a' := ?_) #[T_, T_, F_, T_, F_, T_, F_, F_, T_, F_, F_, F_, T_, T_, T_, F_, F_, T_, T_, T_, T_, F_, F_, F_, F_, T_, T_, F_, F_, F_, F_, F_, F_, F_, F_, F_, F_] rfl rfl (any_of HT_.out (by kernel_rfl)) (fun _ _ _ h => h) (Or.inl ⟨by rfl, ?_⟩) ?_ ?_
             rotate_left; (focus (intro w'; go_simp; with_reducible rfl))
             rotate_left; (focus (simp only [Act.put, zq1, zq2, zq3, i64_w, i32_w]; rfl))
             refine pure_ (i := 27) (N := some 155) (v := ?_) (a' := ?_) #[T_, T_, F_, T_, F_, T_, F_, F_, T_, F_, F_, F_, T_, T_, T_, F_, F_, T_, T_, T_, T_, F_, F_, F_, F_, T_, T_, T_, F_, F_, F_, F_, F_, F_, F_, F_, F_] rfl rfl (any_of HT_.out (by kernel_rfl)) (fun _ _ _ h => h) (Or.inl ⟨by rfl, ?_⟩) ?_ ?_
             rotate_left; (focus (intro w'; go_simp; with_reducible rfl))
             rotate_left; (focus (simp only [Act.put, zq1, zq2, zq3, i64_w, i32_w]; rfl))
             refine pure_ (i := 30) (N := some 158) (v := ?_) (a' := ?_) #[T_, T_, F_, T_, F_, T_, F_, F_, T_, F_, F_, F_, T_, T_, T_, F_, F_, T_, T_, T_, T_, F_, F_, F_, F_, T_, T_, T_, F_, F_, T_, F_, F_, F_, F_, F_, F_] rfl rfl (any_of HT_.out (by kernel_rfl)) (fun _ _ _ h => h) (Or.inl ⟨by rfl, ?_⟩) ?_ ?_
             rotate_left; (focus (intro w'; go_simp; with_reducible rfl))
             rotate_left; (focus (simp only [Act.put, zq1, zq2, zq3, i64_w, i32_w]; rfl))
             refine pure_ (i := 31) (N := some 159) (v := ?_) (a' := ?_) #[T_, T_, F_, T_, F_, T_, F_, F_, T_, F_, F_, F_, T_, T_, T_, F_, F_, T_, T_, T_, T_, F_, F_, F_, F_, T_, T_, T_, F_, F_, T_, T_, F_, F_, F_, F_, F_] rfl rfl (any_of HT_.out (by kernel_rfl)) (fun _ _ _ h => h) (Or.inl ⟨by rfl, ?_⟩) ?_ ?_
             rotate_left; (focus (intro w'; go_simp; with_reducible rfl))
             rotate_left; (focus (simp only [Act.put, zq1, zq2, zq3, i64_w, i32_w]; rfl))
             refine pure_ (i := 32) (N := some 160) (v := ?_) (a' := ?_) #[T_, T_, F_, T_, F_, T_, F_, F_, T_, F_, F_, F_, T_, T_, T_, F_, F_, T_, T_, T_, T_, F_, F_, F_, F_, T_, T_, T_, F_, F_, T_, T_, T_, F_, F_, F_, F_] rfl rfl (any_of HT_.out (by kernel_rfl)) (fun _ _ _ h => h) (Or.inl ⟨by rfl, ?_⟩) ?_ ?_
             rotate_left; (focus (intro w'; go_simp; with_reducible rfl))
             rotate_left; (focus (simp only [Act.put, zq1, zq2, zq3, i64_w, i32_w]; rfl))
             refine take_ (i := 2) (N := some 130) (v := ?_) (a' := ?_) #[T_, T_, T_, T_, F_, T_, F_, F_, T_, F_, F_, F_, T_, T_, T_, F_, F_, T_, T_, T_, T_, F_, F_, F_, F_, T_, T_, T_, F_, F_, T_, T_, T_, F_, F_, F_, F_] rfl rfl (take_ofW HT_.out HW_.out (by kernel_rfl)) (fun _ _ _ h => h) (Or.inl ⟨by rfl, ?_⟩) hHeld ?_ ?_
             rotate_left; (focus (rintro w' ⟨s0, s1, s2, s3, s4⟩; go_simp; with_reducible rfl))
             rotate_left; (focus (simp only [Act.put, zq1, zq2, zq3, i64_w, i32_w]; rfl))
             refine take_ (i := 15) (N := some 143) (v := ?_) (a' := ?_) #[T_, T_, T_, T_, F_, T_, F_, F_, T_, F_, F_, F_, T_, T_, T_, T_, F_, T_, T_, T_, T_, F_, F_, F_, F_, T_, T_, T_, F_, F_, T_, T_, T_, F_, F_, F_, F_] rfl rfl (take_ofW HT_.out HW_.out (by kernel_rfl)) (fun _ _ _ h => h) (Or.inl ⟨by rfl, ?_⟩) hHeld ?_ ?_
             rotate_left; (focus (rintro w' ⟨s0, s1, s2, s3, s4⟩; go_simp; with_reducible rfl))
             rotate_left; (focus (simp only [Act.put, zq1, zq2, zq3, i64_w, i32_w]; rfl))
             refine pure_ (i := 16) (N := some 144) (v := ?_) (a' := ?_) #[T_, T_, T_, T_, F_, T_, F_, F_, T_, F_, F_, F_, T_, T_, T_, T_, T_, T_, T_, T_, T_, F_, F_, F_, F_, T_, T_, T_, F_, F_, T_, T_, T_, F_, F_, F_, F_] rfl rfl (any_of HT_.out (by kernel_rfl)) (fun _ _ _ h => h) (Or.inl ⟨by rfl, ?_⟩) ?_ ?_
             rotate_left; (focus (intro w'; go_simp; with_reducible rfl))
             rotate_left; (focus (simp only [Act.put, zq1, zq2, zq3, i64_w, i32_w]; rfl))
             refine take_ (i := 21) (N := some 149) (v := ?_) (a' := ?_) #[T_, T_, T_, T_, F_, T_, F_, F_, T_, F_, F_, F_, T_, T_, T_, T_, T_, T_, T_, T_, T_, T_, F_, F_, F_, T_, T_, T_, F_, F_, T_, T_, T_, F_, F_, F_, F_] rfl rfl (take_ofW HT_.out HW_.out (by kernel_rfl)) (fun _ _ _ h => h) (Or.inl ⟨by rfl, ?_⟩) hHeld ?_ ?_
             rotate_left; (focus (rintro w' ⟨s0, s1, s2, s3, s4⟩; go_simp; with_reducible rfl))
             rotate_left; (focus (simp only [Act.put, zq1, zq2, zq3, i64_w, i32_w]; rfl))
             refine pure_ (i := 22) (N := some 150) (v := ?_) (a' := ?_) #[T_, T_, T_, T_, F_, T_, F_, F_, T_, F_, F_, F_, T_, T_, T_, T_, T_, T_, T_, T_, T_, T_, T_, F_, F_, T_, T_, T_, F_, F_, T_, T_, T_, F_, F_, F_, F_] rfl rfl (any_of HT_.out (by kernel_rfl)) (fun _ _ _ h => h) (Or.inl ⟨by rfl, ?_⟩) ?_ ?_
             rotate_left; (focus (intro w'; go_simp; with_reducible rfl))
             rotate_left; (focus (simp only [Act.put, zq1, zq2, zq3, i64_w, i32_w]; rfl))
             refine pure_ (i := 23) (N := some 151) (v := ?_) (a' := ?_) #[T_, T_, T_, T_, F_, T_, F_, F_, T_, F_, F_, F_, T_, T_, T_, T_, T_, T_, T_, T_, T_, T_, T_, T_, F_, T_, T_, T_, F_, F_, T_, T_, T_, F_, F_, F_, F_] rfl rfl (any_of HT_.out (by kernel_rfl)) (fun _ _ _ h => h) (Or.inl ⟨by rfl, ?_⟩) ?_ ?_
             rotate_left; (focus (intro w'; go_simp; with_reducible rfl))
             rotate_left; (focus (simp only [Act.put, zq1, zq2, zq3, i64_w, i32_w]; rfl))
             refine take_ (i := 28) (N := some 156) (v := ?_) (a' := ?_) #[T_, T_, T_, T_, F_, T_, F_, F_, T_, F_, F_, F_, T_, T_, T_, T_, T_, T_, T_, T_, T_, T_, T_, T_, F_, T_, T_, T_, T_, F_, T_, T_, T_, F_, F_, F_, F_] rfl rfl (take_ofW HT_.out HW_.out (by kernel_rfl)) (fun _ _ _ h => h) (Or.inl ⟨by rfl, ?_⟩) hHeld ?_ ?_
             rotate_left; (focus (rintro w' ⟨s0, s1, s2, s3, s4⟩; go_simp; with_reducible rfl))
             rotate_left; (focus (simp only [Act.put, zq1, zq2, zq3, i64_w, i32_w]; rfl))
             refine take_ (i := 33) (N := some 161) (v := ?_) (a' := ?_) #[T_, T_, T_, T_, F_, T_, F_, F_, T_, F_, F_, F_, T_, T_, T_, T_, T_, T_, T_, T_, T_, T_, T_, T_, F_, T_, T_, T_, T_, F_, T_, T_, T_, T_, F_, F_, F_] rfl rfl (take_ofW HT_.out HW_.out (by kernel_rfl)) (fun _ _ _ h => h) (Or.inl ⟨by rfl, ?_⟩) hHeld ?_ ?_
             rotate_left; (focus (rintro w' ⟨s0, s1, s2, s3, s4⟩; go_simp; with_reducible rfl))
             rotate_left; (focus (simp only [Act.put, zq1, zq2, zq3, i64_w, i32_w]; rfl))
             refine one_ (i := 4) (N := some 132) #[T_, T_, T_, T_, T_, T_, F_, F_, T_, F_, F_, F_, T_, T_, T_, T_, T_, T_, T_, T_, T_, T_, T_, T_, F_, T_, T_, T_, T_, F_, T_, T_, T_, T_, F_, F_, F_] rfl rfl (one_of HT_.out (by kernel_rfl)) (by decide) (fun K hK => ?_)
             refine goes_ Try.func44 (by kernel_rfl) rfl #[.int .i64 (rd x11_4 4), .int .i64 6] (by rfl) rfl rfl (by (try simp only [List.map_toArray, List.map_cons, List.map_nil]); first | done | rfl | (simp only [List.length_drop, List.length_take]; rfl) | (simp only [ByteArray.size_extract, Nat.min_self]; done) | (simp only [ByteArray.size_extract, Nat.min_self]; rfl)) ?_
             with_reducible refine (vitrineref14_turned.calls (rd x11_4 4) 6 t219 _ A63.out).mono ?_
             rintro e w' ⟨rfl, ⟨nd, rfl⟩⟩
             refine ⟨_, rfl, ?_⟩
             refine hK.out _ _ ⟨hHeld.1, hHeld.2.1, hHeld.2.2.1, hHeld.2.2.2.1, hHeld.2.2.2.2⟩ (fun hHeld => ?_)
             clear hK K
             refine norm_ (a' := ?_) ?_ ?_
             rotate_left; (focus (show Act.put _ (some 132) _ = _; simp only [Act.put, zq1, zq2, zq3, i64_w, i32_w]; rfl))
             refine one_ (i := 6) (N := some 134) #[T_, T_, T_, T_, T_, T_, T_, F_, T_, F_, F_, F_, T_, T_, T_, T_, T_, T_, T_, T_, T_, T_, T_, T_, F_, T_, T_, T_, T_, F_, T_, T_, T_, T_, F_, F_, F_] rfl rfl (one_of HT_.out (by kernel_rfl)) (by decide) (fun K hK => ?_)
             refine goes_ Try.func44 (by kernel_rfl) rfl #[.int .i64 (rd x11_4 4), .int .i64 11] (by rfl) rfl rfl (by (try simp only [List.map_toArray, List.map_cons, List.map_nil]); first | done | rfl | (simp only [List.length_drop, List.length_take]; rfl) | (simp only [ByteArray.size_extract, Nat.min_self]; done) | (simp only [ByteArray.size_extract, Nat.min_self]; rfl)) ?_
             with_reducible refine (vitrineref14_turned.calls (rd x11_4 4) 11 t220 _ A64.out).mono ?_
             rintro e w' ⟨rfl, ⟨nd, rfl⟩⟩
             refine ⟨_, rfl, ?_⟩
             refine hK.out _ _ ⟨hHeld.1, hHeld.2.1, hHeld.2.2.1, hHeld.2.2.2.1, hHeld.2.2.2.2⟩ (fun hHeld => ?_)
             clear hK K
             refine norm_ (a' := ?_) ?_ ?_
             rotate_left; (focus (show Act.put _ (some 134) _ = _; simp only [Act.put, zq1, zq2, zq3, i64_w, i32_w]; rfl))
             refine pure_ (i := 7) (N := some 135) (v := ?_) (a' := ?_) #[T_, T_, T_, T_, T_, T_, T_, T_, T_, F_, F_, F_, T_, T_, T_, T_, T_, T_, T_, T_, T_, T_, T_, T_, F_, T_, T_, T_, T_, F_, T_, T_, T_, T_, F_, F_, F_] rfl rfl (any_of HT_.out (by kernel_rfl)) (fun _ _ _ h => h) (Or.inl ⟨by rfl, ?_⟩) ?_ ?_
             rotate_left; (focus (intro w'; go_simp; with_reducible rfl))
             rotate_left; (focus (simp only [Act.put, zq1, zq2, zq3, i64_w, i32_w]; rfl))
             refine one_ (i := 9) (N := some 137) #[T_, T_, T_, T_, T_, T_, T_, T_, T_, T_, F_, F_, T_, T_, T_, T_, T_, T_, T_, T_, T_, T_, T_, T_, F_, T_, T_, T_, T_, F_, T_, T_, T_, T_, F_, F_, F_] rfl rfl (one_of HT_.out (by kernel_rfl)) (by decide) (fun K hK => ?_)
             refine goes_ Try.func44 (by kernel_rfl) rfl #[.int .i64 (rd x11_4 4), .int .i64 25] (by rfl) rfl rfl (by (try simp only [List.map_toArray, List.map_cons, List.map_nil]); first | done | rfl | (simp only [List.length_drop, List.length_take]; rfl) | (simp only [ByteArray.size_extract, Nat.min_self]; done) | (simp only [ByteArray.size_extract, Nat.min_self]; rfl)) ?_
             with_reducible refine (vitrineref14_turned.calls (rd x11_4 4) 25 t221 _ A65.out).mono ?_
             rintro e w' ⟨rfl, ⟨nd, rfl⟩⟩
             refine ⟨_, rfl, ?_⟩
             refine hK.out _ _ ⟨hHeld.1, hHeld.2.1, hHeld.2.2.1, hHeld.2.2.2.1, hHeld.2.2.2.2⟩ (fun hHeld => ?_)
             clear hK K
             refine norm_ (a' := ?_) ?_ ?_
             rotate_left; (focus (show Act.put _ (some 137) _ = _; simp only [Act.put, zq1, zq2, zq3, i64_w, i32_w]; rfl))
             refine pure_ (i := 10) (N := some 138) (v := ?_) (a' := ?_) #[T_, T_, T_, T_, T_, T_, T_, T_, T_, T_, T_, F_, T_, T_, T_, T_, T_, T_, T_, T_, T_, T_, T_, T_, F_, T_, T_, T_, T_, F_, T_, T_, T_, T_, F_, F_, F_] rfl rfl (any_of HT_.out (by kernel_rfl)) (fun _ _ _ h => h) (Or.inl ⟨by rfl, ?_⟩) ?_ ?_
             rotate_left; (focus (intro w'; go_simp; with_reducible rfl))
             rotate_left; (focus (simp only [Act.put, zq1, zq2, zq3, i64_w, i32_w]; rfl))
             refine pure_ (i := 11) (N := some 139) (v := ?_) (a' := ?_) #[T_, T_, T_, T_, T_, T_, T_, T_, T_, T_, T_, T_, T_, T_, T_, T_, T_, T_, T_, T_, T_, T_, T_, T_, F_, T_, T_, T_, T_, F_, T_, T_, T_, T_, F_, F_, F_] rfl rfl (any_of HT_.out (by kernel_rfl)) (fun _ _ _ h => h) (Or.inl ⟨by rfl, ?_⟩) ?_ ?_
             rotate_left; (focus (intro w'; go_simp; with_reducible rfl))
             rotate_left; (focus (simp only [Act.put, zq1, zq2, zq3, i64_w, i32_w]; rfl))
             refine pure_ (i := 24) (N := some 152) (v := ?_) (a' := ?_) #[T_, T_, T_, T_, T_, T_, T_, T_, T_, T_, T_, T_, T_, T_, T_, T_, T_, T_, T_, T_, T_, T_, T_, T_, T_, T_, T_, T_, T_, F_, T_, T_, T_, T_, F_, F_, F_] rfl rfl (any_of HT_.out (by kernel_rfl)) (fun _ _ _ h => h) (Or.inl ⟨by rfl, ?_⟩) ?_ ?_
             rotate_left; (focus (intro w'; go_simp; with_reducible rfl))
             rotate_left; (focus (simp only [Act.put, zq1, zq2, zq3, i64_w, i32_w]; rfl))
             refine pure_ (i := 29) (N := some 157) (v := ?_) (a' := ?_) #[T_, T_, T_, T_, T_, T_, T_, T_, T_, T_, T_, T_, T_, T_, T_, T_, T_, T_, T_, T_, T_, T_, T_, T_, T_, T_, T_, T_, T_, T_, T_, T_, T_, T_, F_, F_, F_] rfl rfl (any_of HT_.out (by kernel_rfl)) (fun _ _ _ h => h) (Or.inl ⟨by rfl, ?_⟩) ?_ ?_
             rotate_left; (focus (intro w'; go_simp; with_reducible rfl))
             rotate_left; (focus (simp only [Act.put, zq1, zq2, zq3, i64_w, i32_w]; rfl))
             refine pure_ (i := 34) (N := some 162) (v := ?_) (a' := ?_) #[T_, T_, T_, T_, T_, T_, T_, T_, T_, T_, T_, T_, T_, T_, T_, T_, T_, T_, T_, T_, T_, T_, T_, T_, T_, T_, T_, T_, T_, T_, T_, T_, T_, T_, T_, F_, F_] rfl rfl (any_of HT_.out (by kernel_rfl)) (fun _ _ _ h => h) (Or.inl ⟨by rfl, ?_⟩) ?_ ?_
             rotate_left; (focus (intro w'; go_simp; with_reducible rfl))
             rotate_left; (focus (simp only [Act.put, zq1, zq2, zq3, i64_w, i32_w]; rfl))
             refine pure_ (i := 35) (N := some 163) (v := ?_) (a' := ?_) #[T_, T_, T_, T_, T_, T_, T_, T_, T_, T_, T_, T_, T_, T_, T_, T_, T_, T_, T_, T_, T_, T_, T_, T_, T_, T_, T_, T_, T_, T_, T_, T_, T_, T_, T_, T_, F_] rfl rfl (any_of HT_.out (by kernel_rfl)) (fun _ _ _ h => h) (Or.inl ⟨by rfl, ?_⟩) ?_ ?_
             rotate_left; (focus (intro w'; go_simp; with_reducible rfl))
             rotate_left; (focus (simp only [Act.put, zq1, zq2, zq3, i64_w, i32_w]; rfl))
             refine pure_ (i := 36) (N := some 15) (v := ?_) (a' := ?_) #[T_, T_, T_, T_, T_, T_, T_, T_, T_, T_, T_, T_, T_, T_, T_, T_, T_, T_, T_, T_, T_, T_, T_, T_, T_, T_, T_, T_, T_, T_, T_, T_, T_, T_, T_, T_, T_] rfl rfl (any_of HT_.out (by kernel_rfl)) (fun _ _ _ h => h) (Or.inl ⟨by rfl, ?_⟩) ?_ ?_
             rotate_left; (focus (intro w'; go_simp; with_reducible rfl))
             rotate_left; (focus (simp only [Act.put, zq1, zq2, zq3, i64_w, i32_w]; rfl))
             refine done_ (done_of HT_.out (by kernel_rfl)) ?_
             try go_wp2
             have nX_ := Ny240.out
             clear Ny240
             obtain ⟨X_, hX_⟩ : ∃ x_ : Int, Int.tmod (wrap64 ((wrap64 ((wrap64 ((wrap64 ((rd x11_4 7) + (Go.bits .xor .i64 (Go.bits .xor .i64 t219 t220) t221))) + (Go.bits .xor .i64 (Go.bits .and .i64 (rd x11_4 4) (rd x11_4 5)) (Go.bits .and .i64 (wrap64 (4294967295 - (rd x11_4 4))) (rd x11_4 6))))) + (rd x4_1 x12_4))) + (rd x6_3 x12_4))) 4294967296 = x_ := ⟨_, rfl⟩
             rw [hX_] at nX_
             rw [hX_]
             clear hX_
             have Ny240 := Aside0.mk nX_
             clear nX_
             (try (rw [drewN_self w78]; generalize hq_ : World.drewN w78 _ = w78; have n0_ : Aside0 (Kd.R (Kd.int .i64) 3 w78 w.heap.size (fun k_ => some k_ ≠ (.slice Ao58 x3_1.length co58 : Value).ownBlock ∧ some k_ ≠ (.slice (some ad224) x4_1.length co79 : Value).ownBlock ∧ some k_ ≠ (.slice (some ad225) x6_3.length co80 : Value).ownBlock) (.slice (some ad216) x11_4.length co77) x11_4) := ⟨by rw [← hq_]; exact (by (with_reducible repeat (first | apply Kd.R_alloc | apply Kd.R_drewN | apply Kd.R_drew)); exact HO_11.out)⟩; have n1_ : Aside0 (Kd.R (Kd.int .i64) 3 w78 w.heap.size (fun k_ => some k_ ≠ (.slice (some ad216) x11_4.length co77 : Value).ownBlock ∧ some k_ ≠ (.slice (some ad224) x4_1.length co79 : Value).ownBlock ∧ some k_ ≠ (.slice (some ad225) x6_3.length co80 : Value).ownBlock) (.slice Ao58 x3_1.length co58) x3_1) := ⟨by rw [← hq_]; exact (by (with_reducible repeat (first | apply Kd.R_alloc | apply Kd.R_drewN | apply Kd.R_drew)); exact Kd.R_mono HO_3.out (fun _ hk => ⟨hk.2.2, ⟨hk.1, hk.2.1⟩⟩))⟩; have n2_ : Aside0 (Kd.R (Kd.int .i64) 3 w78 w.heap.size (fun k_ => some k_ ≠ (.slice (some ad216) x11_4.length co77 : Value).ownBlock ∧ some k_ ≠ (.slice Ao58 x3_1.length co58 : Value).ownBlock ∧ some k_ ≠ (.slice (some ad225) x6_3.length co80 : Value).ownBlock) (.slice (some ad224) x4_1.length co79) x4_1) := ⟨by rw [← hq_]; exact (by (with_reducible repeat (first | apply Kd.R_alloc | apply Kd.R_drewN | apply Kd.R_drew)); exact Kd.R_mono HO_4.out (fun _ hk => ⟨hk.2.2, ⟨hk.1, hk.2.1⟩⟩))⟩; have n3_ : Aside0 (Go.Proofs.YtbonmhgihedjpaaM.QM (Kd.int .u8) 5 w78 w.heap.size (fun _ => True) (.slice Ao10 x5_1.length co10) x5_1) := ⟨by rw [← hq_]; exact (by (with_reducible repeat (first | apply Go.Proofs.YtbonmhgihedjpaaM.QM_alloc | apply Go.Proofs.YtbonmhgihedjpaaM.QM_drewN | apply Go.Proofs.YtbonmhgihedjpaaM.QM_drew)); exact HO_5.out)⟩; have n4_ : Aside0 (Kd.R (Kd.int .i64) 3 w78 w.heap.size (fun k_ => some k_ ≠ (.slice (some ad216) x11_4.length co77 : Value).ownBlock ∧ some k_ ≠ (.slice Ao58 x3_1.length co58 : Value).ownBlock ∧ some k_ ≠ (.slice (some ad224) x4_1.length co79 : Value).ownBlock) (.slice (some ad225) x6_3.length co80) x6_3) := ⟨by rw [← hq_]; exact (by (with_reducible repeat (first | apply Kd.R_alloc | apply Kd.R_drewN | apply Kd.R_drew)); exact Kd.R_mono HO_6.out (fun _ hk => ⟨hk.2.2, ⟨hk.1, hk.2.1⟩⟩))⟩; have n5_ : Aside0 (Below w.heap.size w w78) := ⟨by rw [← hq_]; exact (by repeat (first | (with_reducible first | exact HB.out | apply below_alloc | apply pw_below_drewN | apply below_drew1) | exact HB.out))⟩; clear HO_11 HO_3 HO_4 HO_5 HO_6 HB hq_; have HO_11 := n0_; have HO_3 := n1_; have HO_4 := n2_; have HO_5 := n3_; have HO_6 := n4_; have HB := n5_; clear n0_ n1_ n2_ n3_ n4_ n5_))
             (try (rw [drewN_self w78]; generalize hq_ : World.drewN w78 _ = w78; have n0_ : Aside0 (Kd.R (Kd.int .i64) 3 w78 w.heap.size (fun k_ => some k_ ≠ (.slice Ao58 x3_1.length co58 : Value).ownBlock ∧ some k_ ≠ (.slice (some ad224) x4_1.length co79 : Value).ownBlock ∧ some k_ ≠ (.slice (some ad225) x6_3.length co80 : Value).ownBlock) (.slice (some ad216) x11_4.length co77) x11_4) := ⟨by rw [← hq_]; exact (by (with_reducible repeat (first | apply Kd.R_alloc | apply Kd.R_drewN | apply Kd.R_drew)); exact HO_11.out)⟩; have n1_ : Aside0 (Kd.R (Kd.int .i64) 3 w78 w.heap.size (fun k_ => some k_ ≠ (.slice (some ad216) x11_4.length co77 : Value).ownBlock ∧ some k_ ≠ (.slice (some ad224) x4_1.length co79 : Value).ownBlock ∧ some k_ ≠ (.slice (some ad225) x6_3.length co80 : Value).ownBlock) (.slice Ao58 x3_1.length co58) x3_1) := ⟨by rw [← hq_]; exact (by (with_reducible repeat (first | apply Kd.R_alloc | apply Kd.R_drewN | apply Kd.R_drew)); exact HO_3.out)⟩; have n2_ : Aside0 (Kd.R (Kd.int .i64) 3 w78 w.heap.size (fun k_ => some k_ ≠ (.slice (some ad216) x11_4.length co77 : Value).ownBlock ∧ some k_ ≠ (.slice Ao58 x3_1.length co58 : Value).ownBlock ∧ some k_ ≠ (.slice (some ad225) x6_3.length co80 : Value).ownBlock) (.slice (some ad224) x4_1.length co79) x4_1) := ⟨by rw [← hq_]; exact (by (with_reducible repeat (first | apply Kd.R_alloc | apply Kd.R_drewN | apply Kd.R_drew)); exact HO_4.out)⟩; have n3_ : Aside0 (Go.Proofs.YtbonmhgihedjpaaM.QM (Kd.int .u8) 5 w78 w.heap.size (fun _ => True) (.slice Ao10 x5_1.length co10) x5_1) := ⟨by rw [← hq_]; exact (by (with_reducible repeat (first | apply Go.Proofs.YtbonmhgihedjpaaM.QM_alloc | apply Go.Proofs.YtbonmhgihedjpaaM.QM_drewN | apply Go.Proofs.YtbonmhgihedjpaaM.QM_drew)); exact HO_5.out)⟩; have n4_ : Aside0 (Kd.R (Kd.int .i64) 3 w78 w.heap.size (fun k_ => some k_ ≠ (.slice (some ad216) x11_4.length co77 : Value).ownBlock ∧ some k_ ≠ (.slice Ao58 x3_1.length co58 : Value).ownBlock ∧ some k_ ≠ (.slice (some ad224) x4_1.length co79 : Value).ownBlock) (.slice (some ad225) x6_3.length co80) x6_3) := ⟨by rw [← hq_]; exact (by (with_reducible repeat (first | apply Kd.R_alloc | apply Kd.R_drewN | apply Kd.R_drew)); exact HO_6.out)⟩; have n5_ : Aside0 (Below w.heap.size w w78) := ⟨by rw [← hq_]; exact (by repeat (first | (with_reducible first | exact HB.out | apply below_alloc | apply pw_below_drewN | apply below_drew1) | exact HB.out))⟩; clear HO_11 HO_3 HO_4 HO_5 HO_6 HB hq_; have HO_11 := n0_; have HO_3 := n1_; have HO_4 := n2_; have HO_5 := n3_; have HO_6 := n4_; have HB := n5_; clear n0_ n1_ n2_ n3_ n4_ n5_))
             (try (rw [drewN_self w78]; generalize hq_ : World.drewN w78 _ = w78; have n0_ : Aside0 (Kd.R (Kd.int .i64) 3 w78 w.heap.size (fun k_ => some k_ ≠ (.slice Ao58 x3_1.length co58 : Value).ownBlock ∧ some k_ ≠ (.slice (some ad224) x4_1.length co79 : Value).ownBlock ∧ some k_ ≠ (.slice (some ad225) x6_3.length co80 : Value).ownBlock) (.slice (some ad216) x11_4.length co77) x11_4) := ⟨by rw [← hq_]; exact (by (with_reducible repeat (first | apply Kd.R_alloc | apply Kd.R_drewN | apply Kd.R_drew)); exact HO_11.out)⟩; have n1_ : Aside0 (Kd.R (Kd.int .i64) 3 w78 w.heap.size (fun k_ => some k_ ≠ (.slice (some ad216) x11_4.length co77 : Value).ownBlock ∧ some k_ ≠ (.slice (some ad224) x4_1.length co79 : Value).ownBlock ∧ some k_ ≠ (.slice (some ad225) x6_3.length co80 : Value).ownBlock) (.slice Ao58 x3_1.length co58) x3_1) := ⟨by rw [← hq_]; exact (by (with_reducible repeat (first | apply Kd.R_alloc | apply Kd.R_drewN | apply Kd.R_drew)); exact HO_3.out)⟩; have n2_ : Aside0 (Kd.R (Kd.int .i64) 3 w78 w.heap.size (fun k_ => some k_ ≠ (.slice (some ad216) x11_4.length co77 : Value).ownBlock ∧ some k_ ≠ (.slice Ao58 x3_1.length co58 : Value).ownBlock ∧ some k_ ≠ (.slice (some ad225) x6_3.length co80 : Value).ownBlock) (.slice (some ad224) x4_1.length co79) x4_1) := ⟨by rw [← hq_]; exact (by (with_reducible repeat (first | apply Kd.R_alloc | apply Kd.R_drewN | apply Kd.R_drew)); exact HO_4.out)⟩; have n3_ : Aside0 (Go.Proofs.YtbonmhgihedjpaaM.QM (Kd.int .u8) 5 w78 w.heap.size (fun _ => True) (.slice Ao10 x5_1.length co10) x5_1) := ⟨by rw [← hq_]; exact (by (with_reducible repeat (first | apply Go.Proofs.YtbonmhgihedjpaaM.QM_alloc | apply Go.Proofs.YtbonmhgihedjpaaM.QM_drewN | apply Go.Proofs.YtbonmhgihedjpaaM.QM_drew)); exact HO_5.out)⟩; have n4_ : Aside0 (Kd.R (Kd.int .i64) 3 w78 w.heap.size (fun k_ => some k_ ≠ (.slice (some ad216) x11_4.length co77 : Value).ownBlock ∧ some k_ ≠ (.slice Ao58 x3_1.length co58 : Value).ownBlock ∧ some k_ ≠ (.slice (some ad224) x4_1.length co79 : Value).ownBlock) (.slice (some ad225) x6_3.length co80) x6_3) := ⟨by rw [← hq_]; exact (by (with_reducible repeat (first | apply Kd.R_alloc | apply Kd.R_drewN | apply Kd.R_drew)); exact HO_6.out)⟩; have n5_ : Aside0 (Below w.heap.size w w78) := ⟨by rw [← hq_]; exact (by repeat (first | (with_reducible first | exact HB.out | apply below_alloc | apply pw_below_drewN | apply below_drew1) | exact HB.out))⟩; clear HO_11 HO_3 HO_4 HO_5 HO_6 HB hq_; have HO_11 := n0_; have HO_3 := n1_; have HO_4 := n2_; have HO_5 := n3_; have HO_6 := n4_; have HB := n5_; clear n0_ n1_ n2_ n3_ n4_ n5_))
             have n0_ := Aside0.mk (Kd.R_drew HO_3.out)
             have n1_ := Aside0.mk (Kd.R_drew HO_4.out)
             have n2_ := Aside0.mk (Go.Proofs.YtbonmhgihedjpaaM.QM_drew HO_5.out)
             have n3_ := Aside0.mk (Kd.R_drew HO_6.out)
             have n4_ := Aside0.mk (Kd.R_drew HO_11.out)
             have n5_ := Aside0.mk (below_drew1 HB.out)
             clear HO_3
             clear HO_4
             clear HO_5
             clear HO_6
             clear HO_11
             clear HB
             have HO_3 := n0_
             have HO_4 := n1_
             have HO_5 := n2_
             have HO_6 := n3_
             have HO_11 := n4_
             have HB := n5_
             clear n0_ n1_ n2_ n3_ n4_ n5_
             have p229 : 0 ≤ (1 : Int) := (by omega)
             have q229 : 1 < (x11_4.length : Int) := of_decide_eq_true (by first | (with_reducible assumption) | assumption)
             obtain ⟨ad229, e229, hx229_0⟩ := Kd.at_int (Kd.R_reads' HO_11.out).2.2 1 p229 q229
             obtain rfl : ad216 = ad229 := (by injection e229)
             (try simp only [show (1 : Int).toNat = 1 from rfl, Nat.reduceMul, Nat.reduceEqDiff, Go.Addr.add, ↓reduceIte] at hx229_0)
             have qi229 : (1 < x11_4.length) = True := eq_true (by omega)
             (try rw [show ((1 : Int)).toNat = 1 from rfl] at hx229_0)
             replace p229 := eq_true p229
             replace q229 := eq_true q229
             have p230 : 0 ≤ (2 : Int) := (by omega)
             have q230 : 2 < (x11_4.length : Int) := of_decide_eq_true (by first | (with_reducible assumption) | assumption)
             obtain ⟨ad230, e230, hx230_0⟩ := Kd.at_int (Kd.R_reads' HO_11.out).2.2 2 p230 q230
             obtain rfl : ad216 = ad230 := (by injection e230)
             (try simp only [show (2 : Int).toNat = 2 from rfl, Nat.reduceMul, Nat.reduceEqDiff, Go.Addr.add, ↓reduceIte] at hx230_0)
             have qi230 : (2 < x11_4.length) = True := eq_true (by omega)
             (try rw [show ((2 : Int)).toNat = 2 from rfl] at hx230_0)
             replace p230 := eq_true p230
             replace q230 := eq_true q230
             have p231 : 0 ≤ (1 : Int) := (by omega)
             have q231 : 1 < (x11_4.length : Int) := of_decide_eq_true (by first | (with_reducible assumption) | assumption)
             obtain ⟨ad231, e231, hx231_0⟩ := Kd.at_int (Kd.R_reads' HO_11.out).2.2 1 p231 q231
             obtain rfl : ad216 = ad231 := (by injection e231)
             (try simp only [show (1 : Int).toNat = 1 from rfl, Nat.reduceMul, Nat.reduceEqDiff, Go.Addr.add, ↓reduceIte] at hx231_0)
             have qi231 : (1 < x11_4.length) = True := eq_true (by omega)
             (try rw [show ((1 : Int)).toNat = 1 from rfl] at hx231_0)
             replace p231 := eq_true p231
             replace q231 := eq_true q231
             have p232 : 0 ≤ (2 : Int) := (by omega)
             have q232 : 2 < (x11_4.length : Int) := of_decide_eq_true (by first | (with_reducible assumption) | assumption)
             obtain ⟨ad232, e232, hx232_0⟩ := Kd.at_int (Kd.R_reads' HO_11.out).2.2 2 p232 q232
             obtain rfl : ad216 = ad232 := (by injection e232)
             (try simp only [show (2 : Int).toNat = 2 from rfl, Nat.reduceMul, Nat.reduceEqDiff, Go.Addr.add, ↓reduceIte] at hx232_0)
             have qi232 : (2 < x11_4.length) = True := eq_true (by omega)
             (try rw [show ((2 : Int)).toNat = 2 from rfl] at hx232_0)
             replace p232 := eq_true p232
             replace q232 := eq_true q232
             refine start_ (n := 30) (S := fun w' => w'.cell? ⟨ad216.block, ad216.off + 1, none⟩ = some (.int .i64 (rd x11_4 1)) ∧ w'.cell? ⟨ad216.block, ad216.off + 2, none⟩ = some (.int .i64 (rd x11_4 2)) ∧ w'.cell? ⟨ad216.block, ad216.off + 1, none⟩ = some (.int .i64 (rd x11_4 1)) ∧ w'.cell? ⟨ad216.block, ad216.off + 2, none⟩ = some (.int .i64 (rd x11_4 2))) (ds := []) #[F_, F_, F_, F_, F_, F_, F_, F_, F_, F_, F_, F_, F_, F_, F_, F_, F_, F_, F_, F_, F_, F_, F_, F_, F_, F_, F_, F_, F_, F_] (by kernel_rfl) rfl rfl ⟨hx229_0, hx230_0, hx231_0, hx232_0⟩ (fun hHeld => ?_); refine with_tabW vitrineref14_Sum.tab23 vitrineref14_Sum.bits23 (fun HT_ HW_ => ?_)
             generalize w78.drew = w81 at HO_3 HO_4 HO_5 HO_6 HO_11 HB hx229_0 hx230_0 hx231_0 hx232_0 hHeld ⊢
             refine pure_ (i := 0) (N := some 164) (v := ?_) (a' := ?_) #[T_, F_, F_, F_, F_, F_, F_, F_, F_, F_, F_, F_, F_, F_, F_, F_, F_, F_, F_, F_, F_, F_, F_, F_, F_, F_, F_, F_, F_, F_] rfl rfl (any_of HT_.out (by kernel_rfl)) (fun _ _ _ h => h) (Or.inl ⟨by rfl, ?_⟩) ?_ ?_
             rotate_left; (focus (intro w'; go_simp; with_reducible rfl))
             rotate_left; (focus (simp only [Act.put, zq1, zq2, zq3, i64_w, i32_w]; rfl))
             refine pure_ (i := 2) (N := some 166) (v := ?_) (a' := ?_) #[T_, F_, T_, F_, F_, F_, F_, F_, F_, F_, F_, F_, F_, F_, F_, F_, F_, F_, F_, F_, F_, F_, F_, F_, F_, F_, F_, F_, F_, F_] rfl rfl (any_of HT_.out (by kernel_rfl)) (fun _ _ _ h => h) (Or.inl ⟨by rfl, ?_⟩) ?_ ?_
             rotate_left; (focus (intro w'; go_simp; with_reducible rfl))
             rotate_left; (focus (simp only [Act.put, zq1, zq2, zq3, i64_w, i32_w]; rfl))
             refine pure_ (i := 5) (N := some 169) (v := ?_) (a' := ?_) #[T_, F_, T_, F_, F_, T_, F_, F_, F_, F_, F_, F_, F_, F_, F_, F_, F_, F_, F_, F_, F_, F_, F_, F_, F_, F_, F_, F_, F_, F_] rfl rfl (any_of HT_.out (by kernel_rfl)) (fun _ _ _ h => h) (Or.inl ⟨by rfl, ?_⟩) ?_ ?_
             rotate_left; (focus (intro w'; go_simp; with_reducible rfl))
             rotate_left; (focus (simp only [Act.put, zq1, zq2, zq3, i64_w, i32_w]; rfl))
             refine pure_ (i := 8) (N := some 172) (v := ?_) (a' := ?_) #[T_, F_, T_, F_, F_, T_, F_, F_, T_, F_, F_, F_, F_, F_, F_, F_, F_, F_, F_, F_, F_, F_, F_, F_, F_, F_, F_, F_, F_, F_] rfl rfl (any_of HT_.out (by kernel_rfl)) (fun _ _ _ h => h) (Or.inl ⟨by rfl, ?_⟩) ?_ ?_
             rotate_left; (focus (intro w'; go_simp; with_reducible rfl))
             rotate_left; (focus (simp only [Act.put, zq1, zq2, zq3, i64_w, i32_w]; rfl))
             refine pure_ (i := 9) (N := some 173) (v := ?_) (a' := ?_) #[T_, F_, T_, F_, F_, T_, F_, F_, T_, T_, F_, F_, F_, F_, F_, F_, F_, F_, F_, F_, F_, F_, F_, F_, F_, F_, F_, F_, F_, F_] rfl rfl (any_of HT_.out (by kernel_rfl)) (fun _ _ _ h => h) (Or.inl ⟨by rfl, ?_⟩) ?_ ?_
             rotate_left; (focus (intro w'; go_simp; with_reducible rfl))
             rotate_left; (focus (simp only [Act.put, zq1, zq2, zq3, i64_w, i32_w]; rfl))
             refine pure_ (i := 10) (N := some 174) (v := ?_) (a' := ?_) #[T_, F_, T_, F_, F_, T_, F_, F_, T_, T_, T_, F_, F_, F_, F_, F_, F_, F_, F_, F_, F_, F_, F_, F_, F_, F_, F_, F_, F_, F_] rfl rfl (any_of HT_.out (by kernel_rfl)) (fun _ _ _ h => h) (Or.inl ⟨by rfl, ?_⟩) ?_ ?_
             rotate_left; (focus (intro w'; go_simp; with_reducible rfl))
             rotate_left; (focus (simp only [Act.put, zq1, zq2, zq3, i64_w, i32_w]; rfl))
             refine pure_ (i := 13) (N := some 177) (v := ?_) (a' := ?_) #[T_, F_, T_, F_, F_, T_, F_, F_, T_, T_, T_, F_, F_, T_, F_, F_, F_, F_, F_, F_, F_, F_, F_, F_, F_, F_, F_, F_, F_, F_] rfl rfl (any_of HT_.out (by kernel_rfl)) (fun _ _ _ h => h) (Or.inl ⟨by rfl, ?_⟩) ?_ ?_
             rotate_left; (focus (intro w'; go_simp; with_reducible rfl))
             rotate_left; (focus (simp only [Act.put, zq1, zq2, zq3, i64_w, i32_w]; rfl))
             refine pure_ (i := 14) (N := some 178) (v := ?_) (a' := ?_) #[T_, F_, T_, F_, F_, T_, F_, F_, T_, T_, T_, F_, F_, T_, T_, F_, F_, F_, F_, F_, F_, F_, F_, F_, F_, F_, F_, F_, F_, F_] rfl rfl (any_of HT_.out (by kernel_rfl)) (fun _ _ _ h => h) (Or.inl ⟨by rfl, ?_⟩) ?_ ?_
             rotate_left; (focus (intro w'; go_simp; with_reducible rfl))
             rotate_left; (focus (simp only [Act.put, zq1, zq2, zq3, i64_w, i32_w]; rfl))
             refine pure_ (i := 15) (N := some 179) (v := ?_) (a' := ?_) #[T_, F_, T_, F_, F_, T_, F_, F_, T_, T_, T_, F_, F_, T_, T_, T_, F_, F_, F_, F_, F_, F_, F_, F_, F_, F_, F_, F_, F_, F_] rfl rfl (any_of HT_.out (by kernel_rfl)) (fun _ _ _ h => h) (Or.inl ⟨by rfl, ?_⟩) ?_ ?_
             rotate_left; (focus (intro w'; go_simp; with_reducible rfl))
             rotate_left; (focus (simp only [Act.put, zq1, zq2, zq3, i64_w, i32_w]; rfl))
             refine pure_ (i := 19) (N := some 183) (v := ?_) (a' := ?_) #[T_, F_, T_, F_, F_, T_, F_, F_, T_, T_, T_, F_, F_, T_, T_, T_, F_, F_, F_, T_, F_, F_, F_, F_, F_, F_, F_, F_, F_, F_] rfl rfl (any_of HT_.out (by kernel_rfl)) (fun _ _ _ h => h) (Or.inl ⟨by rfl, ?_⟩) ?_ ?_
             rotate_left; (focus (intro w'; go_simp; with_reducible rfl))
             rotate_left; (focus (simp only [Act.put, zq1, zq2, zq3, i64_w, i32_w]; rfl))
             refine pure_ (i := 20) (N := some 184) (v := ?_) (a' := ?_) #[T_, F_, T_, F_, F_, T_, F_, F_, T_, T_, T_, F_, F_, T_, T_, T_, F_, F_, F_, T_, T_, F_, F_, F_, F_, F_, F_, F_, F_, F_] rfl rfl (any_of HT_.out (by kernel_rfl)) (fun _ _ _ h => h) (Or.inl ⟨by rfl, ?_⟩) ?_ ?_
             rotate_left; (focus (intro w'; go_simp; with_reducible rfl))
             rotate_left; (focus (simp only [Act.put, zq1, zq2, zq3, i64_w, i32_w]; rfl))
             refine pure_ (i := 22) (N := some 186) (v := ?_) (a' := ?_) #[T_, F_, T_, F_, F_, T_, F_, F_, T_, T_, T_, F_, F_, T_, T_, T_, F_, F_, F_, T_, T_, F_, T_, F_, F_, F_, F_, F_, F_, F_] rfl rfl (any_of HT_.out (by kernel_rfl)) (fun _ _ _ h => h) (Or.inl ⟨by rfl, ?_⟩) ?_ ?_
             rotate_left; (focus (intro w'; go_simp; with_reducible rfl))
             rotate_left; (focus (simp only [Act.put, zq1, zq2, zq3, i64_w, i32_w]; rfl))
             refine pure_ (i := 23) (N := some 187) (v := ?_) (a' := ?_) #[T_, F_, T_, F_, F_, T_, F_, F_, T_, T_, T_, F_, F_, T_, T_, T_, F_, F_, F_, T_, T_, F_, T_, T_, F_, F_, F_, F_, F_, F_] rfl rfl (any_of HT_.out (by kernel_rfl)) (fun _ _ _ h => h) (Or.inl ⟨by rfl, ?_⟩) ?_ ?_
             rotate_left; (focus (intro w'; go_simp; with_reducible rfl))
             rotate_left; (focus (simp only [Act.put, zq1, zq2, zq3, i64_w, i32_w]; rfl))
             refine take_ (i := 11) (N := some 175) (v := ?_) (a' := ?_) #[T_, F_, T_, F_, F_, T_, F_, F_, T_, T_, T_, T_, F_, T_, T_, T_, F_, F_, F_, T_, T_, F_, T_, T_, F_, F_, F_, F_, F_, F_] rfl rfl (take_ofW HT_.out HW_.out (by kernel_rfl)) (fun _ _ _ h => h) (Or.inl ⟨by rfl, ?_⟩) hHeld ?_ ?_
             rotate_left; (focus (rintro w' ⟨s0, s1, s2, s3⟩; go_simp; with_reducible rfl))
             rotate_left; (focus (simp only [Act.put, zq1, zq2, zq3, i64_w, i32_w]; rfl))
             refine pure_ (i := 12) (N := some 176) (v := ?_) (a' := ?_) #[T_, F_, T_, F_, F_, T_, F_, F_, T_, T_, T_, T_, T_, T_, T_, T_, F_, F_, F_, T_, T_, F_, T_, T_, F_, F_, F_, F_, F_, F_] rfl rfl (any_of HT_.out (by kernel_rfl)) (fun _ _ _ h => h) (Or.inl ⟨by rfl, ?_⟩) ?_ ?_
             rotate_left; (focus (intro w'; go_simp; with_reducible rfl))
             rotate_left; (focus (simp only [Act.put, zq1, zq2, zq3, i64_w, i32_w]; rfl))
             refine take_ (i := 16) (N := some 180) (v := ?_) (a' := ?_) #[T_, F_, T_, F_, F_, T_, F_, F_, T_, T_, T_, T_, T_, T_, T_, T_, T_, F_, F_, T_, T_, F_, T_, T_, F_, F_, F_, F_, F_, F_] rfl rfl (take_ofW HT_.out HW_.out (by kernel_rfl)) (fun _ _ _ h => h) (Or.inl ⟨by rfl, ?_⟩) hHeld ?_ ?_
             rotate_left; (focus (rintro w' ⟨s0, s1, s2, s3⟩; go_simp; with_reducible rfl))
             rotate_left; (focus (simp only [Act.put, zq1, zq2, zq3, i64_w, i32_w]; rfl))
             refine pure_ (i := 17) (N := some 181) (v := ?_) (a' := ?_) #[T_, F_, T_, F_, F_, T_, F_, F_, T_, T_, T_, T_, T_, T_, T_, T_, T_, T_, F_, T_, T_, F_, T_, T_, F_, F_, F_, F_, F_, F_] rfl rfl (any_of HT_.out (by kernel_rfl)) (fun _ _ _ h => h) (Or.inl ⟨by rfl, ?_⟩) ?_ ?_
             rotate_left; (focus (intro w'; go_simp; with_reducible rfl))
             rotate_left; (focus (simp only [Act.put, zq1, zq2, zq3, i64_w, i32_w]; rfl))
             refine pure_ (i := 18) (N := some 182) (v := ?_) (a' := ?_) #[T_, F_, T_, F_, F_, T_, F_, F_, T_, T_, T_, T_, T_, T_, T_, T_, T_, T_, T_, T_, T_, F_, T_, T_, F_, F_, F_, F_, F_, F_] rfl rfl (any_of HT_.out (by kernel_rfl)) (fun _ _ _ h => h) (Or.inl ⟨by rfl, ?_⟩) ?_ ?_
             rotate_left; (focus (intro w'; go_simp; with_reducible rfl))
             rotate_left; (focus (simp only [Act.put, zq1, zq2, zq3, i64_w, i32_w]; rfl))
             refine take_ (i := 21) (N := some 185) (v := ?_) (a' := ?_) #[T_, F_, T_, F_, F_, T_, F_, F_, T_, T_, T_, T_, T_, T_, T_, T_, T_, T_, T_, T_, T_, T_, T_, T_, F_, F_, F_, F_, F_, F_] rfl rfl (take_ofW HT_.out HW_.out (by kernel_rfl)) (fun _ _ _ h => h) (Or.inl ⟨by rfl, ?_⟩) hHeld ?_ ?_
             rotate_left; (focus (rintro w' ⟨s0, s1, s2, s3⟩; go_simp; with_reducible rfl))
             rotate_left; (focus (simp only [Act.put, zq1, zq2, zq3, i64_w, i32_w]; rfl))
             refine take_ (i := 24) (N := some 188) (v := ?_) (a' := ?_) #[T_, F_, T_, F_, F_, T_, F_, F_, T_, T_, T_, T_, T_, T_, T_, T_, T_, T_, T_, T_, T_, T_, T_, T_, T_, F_, F_, F_, F_, F_] rfl rfl (take_ofW HT_.out HW_.out (by kernel_rfl)) (fun _ _ _ h => h) (Or.inl ⟨by rfl, ?_⟩) hHeld ?_ ?_
             rotate_left; (focus (rintro w' ⟨s0, s1, s2, s3⟩; go_simp; with_reducible rfl))
             rotate_left; (focus (simp only [Act.put, zq1, zq2, zq3, i64_w, i32_w]; rfl))
             refine pure_ (i := 25) (N := some 189) (v := ?_) (a' := ?_) #[T_, F_, T_, F_, F_, T_, F_, F_, T_, T_, T_, T_, T_, T_, T_, T_, T_, T_, T_, T_, T_, T_, T_, T_, T_, T_, F_, F_, F_, F_] rfl rfl (any_of HT_.out (by kernel_rfl)) (fun _ _ _ h => h) (Or.inl ⟨by rfl, ?_⟩) ?_ ?_
             rotate_left; (focus (intro w'; go_simp; with_reducible rfl))
             rotate_left; (focus (simp only [Act.put, zq1, zq2, zq3, i64_w, i32_w]; rfl))
             refine pure_ (i := 26) (N := some 190) (v := ?_) (a' := ?_) #[T_, F_, T_, F_, F_, T_, F_, F_, T_, T_, T_, T_, T_, T_, T_, T_, T_, T_, T_, T_, T_, T_, T_, T_, T_, T_, T_, F_, F_, F_] rfl rfl (any_of HT_.out (by kernel_rfl)) (fun _ _ _ h => h) (Or.inl ⟨by rfl, ?_⟩) ?_ ?_
             rotate_left; (focus (intro w'; go_simp; with_reducible rfl))
             rotate_left; (focus (simp only [Act.put, zq1, zq2, zq3, i64_w, i32_w]; rfl))
             refine one_ (i := 1) (N := some 165) #[T_, T_, T_, F_, F_, T_, F_, F_, T_, T_, T_, T_, T_, T_, T_, T_, T_, T_, T_, T_, T_, T_, T_, T_, T_, T_, T_, F_, F_, F_] rfl rfl (one_of HT_.out (by kernel_rfl)) (by decide) (fun K hK => ?_)
             refine goes_ Try.func44 (by kernel_rfl) rfl #[.int .i64 (rd x11_4 0), .int .i64 2] (by rfl) rfl rfl (by (try simp only [List.map_toArray, List.map_cons, List.map_nil]); first | done | rfl | (simp only [List.length_drop, List.length_take]; rfl) | (simp only [ByteArray.size_extract, Nat.min_self]; done) | (simp only [ByteArray.size_extract, Nat.min_self]; rfl)) ?_
             with_reducible refine (vitrineref14_turned.calls (rd x11_4 0) 2 t226 _ A71.out).mono ?_
             rintro e w' ⟨rfl, ⟨nd, rfl⟩⟩
             refine ⟨_, rfl, ?_⟩
             refine hK.out _ _ ⟨hHeld.1, hHeld.2.1, hHeld.2.2.1, hHeld.2.2.2⟩ (fun hHeld => ?_)
             clear hK K
             refine norm_ (a' := ?_) ?_ ?_
             rotate_left; (focus (show Act.put _ (some 165) _ = _; simp only [Act.put, zq1, zq2, zq3, i64_w, i32_w]; rfl))
             refine one_ (i := 3) (N := some 167) #[T_, T_, T_, T_, F_, T_, F_, F_, T_, T_, T_, T_, T_, T_, T_, T_, T_, T_, T_, T_, T_, T_, T_, T_, T_, T_, T_, F_, F_, F_] rfl rfl (one_of HT_.out (by kernel_rfl)) (by decide) (fun K hK => ?_)
             refine goes_ Try.func44 (by kernel_rfl) rfl #[.int .i64 (rd x11_4 0), .int .i64 13] (by rfl) rfl rfl (by (try simp only [List.map_toArray, List.map_cons, List.map_nil]); first | done | rfl | (simp only [List.length_drop, List.length_take]; rfl) | (simp only [ByteArray.size_extract, Nat.min_self]; done) | (simp only [ByteArray.size_extract, Nat.min_self]; rfl)) ?_
             with_reducible refine (vitrineref14_turned.calls (rd x11_4 0) 13 t227 _ A72.out).mono ?_
             rintro e w' ⟨rfl, ⟨nd, rfl⟩⟩
             refine ⟨_, rfl, ?_⟩
             refine hK.out _ _ ⟨hHeld.1, hHeld.2.1, hHeld.2.2.1, hHeld.2.2.2⟩ (fun hHeld => ?_)
             clear hK K
             refine norm_ (a' := ?_) ?_ ?_
             rotate_left; (focus (show Act.put _ (some 167) _ = _; simp only [Act.put, zq1, zq2, zq3, i64_w, i32_w]; rfl))
             refine pure_ (i := 4) (N := some 168) (v := ?_) (a' := ?_) #[T_, T_, T_, T_, T_, T_, F_, F_, T_, T_, T_, T_, T_, T_, T_, T_, T_, T_, T_, T_, T_, T_, T_, T_, T_, T_, T_, F_, F_, F_] rfl rfl (any_of HT_.out (by kernel_rfl)) (fun _ _ _ h => h) (Or.inl ⟨by rfl, ?_⟩) ?_ ?_
             rotate_left; (focus (intro w'; go_simp; with_reducible rfl))
             rotate_left; (focus (simp only [Act.put, zq1, zq2, zq3, i64_w, i32_w]; rfl))
             refine one_ (i := 6) (N := some 170) #[T_, T_, T_, T_, T_, T_, T_, F_, T_, T_, T_, T_, T_, T_, T_, T_, T_, T_, T_, T_, T_, T_, T_, T_, T_, T_, T_, F_, F_, F_] rfl rfl (one_of HT_.out (by kernel_rfl)) (by decide) (fun K hK => ?_)
             refine goes_ Try.func44 (by kernel_rfl) rfl #[.int .i64 (rd x11_4 0), .int .i64 22] (by rfl) rfl rfl (by (try simp only [List.map_toArray, List.map_cons, List.map_nil]); first | done | rfl | (simp only [List.length_drop, List.length_take]; rfl) | (simp only [ByteArray.size_extract, Nat.min_self]; done) | (simp only [ByteArray.size_extract, Nat.min_self]; rfl)) ?_
             with_reducible refine (vitrineref14_turned.calls (rd x11_4 0) 22 t228 _ A73.out).mono ?_
             rintro e w' ⟨rfl, ⟨nd, rfl⟩⟩
             refine ⟨_, rfl, ?_⟩
             refine hK.out _ _ ⟨hHeld.1, hHeld.2.1, hHeld.2.2.1, hHeld.2.2.2⟩ (fun hHeld => ?_)
             clear hK K
             refine norm_ (a' := ?_) ?_ ?_
             rotate_left; (focus (show Act.put _ (some 170) _ = _; simp only [Act.put, zq1, zq2, zq3, i64_w, i32_w]; rfl))
             refine pure_ (i := 7) (N := some 171) (v := ?_) (a' := ?_) #[T_, T_, T_, T_, T_, T_, T_, T_, T_, T_, T_, T_, T_, T_, T_, T_, T_, T_, T_, T_, T_, T_, T_, T_, T_, T_, T_, F_, F_, F_] rfl rfl (any_of HT_.out (by kernel_rfl)) (fun _ _ _ h => h) (Or.inl ⟨by rfl, ?_⟩) ?_ ?_
             rotate_left; (focus (intro w'; go_simp; with_reducible rfl))
             rotate_left; (focus (simp only [Act.put, zq1, zq2, zq3, i64_w, i32_w]; rfl))
             refine pure_ (i := 27) (N := some 191) (v := ?_) (a' := ?_) #[T_, T_, T_, T_, T_, T_, T_, T_, T_, T_, T_, T_, T_, T_, T_, T_, T_, T_, T_, T_, T_, T_, T_, T_, T_, T_, T_, T_, F_, F_] rfl rfl (any_of HT_.out (by kernel_rfl)) (fun _ _ _ h => h) (Or.inl ⟨by rfl, ?_⟩) ?_ ?_
             rotate_left; (focus (intro w'; go_simp; with_reducible rfl))
             rotate_left; (focus (simp only [Act.put, zq1, zq2, zq3, i64_w, i32_w]; rfl))
             refine pure_ (i := 28) (N := some 192) (v := ?_) (a' := ?_) #[T_, T_, T_, T_, T_, T_, T_, T_, T_, T_, T_, T_, T_, T_, T_, T_, T_, T_, T_, T_, T_, T_, T_, T_, T_, T_, T_, T_, T_, F_] rfl rfl (any_of HT_.out (by kernel_rfl)) (fun _ _ _ h => h) (Or.inl ⟨by rfl, ?_⟩) ?_ ?_
             rotate_left; (focus (intro w'; go_simp; with_reducible rfl))
             rotate_left; (focus (simp only [Act.put, zq1, zq2, zq3, i64_w, i32_w]; rfl))
             refine pure_ (i := 29) (N := some 16) (v := ?_) (a' := ?_) #[T_, T_, T_, T_, T_, T_, T_, T_, T_, T_, T_, T_, T_, T_, T_, T_, T_, T_, T_, T_, T_, T_, T_, T_, T_, T_, T_, T_, T_, T_] rfl rfl (any_of HT_.out (by kernel_rfl)) (fun _ _ _ h => h) (Or.inl ⟨by rfl, ?_⟩) ?_ ?_
             rotate_left; (focus (intro w'; go_simp; with_reducible rfl))
             rotate_left; (focus (simp only [Act.put, zq1, zq2, zq3, i64_w, i32_w]; rfl))
             refine done_ (done_of HT_.out (by kernel_rfl)) ?_
             try go_wp2
             have nX_ := Ny240.out
             clear Ny240
             obtain ⟨Y_, hY_⟩ : ∃ x_ : Int, Int.tmod (wrap64 ((Go.bits .xor .i64 (Go.bits .xor .i64 t226 t227) t228) + (Go.bits .xor .i64 (Go.bits .xor .i64 (Go.bits .and .i64 (rd x11_4 0) (rd x11_4 1)) (Go.bits .and .i64 (rd x11_4 0) (rd x11_4 2))) (Go.bits .and .i64 (rd x11_4 1) (rd x11_4 2))))) 4294967296 = x_ := ⟨_, rfl⟩
             rw [hY_] at nX_
             rw [hY_]
             clear hY_
             have Ny240 := Aside0.mk nX_
             clear nX_
             (try (rw [drewN_self w81]; generalize hq_ : World.drewN w81 _ = w81; have n0_ : Aside0 (Kd.R (Kd.int .i64) 3 w81 w.heap.size (fun k_ => some k_ ≠ (.slice Ao58 x3_1.length co58 : Value).ownBlock ∧ some k_ ≠ (.slice (some ad224) x4_1.length co79 : Value).ownBlock ∧ some k_ ≠ (.slice (some ad225) x6_3.length co80 : Value).ownBlock) (.slice (some ad216) x11_4.length co77) x11_4) := ⟨by rw [← hq_]; exact (by (with_reducible repeat (first | apply Kd.R_alloc | apply Kd.R_drewN | apply Kd.R_drew)); exact HO_11.out)⟩; have n1_ : Aside0 (Kd.R (Kd.int .i64) 3 w81 w.heap.size (fun k_ => some k_ ≠ (.slice (some ad216) x11_4.length co77 : Value).ownBlock ∧ some k_ ≠ (.slice (some ad224) x4_1.length co79 : Value).ownBlock ∧ some k_ ≠ (.slice (some ad225) x6_3.length co80 : Value).ownBlock) (.slice Ao58 x3_1.length co58) x3_1) := ⟨by rw [← hq_]; exact (by (with_reducible repeat (first | apply Kd.R_alloc | apply Kd.R_drewN | apply Kd.R_drew)); exact Kd.R_mono HO_3.out (fun _ hk => ⟨hk.2.2, ⟨hk.1, hk.2.1⟩⟩))⟩; have n2_ : Aside0 (Kd.R (Kd.int .i64) 3 w81 w.heap.size (fun k_ => some k_ ≠ (.slice (some ad216) x11_4.length co77 : Value).ownBlock ∧ some k_ ≠ (.slice Ao58 x3_1.length co58 : Value).ownBlock ∧ some k_ ≠ (.slice (some ad225) x6_3.length co80 : Value).ownBlock) (.slice (some ad224) x4_1.length co79) x4_1) := ⟨by rw [← hq_]; exact (by (with_reducible repeat (first | apply Kd.R_alloc | apply Kd.R_drewN | apply Kd.R_drew)); exact Kd.R_mono HO_4.out (fun _ hk => ⟨hk.2.2, ⟨hk.1, hk.2.1⟩⟩))⟩; have n3_ : Aside0 (Go.Proofs.YtbonmhgihedjpaaM.QM (Kd.int .u8) 5 w81 w.heap.size (fun _ => True) (.slice Ao10 x5_1.length co10) x5_1) := ⟨by rw [← hq_]; exact (by (with_reducible repeat (first | apply Go.Proofs.YtbonmhgihedjpaaM.QM_alloc | apply Go.Proofs.YtbonmhgihedjpaaM.QM_drewN | apply Go.Proofs.YtbonmhgihedjpaaM.QM_drew)); exact HO_5.out)⟩; have n4_ : Aside0 (Kd.R (Kd.int .i64) 3 w81 w.heap.size (fun k_ => some k_ ≠ (.slice (some ad216) x11_4.length co77 : Value).ownBlock ∧ some k_ ≠ (.slice Ao58 x3_1.length co58 : Value).ownBlock ∧ some k_ ≠ (.slice (some ad224) x4_1.length co79 : Value).ownBlock) (.slice (some ad225) x6_3.length co80) x6_3) := ⟨by rw [← hq_]; exact (by (with_reducible repeat (first | apply Kd.R_alloc | apply Kd.R_drewN | apply Kd.R_drew)); exact Kd.R_mono HO_6.out (fun _ hk => ⟨hk.2.2, ⟨hk.1, hk.2.1⟩⟩))⟩; have n5_ : Aside0 (Below w.heap.size w w81) := ⟨by rw [← hq_]; exact (by repeat (first | (with_reducible first | exact HB.out | apply below_alloc | apply pw_below_drewN | apply below_drew1) | exact HB.out))⟩; clear HO_11 HO_3 HO_4 HO_5 HO_6 HB hq_; have HO_11 := n0_; have HO_3 := n1_; have HO_4 := n2_; have HO_5 := n3_; have HO_6 := n4_; have HB := n5_; clear n0_ n1_ n2_ n3_ n4_ n5_))
             (try (rw [drewN_self w81]; generalize hq_ : World.drewN w81 _ = w81; have n0_ : Aside0 (Kd.R (Kd.int .i64) 3 w81 w.heap.size (fun k_ => some k_ ≠ (.slice Ao58 x3_1.length co58 : Value).ownBlock ∧ some k_ ≠ (.slice (some ad224) x4_1.length co79 : Value).ownBlock ∧ some k_ ≠ (.slice (some ad225) x6_3.length co80 : Value).ownBlock) (.slice (some ad216) x11_4.length co77) x11_4) := ⟨by rw [← hq_]; exact (by (with_reducible repeat (first | apply Kd.R_alloc | apply Kd.R_drewN | apply Kd.R_drew)); exact HO_11.out)⟩; have n1_ : Aside0 (Kd.R (Kd.int .i64) 3 w81 w.heap.size (fun k_ => some k_ ≠ (.slice (some ad216) x11_4.length co77 : Value).ownBlock ∧ some k_ ≠ (.slice (some ad224) x4_1.length co79 : Value).ownBlock ∧ some k_ ≠ (.slice (some ad225) x6_3.length co80 : Value).ownBlock) (.slice Ao58 x3_1.length co58) x3_1) := ⟨by rw [← hq_]; exact (by (with_reducible repeat (first | apply Kd.R_alloc | apply Kd.R_drewN | apply Kd.R_drew)); exact HO_3.out)⟩; have n2_ : Aside0 (Kd.R (Kd.int .i64) 3 w81 w.heap.size (fun k_ => some k_ ≠ (.slice (some ad216) x11_4.length co77 : Value).ownBlock ∧ some k_ ≠ (.slice Ao58 x3_1.length co58 : Value).ownBlock ∧ some k_ ≠ (.slice (some ad225) x6_3.length co80 : Value).ownBlock) (.slice (some ad224) x4_1.length co79) x4_1) := ⟨by rw [← hq_]; exact (by (with_reducible repeat (first | apply Kd.R_alloc | apply Kd.R_drewN | apply Kd.R_drew)); exact HO_4.out)⟩; have n3_ : Aside0 (Go.Proofs.YtbonmhgihedjpaaM.QM (Kd.int .u8) 5 w81 w.heap.size (fun _ => True) (.slice Ao10 x5_1.length co10) x5_1) := ⟨by rw [← hq_]; exact (by (with_reducible repeat (first | apply Go.Proofs.YtbonmhgihedjpaaM.QM_alloc | apply Go.Proofs.YtbonmhgihedjpaaM.QM_drewN | apply Go.Proofs.YtbonmhgihedjpaaM.QM_drew)); exact HO_5.out)⟩; have n4_ : Aside0 (Kd.R (Kd.int .i64) 3 w81 w.heap.size (fun k_ => some k_ ≠ (.slice (some ad216) x11_4.length co77 : Value).ownBlock ∧ some k_ ≠ (.slice Ao58 x3_1.length co58 : Value).ownBlock ∧ some k_ ≠ (.slice (some ad224) x4_1.length co79 : Value).ownBlock) (.slice (some ad225) x6_3.length co80) x6_3) := ⟨by rw [← hq_]; exact (by (with_reducible repeat (first | apply Kd.R_alloc | apply Kd.R_drewN | apply Kd.R_drew)); exact HO_6.out)⟩; have n5_ : Aside0 (Below w.heap.size w w81) := ⟨by rw [← hq_]; exact (by repeat (first | (with_reducible first | exact HB.out | apply below_alloc | apply pw_below_drewN | apply below_drew1) | exact HB.out))⟩; clear HO_11 HO_3 HO_4 HO_5 HO_6 HB hq_; have HO_11 := n0_; have HO_3 := n1_; have HO_4 := n2_; have HO_5 := n3_; have HO_6 := n4_; have HB := n5_; clear n0_ n1_ n2_ n3_ n4_ n5_))
             (try (rw [drewN_self w81]; generalize hq_ : World.drewN w81 _ = w81; have n0_ : Aside0 (Kd.R (Kd.int .i64) 3 w81 w.heap.size (fun k_ => some k_ ≠ (.slice Ao58 x3_1.length co58 : Value).ownBlock ∧ some k_ ≠ (.slice (some ad224) x4_1.length co79 : Value).ownBlock ∧ some k_ ≠ (.slice (some ad225) x6_3.length co80 : Value).ownBlock) (.slice (some ad216) x11_4.length co77) x11_4) := ⟨by rw [← hq_]; exact (by (with_reducible repeat (first | apply Kd.R_alloc | apply Kd.R_drewN | apply Kd.R_drew)); exact HO_11.out)⟩; have n1_ : Aside0 (Kd.R (Kd.int .i64) 3 w81 w.heap.size (fun k_ => some k_ ≠ (.slice (some ad216) x11_4.length co77 : Value).ownBlock ∧ some k_ ≠ (.slice (some ad224) x4_1.length co79 : Value).ownBlock ∧ some k_ ≠ (.slice (some ad225) x6_3.length co80 : Value).ownBlock) (.slice Ao58 x3_1.length co58) x3_1) := ⟨by rw [← hq_]; exact (by (with_reducible repeat (first | apply Kd.R_alloc | apply Kd.R_drewN | apply Kd.R_drew)); exact HO_3.out)⟩; have n2_ : Aside0 (Kd.R (Kd.int .i64) 3 w81 w.heap.size (fun k_ => some k_ ≠ (.slice (some ad216) x11_4.length co77 : Value).ownBlock ∧ some k_ ≠ (.slice Ao58 x3_1.length co58 : Value).ownBlock ∧ some k_ ≠ (.slice (some ad225) x6_3.length co80 : Value).ownBlock) (.slice (some ad224) x4_1.length co79) x4_1) := ⟨by rw [← hq_]; exact (by (with_reducible repeat (first | apply Kd.R_alloc | apply Kd.R_drewN | apply Kd.R_drew)); exact HO_4.out)⟩; have n3_ : Aside0 (Go.Proofs.YtbonmhgihedjpaaM.QM (Kd.int .u8) 5 w81 w.heap.size (fun _ => True) (.slice Ao10 x5_1.length co10) x5_1) := ⟨by rw [← hq_]; exact (by (with_reducible repeat (first | apply Go.Proofs.YtbonmhgihedjpaaM.QM_alloc | apply Go.Proofs.YtbonmhgihedjpaaM.QM_drewN | apply Go.Proofs.YtbonmhgihedjpaaM.QM_drew)); exact HO_5.out)⟩; have n4_ : Aside0 (Kd.R (Kd.int .i64) 3 w81 w.heap.size (fun k_ => some k_ ≠ (.slice (some ad216) x11_4.length co77 : Value).ownBlock ∧ some k_ ≠ (.slice Ao58 x3_1.length co58 : Value).ownBlock ∧ some k_ ≠ (.slice (some ad224) x4_1.length co79 : Value).ownBlock) (.slice (some ad225) x6_3.length co80) x6_3) := ⟨by rw [← hq_]; exact (by (with_reducible repeat (first | apply Kd.R_alloc | apply Kd.R_drewN | apply Kd.R_drew)); exact HO_6.out)⟩; have n5_ : Aside0 (Below w.heap.size w w81) := ⟨by rw [← hq_]; exact (by repeat (first | (with_reducible first | exact HB.out | apply below_alloc | apply pw_below_drewN | apply below_drew1) | exact HB.out))⟩; clear HO_11 HO_3 HO_4 HO_5 HO_6 HB hq_; have HO_11 := n0_; have HO_3 := n1_; have HO_4 := n2_; have HO_5 := n3_; have HO_6 := n4_; have HB := n5_; clear n0_ n1_ n2_ n3_ n4_ n5_))
             have n0_ := Aside0.mk (Kd.R_drew HO_3.out)
             have n1_ := Aside0.mk (Kd.R_drew HO_4.out)
             have n2_ := Aside0.mk (Go.Proofs.YtbonmhgihedjpaaM.QM_drew HO_5.out)
             have n3_ := Aside0.mk (Kd.R_drew HO_6.out)
             have n4_ := Aside0.mk (Kd.R_drew HO_11.out)
             have n5_ := Aside0.mk (below_drew1 HB.out)
             clear HO_3
             clear HO_4
             clear HO_5
             clear HO_6
             clear HO_11
             clear HB
             have HO_3 := n0_
             have HO_4 := n1_
             have HO_5 := n2_
             have HO_6 := n3_
             have HO_11 := n4_
             have HB := n5_
             clear n0_ n1_ n2_ n3_ n4_ n5_
             have p233 : 0 ≤ (0 : Int) := (by omega)
             have q233 : 0 < (x11_4.length : Int) := of_decide_eq_true (by first | (with_reducible assumption) | assumption)
             obtain ⟨ad233, e233, hx233_0⟩ := Kd.at_int (Kd.R_reads' HO_11.out).2.2 0 p233 q233
             obtain rfl : ad216 = ad233 := (by injection e233)
             have qi233 : (0 < x11_4.length) = True := eq_true (by omega)
             (try rw [show ((0 : Int)).toNat = 0 from rfl] at hx233_0)
             (try rw [Addr.add_zero'] at hx233_0)
             replace p233 := eq_true p233
             replace q233 := eq_true q233
             have p234 : 0 ≤ (1 : Int) := (by omega)
             have q234 : 1 < (x11_4.length : Int) := of_decide_eq_true (by first | (with_reducible assumption) | assumption)
             obtain ⟨ad234, e234, hx234_0⟩ := Kd.at_int (Kd.R_reads' HO_11.out).2.2 1 p234 q234
             obtain rfl : ad216 = ad234 := (by injection e234)
             (try simp only [show (1 : Int).toNat = 1 from rfl, Nat.reduceMul, Nat.reduceEqDiff, Go.Addr.add, ↓reduceIte] at hx234_0)
             have qi234 : (1 < x11_4.length) = True := eq_true (by omega)
             (try rw [show ((1 : Int)).toNat = 1 from rfl] at hx234_0)
             replace p234 := eq_true p234
             replace q234 := eq_true q234
             have p235 : 0 ≤ (2 : Int) := (by omega)
             have q235 : 2 < (x11_4.length : Int) := of_decide_eq_true (by first | (with_reducible assumption) | assumption)
             obtain ⟨ad235, e235, hx235_0⟩ := Kd.at_int (Kd.R_reads' HO_11.out).2.2 2 p235 q235
             obtain rfl : ad216 = ad235 := (by injection e235)
             (try simp only [show (2 : Int).toNat = 2 from rfl, Nat.reduceMul, Nat.reduceEqDiff, Go.Addr.add, ↓reduceIte] at hx235_0)
             have qi235 : (2 < x11_4.length) = True := eq_true (by omega)
             (try rw [show ((2 : Int)).toNat = 2 from rfl] at hx235_0)
             replace p235 := eq_true p235
             replace q235 := eq_true q235
             have p236 : 0 ≤ (3 : Int) := (by omega)
             have q236 : 3 < (x11_4.length : Int) := of_decide_eq_true (by first | (with_reducible assumption) | assumption)
             obtain ⟨ad236, e236, hx236_0⟩ := Kd.at_int (Kd.R_reads' HO_11.out).2.2 3 p236 q236
             obtain rfl : ad216 = ad236 := (by injection e236)
             (try simp only [show (3 : Int).toNat = 3 from rfl, Nat.reduceMul, Nat.reduceEqDiff, Go.Addr.add, ↓reduceIte] at hx236_0)
             have qi236 : (3 < x11_4.length) = True := eq_true (by omega)
             (try rw [show ((3 : Int)).toNat = 3 from rfl] at hx236_0)
             replace p236 := eq_true p236
             replace q236 := eq_true q236
             have p237 : 0 ≤ (4 : Int) := (by omega)
             have q237 : 4 < (x11_4.length : Int) := of_decide_eq_true (by first | (with_reducible assumption) | assumption)
             obtain ⟨ad237, e237, hx237_0⟩ := Kd.at_int (Kd.R_reads' HO_11.out).2.2 4 p237 q237
             obtain rfl : ad216 = ad237 := (by injection e237)
             (try simp only [show (4 : Int).toNat = 4 from rfl, Nat.reduceMul, Nat.reduceEqDiff, Go.Addr.add, ↓reduceIte] at hx237_0)
             have qi237 : (4 < x11_4.length) = True := eq_true (by omega)
             (try rw [show ((4 : Int)).toNat = 4 from rfl] at hx237_0)
             replace p237 := eq_true p237
             replace q237 := eq_true q237
             have p238 : 0 ≤ (5 : Int) := (by omega)
             have q238 : 5 < (x11_4.length : Int) := of_decide_eq_true (by first | (with_reducible assumption) | assumption)
             obtain ⟨ad238, e238, hx238_0⟩ := Kd.at_int (Kd.R_reads' HO_11.out).2.2 5 p238 q238
             obtain rfl : ad216 = ad238 := (by injection e238)
             (try simp only [show (5 : Int).toNat = 5 from rfl, Nat.reduceMul, Nat.reduceEqDiff, Go.Addr.add, ↓reduceIte] at hx238_0)
             have qi238 : (5 < x11_4.length) = True := eq_true (by omega)
             (try rw [show ((5 : Int)).toNat = 5 from rfl] at hx238_0)
             replace p238 := eq_true p238
             replace q238 := eq_true q238
             have p239 : 0 ≤ (6 : Int) := (by omega)
             have q239 : 6 < (x11_4.length : Int) := of_decide_eq_true (by first | (with_reducible assumption) | assumption)
             obtain ⟨ad239, e239, hx239_0⟩ := Kd.at_int (Kd.R_reads' HO_11.out).2.2 6 p239 q239
             obtain rfl : ad216 = ad239 := (by injection e239)
             (try simp only [show (6 : Int).toNat = 6 from rfl, Nat.reduceMul, Nat.reduceEqDiff, Go.Addr.add, ↓reduceIte] at hx239_0)
             have qi239 : (6 < x11_4.length) = True := eq_true (by omega)
             (try rw [show ((6 : Int)).toNat = 6 from rfl] at hx239_0)
             replace p239 := eq_true p239
             replace q239 := eq_true q239
             refine start_ (n := 30) (S := fun w' => w'.cell? ad216 = some (.int .i64 (rd x11_4 0)) ∧ w'.cell? ⟨ad216.block, ad216.off + 1, none⟩ = some (.int .i64 (rd x11_4 1)) ∧ w'.cell? ⟨ad216.block, ad216.off + 2, none⟩ = some (.int .i64 (rd x11_4 2)) ∧ w'.cell? ⟨ad216.block, ad216.off + 3, none⟩ = some (.int .i64 (rd x11_4 3)) ∧ w'.cell? ⟨ad216.block, ad216.off + 4, none⟩ = some (.int .i64 (rd x11_4 4)) ∧ w'.cell? ⟨ad216.block, ad216.off + 5, none⟩ = some (.int .i64 (rd x11_4 5)) ∧ w'.cell? ⟨ad216.block, ad216.off + 6, none⟩ = some (.int .i64 (rd x11_4 6))) (ds := []) #[F_, F_, F_, F_, F_, F_, F_, F_, F_, F_, F_, F_, F_, F_, F_, F_, F_, F_, F_, F_, F_, F_, F_, F_, F_, F_, F_, F_, F_, F_] (by kernel_rfl) rfl rfl ⟨hx233_0, hx234_0, hx235_0, hx236_0, hx237_0, hx238_0, hx239_0⟩ (fun hHeld => ?_); refine with_tabW vitrineref14_Sum.tab24 vitrineref14_Sum.bits24 (fun HT_ HW_ => ?_)
             generalize w81.drew = w82 at HO_3 HO_4 HO_5 HO_6 HO_11 HB hx233_0 hx234_0 hx235_0 hx236_0 hx237_0 hx238_0 hx239_0 hHeld ⊢
             refine pure_ (i := 0) (N := some 193) (v := ?_) (a' := ?_) #[T_, F_, F_, F_, F_, F_, F_, F_, F_, F_, F_, F_, F_, F_, F_, F_, F_, F_, F_, F_, F_, F_, F_, F_, F_, F_, F_, F_, F_, F_] rfl rfl (any_of HT_.out (by kernel_rfl)) (fun _ _ _ h => h) (Or.inl ⟨by rfl, ?_⟩) ?_ ?_
             rotate_left; (focus (intro w'; go_simp; with_reducible rfl))
             rotate_left; (focus (simp only [Act.put, zq1, zq2, zq3, i64_w, i32_w]; rfl))
             refine pure_ (i := 1) (N := some 194) (v := ?_) (a' := ?_) #[T_, T_, F_, F_, F_, F_, F_, F_, F_, F_, F_, F_, F_, F_, F_, F_, F_, F_, F_, F_, F_, F_, F_, F_, F_, F_, F_, F_, F_, F_] rfl rfl (any_of HT_.out (by kernel_rfl)) (fun _ _ _ h => h) (Or.inl ⟨by rfl, ?_⟩) ?_ ?_
             rotate_left; (focus (intro w'; go_simp; with_reducible rfl))
             rotate_left; (focus (simp only [Act.put, zq1, zq2, zq3, i64_w, i32_w]; rfl))
             refine pure_ (i := 2) (N := some 195) (v := ?_) (a' := ?_) #[T_, T_, T_, F_, F_, F_, F_, F_, F_, F_, F_, F_, F_, F_, F_, F_, F_, F_, F_, F_, F_, F_, F_, F_, F_, F_, F_, F_, F_, F_] rfl rfl (any_of HT_.out (by kernel_rfl)) (fun _ _ _ h => h) (Or.inl ⟨by rfl, ?_⟩) ?_ ?_
             rotate_left; (focus (intro w'; go_simp; with_reducible rfl))
             rotate_left; (focus (simp only [Act.put, zq1, zq2, zq3, i64_w, i32_w]; rfl))
             refine pure_ (i := 3) (N := some 196) (v := ?_) (a' := ?_) #[T_, T_, T_, T_, F_, F_, F_, F_, F_, F_, F_, F_, F_, F_, F_, F_, F_, F_, F_, F_, F_, F_, F_, F_, F_, F_, F_, F_, F_, F_] rfl rfl (any_of HT_.out (by kernel_rfl)) (fun _ _ _ h => h) (Or.inl ⟨by rfl, ?_⟩) ?_ ?_
             rotate_left; (focus (intro w'; go_simp; with_reducible rfl))
             rotate_left; (focus (simp only [Act.put, zq1, zq2, zq3, i64_w, i32_w]; rfl))
             refine pure_ (i := 4) (N := some 197) (v := ?_) (a' := ?_) #[T_, T_, T_, T_, T_, F_, F_, F_, F_, F_, F_, F_, F_, F_, F_, F_, F_, F_, F_, F_, F_, F_, F_, F_, F_, F_, F_, F_, F_, F_] rfl rfl (any_of HT_.out (by kernel_rfl)) (fun _ _ _ h => h) (Or.inl ⟨by rfl, ?_⟩) ?_ ?_
             rotate_left; (focus (intro w'; go_simp; with_reducible rfl))
             rotate_left; (focus (simp only [Act.put, zq1, zq2, zq3, i64_w, i32_w]; rfl))
             refine pure_ (i := 5) (N := some 198) (v := ?_) (a' := ?_) #[T_, T_, T_, T_, T_, T_, F_, F_, F_, F_, F_, F_, F_, F_, F_, F_, F_, F_, F_, F_, F_, F_, F_, F_, F_, F_, F_, F_, F_, F_] rfl rfl (any_of HT_.out (by kernel_rfl)) (fun _ _ _ h => h) (Or.inl ⟨by rfl, ?_⟩) ?_ ?_
             rotate_left; (focus (intro w'; go_simp; with_reducible rfl))
             rotate_left; (focus (simp only [Act.put, zq1, zq2, zq3, i64_w, i32_w]; rfl))
             refine pure_ (i := 7) (N := some 200) (v := ?_) (a' := ?_) #[T_, T_, T_, T_, T_, T_, F_, T_, F_, F_, F_, F_, F_, F_, F_, F_, F_, F_, F_, F_, F_, F_, F_, F_, F_, F_, F_, F_, F_, F_] rfl rfl (any_of HT_.out (by kernel_rfl)) (fun _ _ _ h => h) (Or.inl ⟨by rfl, ?_⟩) ?_ ?_
             rotate_left; (focus (intro w'; go_simp; with_reducible rfl))
             rotate_left; (focus (simp only [Act.put, zq1, zq2, zq3, i64_w, i32_w]; rfl))
             refine pure_ (i := 8) (N := some 201) (v := ?_) (a' := ?_) #[T_, T_, T_, T_, T_, T_, F_, T_, T_, F_, F_, F_, F_, F_, F_, F_, F_, F_, F_, F_, F_, F_, F_, F_, F_, F_, F_, F_, F_, F_] rfl rfl (any_of HT_.out (by kernel_rfl)) (fun _ _ _ h => h) (Or.inl ⟨by rfl, ?_⟩) ?_ ?_
             rotate_left; (focus (intro w'; go_simp; with_reducible rfl))
             rotate_left; (focus (simp only [Act.put, zq1, zq2, zq3, i64_w, i32_w]; rfl))
             refine pure_ (i := 10) (N := some 203) (v := ?_) (a' := ?_) #[T_, T_, T_, T_, T_, T_, F_, T_, T_, F_, T_, F_, F_, F_, F_, F_, F_, F_, F_, F_, F_, F_, F_, F_, F_, F_, F_, F_, F_, F_] rfl rfl (any_of HT_.out (by kernel_rfl)) (fun _ _ _ h => h) (Or.inl ⟨by rfl, ?_⟩) ?_ ?_
             rotate_left; (focus (intro w'; go_simp; with_reducible rfl))
             rotate_left; (focus (simp only [Act.put, zq1, zq2, zq3, i64_w, i32_w]; rfl))
             refine pure_ (i := 11) (N := some 204) (v := ?_) (a' := ?_) #[T_, T_, T_, T_, T_, T_, F_, T_, T_, F_, T_, T_, F_, F_, F_, F_, F_, F_, F_, F_, F_, F_, F_, F_, F_, F_, F_, F_, F_, F_] rfl rfl (any_of HT_.out (by kernel_rfl)) (fun _ _ _ h => h) (Or.inl ⟨by rfl, ?_⟩) ?_ ?_
             rotate_left; (focus (intro w'; go_simp; with_reducible rfl))
             rotate_left; (focus (simp only [Act.put, zq1, zq2, zq3, i64_w, i32_w]; rfl))
             refine pure_ (i := 13) (N := some 206) (v := ?_) (a' := ?_) #[T_, T_, T_, T_, T_, T_, F_, T_, T_, F_, T_, T_, F_, T_, F_, F_, F_, F_, F_, F_, F_, F_, F_, F_, F_, F_, F_, F_, F_, F_] rfl rfl (any_of HT_.out (by kernel_rfl)) (fun _ _ _ h => h) (Or.inl ⟨by rfl, ?_⟩) ?_ ?_
             rotate_left; (focus (intro w'; go_simp; with_reducible rfl))
             rotate_left; (focus (simp only [Act.put, zq1, zq2, zq3, i64_w, i32_w]; rfl))
             refine pure_ (i := 14) (N := some 207) (v := ?_) (a' := ?_) #[T_, T_, T_, T_, T_, T_, F_, T_, T_, F_, T_, T_, F_, T_, T_, F_, F_, F_, F_, F_, F_, F_, F_, F_, F_, F_, F_, F_, F_, F_] rfl rfl (any_of HT_.out (by kernel_rfl)) (fun _ _ _ h => h) (Or.inl ⟨by rfl, ?_⟩) ?_ ?_
             rotate_left; (focus (intro w'; go_simp; with_reducible rfl))
             rotate_left; (focus (simp only [Act.put, zq1, zq2, zq3, i64_w, i32_w]; rfl))
             refine pure_ (i := 16) (N := some 209) (v := ?_) (a' := ?_) #[T_, T_, T_, T_, T_, T_, F_, T_, T_, F_, T_, T_, F_, T_, T_, F_, T_, F_, F_, F_, F_, F_, F_, F_, F_, F_, F_, F_, F_, F_] rfl rfl (any_of HT_.out (by kernel_rfl)) (fun _ _ _ h => h) (Or.inl ⟨by rfl, ?_⟩) ?_ ?_
             rotate_left; (focus (intro w'; go_simp; with_reducible rfl))
             rotate_left; (focus (simp only [Act.put, zq1, zq2, zq3, i64_w, i32_w]; rfl))
             refine pure_ (i := 19) (N := some 212) (v := ?_) (a' := ?_) #[T_, T_, T_, T_, T_, T_, F_, T_, T_, F_, T_, T_, F_, T_, T_, F_, T_, F_, F_, T_, F_, F_, F_, F_, F_, F_, F_, F_, F_, F_] rfl rfl (any_of HT_.out (by kernel_rfl)) (fun _ _ _ h => h) (Or.inl ⟨by rfl, ?_⟩) ?_ ?_
             rotate_left; (focus (intro w'; go_simp; with_reducible rfl))
             rotate_left; (focus (simp only [Act.put, zq1, zq2, zq3, i64_w, i32_w]; rfl))
             refine pure_ (i := 20) (N := some 213) (v := ?_) (a' := ?_) #[T_, T_, T_, T_, T_, T_, F_, T_, T_, F_, T_, T_, F_, T_, T_, F_, T_, F_, F_, T_, T_, F_, F_, F_, F_, F_, F_, F_, F_, F_] rfl rfl (any_of HT_.out (by kernel_rfl)) (fun _ _ _ h => h) (Or.inl ⟨by rfl, ?_⟩) ?_ ?_
             rotate_left; (focus (intro w'; go_simp; with_reducible rfl))
             rotate_left; (focus (simp only [Act.put, zq1, zq2, zq3, i64_w, i32_w]; rfl))
             refine pure_ (i := 22) (N := some 215) (v := ?_) (a' := ?_) #[T_, T_, T_, T_, T_, T_, F_, T_, T_, F_, T_, T_, F_, T_, T_, F_, T_, F_, F_, T_, T_, F_, T_, F_, F_, F_, F_, F_, F_, F_] rfl rfl (any_of HT_.out (by kernel_rfl)) (fun _ _ _ h => h) (Or.inl ⟨by rfl, ?_⟩) ?_ ?_
             rotate_left; (focus (intro w'; go_simp; with_reducible rfl))
             rotate_left; (focus (simp only [Act.put, zq1, zq2, zq3, i64_w, i32_w]; rfl))
             refine pure_ (i := 23) (N := some 216) (v := ?_) (a' := ?_) #[T_, T_, T_, T_, T_, T_, F_, T_, T_, F_, T_, T_, F_, T_, T_, F_, T_, F_, F_, T_, T_, F_, T_, T_, F_, F_, F_, F_, F_, F_] rfl rfl (any_of HT_.out (by kernel_rfl)) (fun _ _ _ h => h) (Or.inl ⟨by rfl, ?_⟩) ?_ ?_
             rotate_left; (focus (intro w'; go_simp; with_reducible rfl))
             rotate_left; (focus (simp only [Act.put, zq1, zq2, zq3, i64_w, i32_w]; rfl))
             refine pure_ (i := 25) (N := some 218) (v := ?_) (a' := ?_) #[T_, T_, T_, T_, T_, T_, F_, T_, T_, F_, T_, T_, F_, T_, T_, F_, T_, F_, F_, T_, T_, F_, T_, T_, F_, T_, F_, F_, F_, F_] rfl rfl (any_of HT_.out (by kernel_rfl)) (fun _ _ _ h => h) (Or.inl ⟨by rfl, ?_⟩) ?_ ?_
             rotate_left; (focus (intro w'; go_simp; with_reducible rfl))
             rotate_left; (focus (simp only [Act.put, zq1, zq2, zq3, i64_w, i32_w]; rfl))
             refine pure_ (i := 26) (N := some 219) (v := ?_) (a' := ?_) #[T_, T_, T_, T_, T_, T_, F_, T_, T_, F_, T_, T_, F_, T_, T_, F_, T_, F_, F_, T_, T_, F_, T_, T_, F_, T_, T_, F_, F_, F_] rfl rfl (any_of HT_.out (by kernel_rfl)) (fun _ _ _ h => h) (Or.inl ⟨by rfl, ?_⟩) ?_ ?_
             rotate_left; (focus (intro w'; go_simp; with_reducible rfl))
             rotate_left; (focus (simp only [Act.put, zq1, zq2, zq3, i64_w, i32_w]; rfl))
             refine take_ (i := 6) (N := some 199) (v := ?_) (a' := ?_) #[T_, T_, T_, T_, T_, T_, T_, T_, T_, F_, T_, T_, F_, T_, T_, F_, T_, F_, F_, T_, T_, F_, T_, T_, F_, T_, T_, F_, F_, F_] rfl rfl (take_ofW HT_.out HW_.out (by kernel_rfl)) (fun _ _ _ h => h) (Or.inl ⟨by rfl, ?_⟩) hHeld ?_ ?_
             rotate_left; (focus (rintro w' ⟨s0, s1, s2, s3, s4, s5, s6⟩; go_simp; with_reducible rfl))
             rotate_left; (focus (simp only [Act.put, zq1, zq2, zq3, i64_w, i32_w]; rfl))
             refine take_ (i := 9) (N := some 202) (v := ?_) (a' := ?_) #[T_, T_, T_, T_, T_, T_, T_, T_, T_, T_, T_, T_, F_, T_, T_, F_, T_, F_, F_, T_, T_, F_, T_, T_, F_, T_, T_, F_, F_, F_] rfl rfl (take_ofW HT_.out HW_.out (by kernel_rfl)) (fun _ _ _ h => h) (Or.inl ⟨by rfl, ?_⟩) hHeld ?_ ?_
             rotate_left; (focus (rintro w' ⟨s0, s1, s2, s3, s4, s5, s6⟩; go_simp; with_reducible rfl))
             rotate_left; (focus (simp only [Act.put, zq1, zq2, zq3, i64_w, i32_w]; rfl))
             refine take_ (i := 12) (N := some 205) (v := ?_) (a' := ?_) #[T_, T_, T_, T_, T_, T_, T_, T_, T_, T_, T_, T_, T_, T_, T_, F_, T_, F_, F_, T_, T_, F_, T_, T_, F_, T_, T_, F_, F_, F_] rfl rfl (take_ofW HT_.out HW_.out (by kernel_rfl)) (fun _ _ _ h => h) (Or.inl ⟨by rfl, ?_⟩) hHeld ?_ ?_
             rotate_left; (focus (rintro w' ⟨s0, s1, s2, s3, s4, s5, s6⟩; go_simp; with_reducible rfl))
             rotate_left; (focus (simp only [Act.put, zq1, zq2, zq3, i64_w, i32_w]; rfl))
             refine take_ (i := 15) (N := some 208) (v := ?_) (a' := ?_) #[T_, T_, T_, T_, T_, T_, T_, T_, T_, T_, T_, T_, T_, T_, T_, T_, T_, F_, F_, T_, T_, F_, T_, T_, F_, T_, T_, F_, F_, F_] rfl rfl (take_ofW HT_.out HW_.out (by kernel_rfl)) (fun _ _ _ h => h) (Or.inl ⟨by rfl, ?_⟩) hHeld ?_ ?_
             rotate_left; (focus (rintro w' ⟨s0, s1, s2, s3, s4, s5, s6⟩; go_simp; with_reducible rfl))
             rotate_left; (focus (simp only [Act.put, zq1, zq2, zq3, i64_w, i32_w]; rfl))
             refine pure_ (i := 17) (N := some 210) (v := ?_) (a' := ?_) #[T_, T_, T_, T_, T_, T_, T_, T_, T_, T_, T_, T_, T_, T_, T_, T_, T_, T_, F_, T_, T_, F_, T_, T_, F_, T_, T_, F_, F_, F_] rfl rfl (any_of HT_.out (by kernel_rfl)) (fun _ _ _ h => h) (Or.inl ⟨by rfl, ?_⟩) ?_ ?_
             rotate_left; (focus (intro w'; go_simp; with_reducible rfl))
             rotate_left; (focus (simp only [Act.put, zq1, zq2, zq3, i64_w, i32_w]; rfl))
             refine pure_ (i := 18) (N := some 211) (v := ?_) (a' := ?_) #[T_, T_, T_, T_, T_, T_, T_, T_, T_, T_, T_, T_, T_, T_, T_, T_, T_, T_, T_, T_, T_, F_, T_, T_, F_, T_, T_, F_, F_, F_] rfl rfl (any_of HT_.out (by kernel_rfl)) (fun _ _ _ h => h) (Or.inl ⟨by rfl, ?_⟩) ?_ ?_
             rotate_left; (focus (intro w'; go_simp; with_reducible rfl))
             rotate_left; (focus (simp only [Act.put, zq1, zq2, zq3, i64_w, i32_w]; rfl))
             refine take_ (i := 21) (N := some 214) (v := ?_) (a' := ?_) #[T_, T_, T_, T_, T_, T_, T_, T_, T_, T_, T_, T_, T_, T_, T_, T_, T_, T_, T_, T_, T_, T_, T_, T_, F_, T_, T_, F_, F_, F_] rfl rfl (take_ofW HT_.out HW_.out (by kernel_rfl)) (fun _ _ _ h => h) (Or.inl ⟨by rfl, ?_⟩) hHeld ?_ ?_
             rotate_left; (focus (rintro w' ⟨s0, s1, s2, s3, s4, s5, s6⟩; go_simp; with_reducible rfl))
             rotate_left; (focus (simp only [Act.put, zq1, zq2, zq3, i64_w, i32_w]; rfl))
             refine take_ (i := 24) (N := some 217) (v := ?_) (a' := ?_) #[T_, T_, T_, T_, T_, T_, T_, T_, T_, T_, T_, T_, T_, T_, T_, T_, T_, T_, T_, T_, T_, T_, T_, T_, T_, T_, T_, F_, F_, F_] rfl rfl (take_ofW HT_.out HW_.out (by kernel_rfl)) (fun _ _ _ h => h) (Or.inl ⟨by rfl, ?_⟩) hHeld ?_ ?_
             rotate_left; (focus (rintro w' ⟨s0, s1, s2, s3, s4, s5, s6⟩; go_simp; with_reducible rfl))
             rotate_left; (focus (simp only [Act.put, zq1, zq2, zq3, i64_w, i32_w]; rfl))
             refine take_ (i := 27) (N := some 220) (v := ?_) (a' := ?_) #[T_, T_, T_, T_, T_, T_, T_, T_, T_, T_, T_, T_, T_, T_, T_, T_, T_, T_, T_, T_, T_, T_, T_, T_, T_, T_, T_, T_, F_, F_] rfl rfl (take_ofW HT_.out HW_.out (by kernel_rfl)) (fun _ _ _ h => h) (Or.inl ⟨by rfl, ?_⟩) hHeld ?_ ?_
             rotate_left; (focus (rintro w' ⟨s0, s1, s2, s3, s4, s5, s6⟩; go_simp; with_reducible rfl))
             rotate_left; (focus (simp only [Act.put, zq1, zq2, zq3, i64_w, i32_w]; rfl))
             refine one_ (i := 28) (N := some 221) #[T_, T_, T_, T_, T_, T_, T_, T_, T_, T_, T_, T_, T_, T_, T_, T_, T_, T_, T_, T_, T_, T_, T_, T_, T_, T_, T_, T_, T_, F_] rfl rfl (one_of HT_.out (by kernel_rfl)) (by decide) (fun K hK => ?_)
             refine Kd.R_lit_step (Kd.int .i64) _ 3 ?hg (N := 221) ?hd (xs := ([Int.tmod (wrap64 ((X_) + (Y_))) 4294967296, rd x11_4 0, rd x11_4 1, rd x11_4 2, Int.tmod (wrap64 ((rd x11_4 3) + (X_))) 4294967296, rd x11_4 4, rd x11_4 5, rd x11_4 6] : List Int)) (inner := [.int .i64 (Int.tmod (wrap64 ((X_) + (Y_))) 4294967296), .int .i64 (rd x11_4 0), .int .i64 (rd x11_4 1), .int .i64 (rd x11_4 2), .int .i64 (Int.tmod (wrap64 ((rd x11_4 3) + (X_))) 4294967296), .int .i64 (rd x11_4 4), .int .i64 (rd x11_4 5), .int .i64 (rd x11_4 6)]) (ok := fun _ => True) (okp := fun _ => True) ?hr ?hp (fun _ hk => hk) trivial (Below.refl _ _) (Nat.le_refl _) (by simp) ?_; (case hd => rfl); (case hg => rfl); (case hr => exact build8 _ _ (.tmp 196) (.tmp 199) (.tmp 202) (.tmp 205) (.tmp 211) (.tmp 214) (.tmp 217) (.tmp 220) _ _ _ _ _ _ _ _ (by kernel_rfl) (by kernel_rfl) (by kernel_rfl) (by kernel_rfl) (by kernel_rfl) (by kernel_rfl) (by kernel_rfl) (by kernel_rfl) (by kernel_rfl) _); (case hp => exact (Reps.one (show Kd.M (Kd.int .i64) _ _ _ (Int.tmod (wrap64 ((X_) + (Y_))) 4294967296) [.int .i64 (Int.tmod (wrap64 ((X_) + (Y_))) 4294967296)] from rfl) (Reps.one (show Kd.M (Kd.int .i64) _ _ _ (rd x11_4 0) [.int .i64 (rd x11_4 0)] from rfl) (Reps.one (show Kd.M (Kd.int .i64) _ _ _ (rd x11_4 1) [.int .i64 (rd x11_4 1)] from rfl) (Reps.one (show Kd.M (Kd.int .i64) _ _ _ (rd x11_4 2) [.int .i64 (rd x11_4 2)] from rfl) (Reps.one (show Kd.M (Kd.int .i64) _ _ _ (Int.tmod (wrap64 ((rd x11_4 3) + (X_))) 4294967296) [.int .i64 (Int.tmod (wrap64 ((rd x11_4 3) + (X_))) 4294967296)] from rfl) (Reps.one (show Kd.M (Kd.int .i64) _ _ _ (rd x11_4 4) [.int .i64 (rd x11_4 4)] from rfl) (Reps.one (show Kd.M (Kd.int .i64) _ _ _ (rd x11_4 5) [.int .i64 (rd x11_4 5)] from rfl) (Reps.one (show Kd.M (Kd.int .i64) _ _ _ (rd x11_4 6) [.int .i64 (rd x11_4 6)] from rfl) (Reps.none _ _))))))))))
             intro v241 w83 ho84 hb hg_ hnew_
             have HS0_ := (hb.cell (World.block_lt_of_cell? _ _ (hHeld.1))).trans (hHeld.1)
             have HS1_ := (hb.cell (World.block_lt_of_cell? _ _ (hHeld.2.1))).trans (hHeld.2.1)
             have HS2_ := (hb.cell (World.block_lt_of_cell? _ _ (hHeld.2.2.1))).trans (hHeld.2.2.1)
             have HS3_ := (hb.cell (World.block_lt_of_cell? _ _ (hHeld.2.2.2.1))).trans (hHeld.2.2.2.1)
             have HS4_ := (hb.cell (World.block_lt_of_cell? _ _ (hHeld.2.2.2.2.1))).trans (hHeld.2.2.2.2.1)
             have HS5_ := (hb.cell (World.block_lt_of_cell? _ _ (hHeld.2.2.2.2.2.1))).trans (hHeld.2.2.2.2.2.1)
             have HS6_ := (hb.cell (World.block_lt_of_cell? _ _ (hHeld.2.2.2.2.2.2))).trans (hHeld.2.2.2.2.2.2)
             clear hg_ hnew_
             (first | rw [← Ny240.out] at ho84 | (simp only [Int.reduceToNat] at ho84; rw [← Ny240.out] at ho84))
             have n0_ := Aside0.mk (Kd.R_elder' (by (with_reducible repeat (first | apply Kd.R_alloc | apply Kd.R_drewN | apply Kd.R_drew)); exact HO_3.out) (Kd.R_base ho84) hb)
             have n1_ := Aside0.mk (Kd.R_elder' (by (with_reducible repeat (first | apply Kd.R_alloc | apply Kd.R_drewN | apply Kd.R_drew)); exact HO_4.out) (Kd.R_base ho84) hb)
             have n2_ := Aside0.mk (Go.Proofs.YtbonmhgihedjpaaM.QM_below (by (with_reducible repeat (first | apply Go.Proofs.YtbonmhgihedjpaaM.QM_alloc | apply Go.Proofs.YtbonmhgihedjpaaM.QM_drewN | apply Go.Proofs.YtbonmhgihedjpaaM.QM_drew)); exact HO_5.out) hb)
             have n3_ := Aside0.mk (Kd.R_elder' (by (with_reducible repeat (first | apply Kd.R_alloc | apply Kd.R_drewN | apply Kd.R_drew)); exact HO_6.out) (Kd.R_base ho84) hb)
             have n4_ := Aside0.mk (Kd.R_elder' (by (with_reducible repeat (first | apply Kd.R_alloc | apply Kd.R_drewN | apply Kd.R_drew)); exact HO_11.out) (Kd.R_base ho84) hb)
             have n5_ := Aside0.mk (Kd.R_lower (Kd.R_new' (Kd.R_new' (Kd.R_new' (Kd.R_new' ho84 (Kd.R_lt (by (with_reducible repeat (first | apply Kd.R_alloc | apply Kd.R_drewN | apply Kd.R_drew)); exact HO_3.out))) (Kd.R_lt (by (with_reducible repeat (first | apply Kd.R_alloc | apply Kd.R_drewN | apply Kd.R_drew)); exact HO_4.out))) (Kd.R_lt (by (with_reducible repeat (first | apply Kd.R_alloc | apply Kd.R_drewN | apply Kd.R_drew)); exact HO_6.out))) (Kd.R_lt (by (with_reducible repeat (first | apply Kd.R_alloc | apply Kd.R_drewN | apply Kd.R_drew)); exact HO_11.out))) (below_size (by repeat (first | (with_reducible first | exact HB.out | apply below_alloc | apply pw_below_drewN | apply below_drew1) | exact HB.out))))
             have n6_ := Aside0.mk (below_step (by repeat (first | (with_reducible first | exact HB.out | apply below_alloc | apply pw_below_drewN | apply below_drew1) | exact HB.out)) hb)
             clear HO_3
             clear HO_4
             clear HO_5
             clear HO_6
             clear HO_11
             clear HB
             have HO_3 := n0_
             have HO_4 := n1_
             have HO_5 := n2_
             have HO_6 := n3_
             have HO_11 := n4_
             have HO242 := n5_
             have HB := n6_
             clear n0_ n1_ n2_ n3_ n4_ n5_ n6_
             clear hb ho84
             refine hK.out _ _ ⟨HS0_, HS1_, HS2_, HS3_, HS4_, HS5_, HS6_⟩ (fun hHeld => ?_)
             clear hK K
             refine norm_ (a' := ?_) ?_ ?_
             rotate_left; (focus (show Act.put _ (some 221) _ = _; simp only [Act.put, zq1, zq2, zq3, i64_w, i32_w]; rfl))
             refine pure_ (i := 29) (N := some 11) (v := ?_) (a' := ?_) #[T_, T_, T_, T_, T_, T_, T_, T_, T_, T_, T_, T_, T_, T_, T_, T_, T_, T_, T_, T_, T_, T_, T_, T_, T_, T_, T_, T_, T_, T_] rfl rfl (any_of HT_.out (by kernel_rfl)) (fun _ _ _ h => h) (Or.inl ⟨by rfl, ?_⟩) ?_ ?_
             rotate_left; (focus (intro w'; go_simp; with_reducible rfl))
             rotate_left; (focus (simp only [Act.put, zq1, zq2, zq3, i64_w, i32_w]; rfl))
             refine done_ (done_of HT_.out (by kernel_rfl)) ?_
             try go_wp2
             go_roundg k4
             case measure => have := HK1.out; have := HK2.out; have := HK3.out; have := HK4.out; omega
             case rel => exact ⟨(y240), (wrap64 (x12_4 + 1)), (by first | rfl | (simp; done) | (simp [*]; done)), H', ⟨by have := HK1.out; have := HK2.out; have := HK3.out; have := HK4.out; omega⟩, ⟨by (with_reducible repeat (first | apply Kd.R_alloc | apply Kd.R_drewN | apply Kd.R_drew)); exact Kd.R_mono HO_3.out (fun _ hk => by obtain ⟨⟨a1_, a2_, a3_⟩, a4_⟩ := hk; refine ⟨?_, ?_, ?_⟩ <;> assumption)⟩, ⟨by (with_reducible repeat (first | apply Kd.R_alloc | apply Kd.R_drewN | apply Kd.R_drew)); exact Kd.R_mono HO_4.out (fun _ hk => by obtain ⟨⟨a1_, a2_, a3_⟩, a4_⟩ := hk; refine ⟨?_, ?_, ?_⟩ <;> assumption)⟩, ⟨by (with_reducible repeat (first | apply Go.Proofs.YtbonmhgihedjpaaM.QM_alloc | apply Go.Proofs.YtbonmhgihedjpaaM.QM_drewN | apply Go.Proofs.YtbonmhgihedjpaaM.QM_drew)); exact HO_5.out⟩, ⟨by (with_reducible repeat (first | apply Kd.R_alloc | apply Kd.R_drewN | apply Kd.R_drew)); exact Kd.R_mono HO_6.out (fun _ hk => by obtain ⟨⟨a1_, a2_, a3_⟩, a4_⟩ := hk; refine ⟨?_, ?_, ?_⟩ <;> assumption)⟩, ⟨by (with_reducible repeat (first | apply Kd.R_alloc | apply Kd.R_drewN | apply Kd.R_drew)); exact Kd.R_mono HO242.out (fun _ hk => ⟨hk.1.1.1.2, ⟨hk.1.1.2, hk.1.2⟩⟩)⟩, ⟨by repeat (first | (with_reducible first | exact HB.out | apply below_alloc | apply pw_below_drewN | apply below_drew1) | exact HB.out)⟩⟩
            ·
             as_aux_lemma =>
             rw [if_neg c59] at H
             have c59b0 : decide (x12_4 < 64) = false := decide_eq_false c59
             clear c59
             have H' := Aside0.mk H
             clear H
             go_wp2
             go_loopg [17] k4 (fun kq v17 w' => ∃ (x3_5 : List Int) (x17_5 : Int), v17 = .int .i64 x17_5 ∧ Aside0 (vitrineref14_Sum.l4 kq x3_5 x4_1 x5_1 x11_4 x17_5 = some r) ∧ Aside0 (kq ≤ k4) ∧ Aside0 (Kd.R (Kd.int .i64) 3 w' w.heap.size (fun k_ => some k_ ≠ (v188 : Value).ownBlock ∧ some k_ ≠ (u11 : Value).ownBlock) (.slice Ao58 x3_1.length co58) x3_5) ∧ Aside0 (Kd.R (Kd.int .i64) 3 w' w.heap.size (fun k_ => some k_ ≠ ((.slice Ao58 x3_1.length co58) : Value).ownBlock ∧ some k_ ≠ (u11 : Value).ownBlock) v188 x4_1) ∧ Aside0 (Go.Proofs.YtbonmhgihedjpaaM.QM (Kd.int .u8) 5 w' w.heap.size (fun _ => True) (.slice Ao10 x5_1.length co10) x5_1) ∧ Aside0 (Kd.R (Kd.int .i64) 3 w' w.heap.size (fun k_ => some k_ ≠ ((.slice Ao58 x3_1.length co58) : Value).ownBlock ∧ some k_ ≠ (v188 : Value).ownBlock) u11 x11_4) ∧ Aside0 (Below w.heap.size w w'))
             case atStart => exact ⟨(x3_1), (0), (by first | rfl | (simp; done) | (simp [*]; done)), H', ⟨Nat.le_refl _⟩, ⟨by (with_reducible repeat (first | apply Kd.R_alloc | apply Kd.R_drewN | apply Kd.R_drew)); exact Kd.R_mono HO_3.out (fun _ hk => ⟨hk.1, hk.2.2⟩)⟩, ⟨by (with_reducible repeat (first | apply Kd.R_alloc | apply Kd.R_drewN | apply Kd.R_drew)); exact Kd.R_mono HO_4.out (fun _ hk => ⟨hk.1, hk.2.2⟩)⟩, ⟨by (with_reducible repeat (first | apply Go.Proofs.YtbonmhgihedjpaaM.QM_alloc | apply Go.Proofs.YtbonmhgihedjpaaM.QM_drewN | apply Go.Proofs.YtbonmhgihedjpaaM.QM_drew)); exact HO_5.out⟩, ⟨by (with_reducible repeat (first | apply Kd.R_alloc | apply Kd.R_drewN | apply Kd.R_drew)); exact Kd.R_mono HO_11.out (fun _ hk => ⟨hk.1, hk.2.1⟩)⟩, ⟨by repeat (first | (with_reducible first | exact HB.out | apply below_alloc | apply pw_below_drewN | apply below_drew1) | exact HB.out)⟩⟩
             case round =>
              clear H'
              try clear p2
              try clear q2
              try clear hx2
              try clear qi2
              try clear c4
              try clear c5
              try clear c6
              try clear p6
              try clear c7
              try clear p23
              try clear q23
              try clear hx23
              try clear qi23
              try clear c44
              try clear c59
              try clear c59b0
              try clear c60
              try clear c61
              try clear c62
              try clear p64
              try clear c66
              try clear c67
              try clear c68
              try clear c69
              try clear c70
              try clear c74
              try clear c75
              try clear c76
              try clear hx233_0
              try clear hx234_0
              try clear hx235_0
              try clear hx236_0
              try clear hx237_0
              try clear hx238_0
              try clear hx239_0
              try clear p233
              try clear p234
              try clear p235
              try clear p236
              try clear p237
              try clear p238
              try clear p239
              try clear q233
              try clear q234
              try clear q235
              try clear q236
              try clear q237
              try clear q238
              try clear q239
              obtain ⟨x3_5, x17_5, rfl, HA, HK5, HO_3, HO_4, HO_5, HO_11, HB⟩ := hrel
              have hl3_5 := (Kd.R_reads' HO_3.out).1
              rw [hl3_5] at HO_3
              (try simp only [hl3_5])
              (try simp only [hl3_5] at HO_4)
              (try simp only [hl3_5] at HO_5)
              (try simp only [hl3_5] at HO_11)
              cases gk with
              | zero => exact absurd HA.out (by simp [vitrineref14_Sum.l4])
              | succ k5 =>
               have H := HA.out
               clear HA
               simp only [vitrineref14_Sum.l4] at H
               by_cases c85 : x17_5 < 8
               ·
                as_aux_lemma =>
                rw [if_pos c85] at H
                have c85b0 : decide (x17_5 < 8) = true := decide_eq_true c85
                clear c85
                by_cases c86 : 0 ≤ x17_5
                rotate_left
                ·
                 as_aux_lemma =>
                 rw [if_neg c86] at H
                 exact absurd H (by simp)
                as_aux_lemma =>
                rw [if_pos c86] at H
                have c86b0 : decide (0 ≤ x17_5) = true := decide_eq_true c86
                clear c86
                by_cases c87 : x17_5 < (x3_5.length : Int)
                rotate_left
                ·
                 as_aux_lemma =>
                 rw [if_neg c87] at H
                 exact absurd H (by simp)
                as_aux_lemma =>
                rw [if_pos c87] at H
                have c87b0 : decide (x17_5 < (x3_5.length : Int)) = true := decide_eq_true c87
                (try simp only [hl3_5] at c87b0)
                clear c87
                by_cases c88 : x17_5 < (x11_4.length : Int)
                rotate_left
                ·
                 as_aux_lemma =>
                 rw [if_neg c88] at H
                 exact absurd H (by simp)
                as_aux_lemma =>
                rw [if_pos c88] at H
                have c88b0 : decide (x17_5 < (x11_4.length : Int)) = true := decide_eq_true c88
                (try simp only [hl3_5] at c88b0)
                clear c88
                obtain ⟨y245, hy245⟩ : ∃ y_ : List Int, y_ = (x3_5.set (x17_5 : Int).toNat (Int.tmod (wrap64 ((rd x3_5 x17_5) + (rd x11_4 x17_5))) 4294967296)) := ⟨_, rfl⟩
                replace H : (vitrineref14_Sum.l4 k5 y245 x4_1 x5_1 x11_4 (wrap64 (x17_5 + 1))) = some r := by first | (rw [hy245]; with_reducible exact H) | (have H2_ := (Option.bind_some _ _).symm.trans H; rw [hy245]; with_reducible exact H2_) | (have H2_ := (Option.bind_some _ _).symm.trans H; with_reducible exact H2_) | with_reducible exact H | (rw [hy245]; exact H) | exact H
                have Ny245 := Aside0.mk hy245
                clear hy245
                have H' := Aside0.mk H
                clear H
                try go_wp2
                have n0_ := Aside0.mk (Kd.R_drew HO_3.out)
                have n1_ := Aside0.mk (Kd.R_drew HO_4.out)
                have n2_ := Aside0.mk (Go.Proofs.YtbonmhgihedjpaaM.QM_drew HO_5.out)
                have n3_ := Aside0.mk (Kd.R_drew HO_11.out)
                have n4_ := Aside0.mk (below_drew1 HB.out)
                clear HO_3
                clear HO_4
                clear HO_5
                clear HO_11
                clear HB
                have HO_3 := n0_
                have HO_4 := n1_
                have HO_5 := n2_
                have HO_11 := n3_
                have HB := n4_
                clear n0_ n1_ n2_ n3_ n4_
                have p243 : 0 ≤ (x17_5 : Int) := of_decide_eq_true (by first | (with_reducible assumption) | assumption)
                have q243 : x17_5 < (x3_5.length : Int) := of_decide_eq_true (by first | (with_reducible assumption) | assumption)
                obtain ⟨ad243, e243, hx243_0⟩ := Kd.at_int (Kd.R_reads' HO_3.out).2.2 x17_5 p243 q243
                cases e243
                replace p243 := eq_true p243
                replace q243 := eq_true q243
                obtain ⟨Ao91, co91, eo91⟩ := Kd.R_slice HO_11.out
                (first | subst eo91 | (injection eo91 with f1_ f2_ f3_; have f4_ := f1_.symm; have f5_ := f3_.symm; clear f1_ f2_ f3_; subst f4_; subst f5_))
                have p244 : 0 ≤ (x17_5 : Int) := of_decide_eq_true (by first | (with_reducible assumption) | assumption)
                have q244 : x17_5 < (x11_4.length : Int) := of_decide_eq_true (by first | (with_reducible assumption) | assumption)
                obtain ⟨ad244, e244, hx244_0⟩ := Kd.at_int (Kd.R_reads' HO_11.out).2.2 x17_5 p244 q244
                cases e244
                replace p244 := eq_true p244
                replace q244 := eq_true q244
                have p89 : 0 ≤ (x17_5 : Int) := of_decide_eq_true (by first | (with_reducible assumption) | assumption)
                have q89 : (x17_5 : Int) < ((x3_5.length : Int) : Int) := of_decide_eq_true (by first | (with_reducible assumption) | assumption)
                obtain ⟨go89, co89, eo89, gb89, gl89, cl89, HG89⟩ := Kd.R_form HO_3.out (by omega)
                (first | cases eo89 | (injection eo89 with ea_ en_ ec_; (first | subst ea_ | (injection ea_ with ea_; subst ea_)); subst ec_; clear en_))
                have GB89 := Aside0.mk gb89
                have GG89 := Aside0.mk HG89
                clear gb89 gl89 HG89
                (first | simp only [add_plain] at hx243_0 | skip)
                obtain ⟨hx89_0, hf89_0⟩ := Kd.R_celln 0 HO_3.out (x17_5 : Int) p89 q89
                replace p89 := eq_true p89
                replace q89 := eq_true q89
                have HP92 := Kd.R_putn HO_3.out (x17_5 : Int) (Int.tmod (wrap64 ((rd x3_5 x17_5) + (rd x11_4 x17_5))) 4294967296)
                rw [← Ny245.out] at HP92
                have HQ92 := Aside0.mk HP92
                clear HP92
                refine start_ (n := 14) (S := fun w' => w'.cell? ⟨go89, (x17_5).toNat, none⟩ = some (.int .i64 (rd x3_5 x17_5)) ∧ w'.cell? (ad244.add (x17_5).toNat) = some (.int .i64 (rd x11_4 x17_5))) (ds := [13]) #[F_, F_, F_, F_, F_, F_, F_, F_, F_, F_, F_, F_, F_, F_] (by kernel_rfl) rfl rfl ⟨hx243_0, hx244_0⟩ (fun hHeld => ?_); refine with_tabW vitrineref14_Sum.tab28 vitrineref14_Sum.bits28 (fun HT_ HW_ => ?_)
                generalize wr.drew = w90 at HO_3 HO_4 HO_5 HO_11 HB GG89 HQ92 hf89_0 hx243_0 hx244_0 hx89_0 hHeld ⊢
                refine pure_ (i := 0) (N := some 226) (v := ?_) (a' := ?_) #[T_, F_, F_, F_, F_, F_, F_, F_, F_, F_, F_, F_, F_, F_] rfl rfl (any_of HT_.out (by kernel_rfl)) (fun _ _ _ h => h) (Or.inl ⟨by rfl, ?_⟩) ?_ ?_
                rotate_left; (focus (intro w'; go_simp; with_reducible rfl))
                rotate_left; (focus (simp only [Act.put, zq1, zq2, zq3, i64_w, i32_w]; rfl))
                refine pure_ (i := 1) (N := some 227) (v := ?_) (a' := ?_) #[T_, T_, F_, F_, F_, F_, F_, F_, F_, F_, F_, F_, F_, F_] rfl rfl (any_of HT_.out (by kernel_rfl)) (fun _ _ _ h => h) (Or.inl ⟨by rfl, ?_⟩) ?_ ?_
                rotate_left; (focus (intro w'; go_simp; with_reducible rfl))
                rotate_left; (focus (simp only [Act.put, zq1, zq2, zq3, i64_w, i32_w]; rfl))
                refine pure_ (i := 2) (N := some 228) (v := ?_) (a' := ?_) #[T_, T_, T_, F_, F_, F_, F_, F_, F_, F_, F_, F_, F_, F_] rfl rfl (any_of HT_.out (by kernel_rfl)) (fun _ _ _ h => h) (Or.inl ⟨by rfl, ?_⟩) ?_ ?_
                rotate_left; (focus (intro w'; go_simp; with_reducible rfl))
                rotate_left; (focus (simp only [Act.put, zq1, zq2, zq3, i64_w, i32_w]; rfl))
                refine pure_ (i := 3) (N := some 229) (v := ?_) (a' := ?_) #[T_, T_, T_, T_, F_, F_, F_, F_, F_, F_, F_, F_, F_, F_] rfl rfl (any_of HT_.out (by kernel_rfl)) (fun _ _ _ h => h) (Or.inl ⟨by rfl, ?_⟩) ?_ ?_
                rotate_left; (focus (intro w'; go_simp; with_reducible rfl))
                rotate_left; (focus (simp only [Act.put, zq1, zq2, zq3, i64_w, i32_w]; rfl))
                refine pure_ (i := 4) (N := some 230) (v := ?_) (a' := ?_) #[T_, T_, T_, T_, T_, F_, F_, F_, F_, F_, F_, F_, F_, F_] rfl rfl (any_of HT_.out (by kernel_rfl)) (fun _ _ _ h => h) (Or.inl ⟨by rfl, ?_⟩) ?_ ?_
                rotate_left; (focus (intro w'; go_simp; with_reducible rfl))
                rotate_left; (focus (simp only [Act.put, zq1, zq2, zq3, i64_w, i32_w]; rfl))
                refine pure_ (i := 6) (N := some 232) (v := ?_) (a' := ?_) #[T_, T_, T_, T_, T_, F_, T_, F_, F_, F_, F_, F_, F_, F_] rfl rfl (any_of HT_.out (by kernel_rfl)) (fun _ _ _ h => h) (Or.inl ⟨by rfl, ?_⟩) ?_ ?_
                rotate_left; (focus (intro w'; go_simp; with_reducible rfl))
                rotate_left; (focus (simp only [Act.put, zq1, zq2, zq3, i64_w, i32_w]; rfl))
                refine pure_ (i := 7) (N := some 233) (v := ?_) (a' := ?_) #[T_, T_, T_, T_, T_, F_, T_, T_, F_, F_, F_, F_, F_, F_] rfl rfl (any_of HT_.out (by kernel_rfl)) (fun _ _ _ h => h) (Or.inl ⟨by rfl, ?_⟩) ?_ ?_
                rotate_left; (focus (intro w'; go_simp; with_reducible rfl))
                rotate_left; (focus (simp only [Act.put, zq1, zq2, zq3, i64_w, i32_w]; rfl))
                refine pure_ (i := 8) (N := some 234) (v := ?_) (a' := ?_) #[T_, T_, T_, T_, T_, F_, T_, T_, T_, F_, F_, F_, F_, F_] rfl rfl (any_of HT_.out (by kernel_rfl)) (fun _ _ _ h => h) (Or.inl ⟨by rfl, ?_⟩) ?_ ?_
                rotate_left; (focus (intro w'; go_simp; with_reducible rfl))
                rotate_left; (focus (simp only [Act.put, zq1, zq2, zq3, i64_w, i32_w]; rfl))
                refine take_ (i := 5) (N := some 231) (v := ?_) (a' := ?_) #[T_, T_, T_, T_, T_, T_, T_, T_, T_, F_, F_, F_, F_, F_] rfl rfl (take_ofW HT_.out HW_.out (by kernel_rfl)) (fun _ _ _ h => h) (Or.inl ⟨by rfl, ?_⟩) hHeld ?_ ?_
                rotate_left; (focus (rintro w' ⟨s0, s1⟩; go_simp; with_reducible rfl))
                rotate_left; (focus (simp only [Act.put, zq1, zq2, zq3, i64_w, i32_w]; rfl))
                refine take_ (i := 9) (N := some 235) (v := ?_) (a' := ?_) #[T_, T_, T_, T_, T_, T_, T_, T_, T_, T_, F_, F_, F_, F_] rfl rfl (take_ofW HT_.out HW_.out (by kernel_rfl)) (fun _ _ _ h => h) (Or.inl ⟨by rfl, ?_⟩) hHeld ?_ ?_
                rotate_left; (focus (rintro w' ⟨s0, s1⟩; go_simp; with_reducible rfl))
                rotate_left; (focus (simp only [Act.put, zq1, zq2, zq3, i64_w, i32_w]; rfl))
                refine pure_ (i := 10) (N := some 236) (v := ?_) (a' := ?_) #[T_, T_, T_, T_, T_, T_, T_, T_, T_, T_, T_, F_, F_, F_] rfl rfl (any_of HT_.out (by kernel_rfl)) (fun _ _ _ h => h) (Or.inl ⟨by rfl, ?_⟩) ?_ ?_
                rotate_left; (focus (intro w'; go_simp; with_reducible rfl))
                rotate_left; (focus (simp only [Act.put, zq1, zq2, zq3, i64_w, i32_w]; rfl))
                refine pure_ (i := 11) (N := some 237) (v := ?_) (a' := ?_) #[T_, T_, T_, T_, T_, T_, T_, T_, T_, T_, T_, T_, F_, F_] rfl rfl (any_of HT_.out (by kernel_rfl)) (fun _ _ _ h => h) (Or.inl ⟨by rfl, ?_⟩) ?_ ?_
                rotate_left; (focus (intro w'; go_simp; with_reducible rfl))
                rotate_left; (focus (simp only [Act.put, zq1, zq2, zq3, i64_w, i32_w]; rfl))
                refine pure_ (i := 12) (N := some 238) (v := ?_) (a' := ?_) #[T_, T_, T_, T_, T_, T_, T_, T_, T_, T_, T_, T_, T_, F_] rfl rfl (any_of HT_.out (by kernel_rfl)) (fun _ _ _ h => h) (Or.inl ⟨by rfl, ?_⟩) ?_ ?_
                rotate_left; (focus (intro w'; go_simp; with_reducible rfl))
                rotate_left; (focus (simp only [Act.put, zq1, zq2, zq3, i64_w, i32_w]; rfl))
                refine last_ (i := 13) (N := none) #[T_, T_, T_, T_, T_, T_, T_, T_, T_, T_, T_, T_, T_, T_] rfl rfl (one_of HT_.out (by kernel_rfl)) (by decide) (fun K hK => ?_)
                refine skip_ (w1 := ?_) (by rfl) rfl ?_ ?_
                rotate_left; (focus (go_simp; rfl))
                refine hK.out _ _ ?_
                clear hK K
                refine done_ (done_of HT_.out (by kernel_rfl)) ?_
                try go_wp2
                (try simp only [← hl3_5])
                go_roundg k5
                case measure => have := HK1.out; have := HK2.out; have := HK3.out; have := HK4.out; have := HK5.out; omega
                case rel => exact ⟨(y245), (wrap64 (x17_5 + 1)), (by first | rfl | (simp; done) | (simp [*]; done)), H', ⟨by have := HK1.out; have := HK2.out; have := HK3.out; have := HK4.out; have := HK5.out; omega⟩, ⟨by (try simp only [hl3_5]); (with_reducible repeat (first | apply Kd.R_alloc | apply Kd.R_drewN | apply Kd.R_drew)); exact HQ92.out⟩, ⟨by (try simp only [hl3_5]); (with_reducible repeat (first | apply Kd.R_alloc | apply Kd.R_drewN | apply Kd.R_drew)); exact Kd.R_mono (Kd.R_far (p := ⟨go89, (x17_5 : Int).toNat, none⟩) (Kd.R_mono HO_4.out (fun k_ hk => (⟨hk, fun e_ => hk.1 (by rw [e_]; rfl)⟩ : _ ∧ k_ ≠ go89))) (fun _ hk => hk.2) (.int .i64 (Int.tmod (wrap64 ((rd x3_5 x17_5) + (rd x11_4 x17_5))) 4294967296))) (fun _ hk => ⟨hk.1.1, hk.1.2⟩)⟩, ⟨by (try simp only [hl3_5]); (with_reducible repeat (first | apply Go.Proofs.YtbonmhgihedjpaaM.QM_alloc | apply Go.Proofs.YtbonmhgihedjpaaM.QM_drewN | apply Go.Proofs.YtbonmhgihedjpaaM.QM_drew)); exact Go.Proofs.YtbonmhgihedjpaaM.QM_mono (Go.Proofs.YtbonmhgihedjpaaM.QM_far (p := ⟨go89, (x17_5 : Int).toNat, none⟩) (Go.Proofs.YtbonmhgihedjpaaM.QM_types HO_5.out GG89.out (by decide)) (fun _ hk => hk.2) (.int .i64 (Int.tmod (wrap64 ((rd x3_5 x17_5) + (rd x11_4 x17_5))) 4294967296))) (fun _ hk => trivial)⟩, ⟨by (try simp only [hl3_5]); (with_reducible repeat (first | apply Kd.R_alloc | apply Kd.R_drewN | apply Kd.R_drew)); exact Kd.R_mono (Kd.R_far (p := ⟨go89, (x17_5 : Int).toNat, none⟩) (Kd.R_mono HO_11.out (fun k_ hk => (⟨hk, fun e_ => hk.1 (by rw [e_]; rfl)⟩ : _ ∧ k_ ≠ go89))) (fun _ hk => hk.2) (.int .i64 (Int.tmod (wrap64 ((rd x3_5 x17_5) + (rd x11_4 x17_5))) 4294967296))) (fun _ hk => ⟨hk.1.1, hk.1.2⟩)⟩, ⟨by repeat (first | (with_reducible first | exact HB.out | apply below_alloc | apply pw_below_drewN | apply below_drew1 | refine below_set ?_ GB89.out) | exact HB.out)⟩⟩
               ·
                as_aux_lemma =>
                rw [if_neg c85] at H
                have c85b0 : decide (x17_5 < 8) = false := decide_eq_false c85
                clear c85
                by_cases c93 : 64 ≤ (x5_1.length : Int)
                rotate_left
                ·
                 as_aux_lemma =>
                 rw [if_neg c93] at H
                 exact absurd H (by simp)
                as_aux_lemma =>
                rw [if_pos c93] at H
                have c93b0 := eq_true c93
                have c93b1 : decide (64 ≤ (x5_1.length : Int)) = true := decide_eq_true c93
                clear c93
                obtain ⟨y246, hy246⟩ : ∃ y_ : List Int, y_ = (x5_1.drop (64 : Int).toNat) := ⟨_, rfl⟩
                replace H : (vitrineref14_Sum.l0 k5 x3_5 x4_1 y246) = some r := by first | (rw [hy246]; with_reducible exact H) | (have H2_ := (Option.bind_some _ _).symm.trans H; rw [hy246]; with_reducible exact H2_) | (have H2_ := (Option.bind_some _ _).symm.trans H; with_reducible exact H2_) | with_reducible exact H | (rw [hy246]; exact H) | exact H
                have Ny246 := Aside0.mk hy246
                clear hy246
                have H' := Aside0.mk H
                clear H
                have q94 : (64 : Int) ≤ ((x5_1.length : Int) : Int) := of_decide_eq_true (by first | (with_reducible assumption) | assumption)
                obtain ⟨i094, hi094, _, hsz94, _⟩ := info_parts info5
                have hcut94 := cut_from (P := Try.prog) 47 5 .i64 Try.underlying47 hi094 1 hsz94 Ao10 x5_1.length co10 64 (by omega) q94
                have hr94 := Go.Proofs.YtbonmhgihedjpaaM.QM_drop (k := (64 : Int).toNat) HO_5.out (by omega)
                obtain ⟨A94, hA94⟩ : ∃ A1, A1 = (if co10 = (64 : Int).toNat then Ao10 else (Ao10 : Option Addr).map (·.add ((64 : Int).toNat * 1))) := ⟨_, rfl⟩
                obtain ⟨c94, hc94⟩ : ∃ c1, c1 = co10 - (64 : Int).toNat := ⟨_, rfl⟩
                have hy94 : y246.length = x5_1.length - (64 : Int).toNat := (by rw [Ny246.out, List.length_drop])
                rw [← Ny246.out] at hr94
                rw [← hy94, ← hA94, ← hc94] at hcut94
                replace hr94 : Go.Proofs.YtbonmhgihedjpaaM.QM (Kd.int .u8) 5 wr w.heap.size (fun _ => True) (.slice A94 y246.length c94) y246 := (by rw [hA94, hc94, hy94]; exact hr94)
                have HE94 : Aside0 ((Value.slice A94 y246.length c94).ownBlock = (.slice Ao10 x5_1.length co10 : Value).ownBlock) := ⟨by rw [hA94]; split <;> (cases (Ao10 : Option Addr) <;> rfl)⟩
                clear hy94 hi094 hsz94 HO_5 hA94 hc94
                have HO248 := Aside0.mk hr94
                clear hr94
                replace q94 := eq_true q94
                go_wp2
                (try simp only [← hl3_5])
                go_roundg k5
                case measure => have := HK1.out; have := HK2.out; have := HK3.out; have := HK4.out; have := HK5.out; omega
                case rel => exact ⟨(x3_5), (x4_1), (y246), H', ⟨by have := HK1.out; have := HK2.out; have := HK3.out; have := HK4.out; have := HK5.out; omega⟩, ⟨by (try simp only [hl3_5]); (with_reducible repeat (first | apply Kd.R_alloc | apply Kd.R_drewN | apply Kd.R_drew)); exact Kd.R_mono HO_3.out (fun _ hk => hk.1)⟩, ⟨by (try simp only [hl3_5]); (with_reducible repeat (first | apply Kd.R_alloc | apply Kd.R_drewN | apply Kd.R_drew)); exact Kd.R_mono HO_4.out (fun _ hk => hk.1)⟩, ⟨by (try simp only [hl3_5]); (with_reducible repeat (first | apply Go.Proofs.YtbonmhgihedjpaaM.QM_alloc | apply Go.Proofs.YtbonmhgihedjpaaM.QM_drewN | apply Go.Proofs.YtbonmhgihedjpaaM.QM_drew)); exact HO248.out⟩, ⟨by repeat (first | (with_reducible first | exact HB.out | apply below_alloc | apply pw_below_drewN | apply below_drew1) | exact HB.out)⟩⟩
   ·
    as_aux_lemma =>
    rw [if_neg c8] at H
    have c8b0 : decide (0 < (x5_1.length : Int)) = false := decide_eq_false c8
    have c8b1 : decide (0 < x5_1.length) = false := decide_eq_false (by omega)
    clear c8
    have H' := Aside0.mk H
    clear H
    obtain ⟨Ao95, co95, eo95, _⟩ := Go.Proofs.YtbonmhgihedjpaaM.QM_slice HO_5.out
    subst eo95
    go_wp2
    go_loopg [18, 19] k1 (fun kq v18 v19 w' => ∃ (x18_2 : List Int) (x19_2 : Int), v19 = .int .i64 x19_2 ∧ Aside0 (vitrineref14_Sum.l5 kq x3_1 x18_2 x19_2 = some r) ∧ Aside0 (kq ≤ k1) ∧ Aside0 (Kd.R (Kd.int .i64) 3 w' w.heap.size (fun _ => True) v185 x3_1) ∧ Aside0 (Kd.R (Kd.int .u8) 5 w' w.heap.size (fun _ => True) v18 x18_2) ∧ Aside0 (Below w.heap.size w w'))
    case atStart => exact ⟨(([] : List Int)), (0), (by first | rfl | (simp; done) | (simp [*]; done)), H', ⟨Nat.le_refl _⟩, ⟨by (with_reducible repeat (first | apply Kd.R_alloc | apply Kd.R_drewN | apply Kd.R_drew)); exact Kd.R_mono HO_3.out (fun _ hk => trivial)⟩, ⟨by first | exact Kd.R_nil _ _ _ _ _ | exact Kd.N_nil _ _ _ _ _ | exact Kd.V_nil _ _ _ _ _ | exact Go.Proofs.YtbonmhgihedjpaaM.QM_nil _ _ _ _ _ | exact Kd.S_nil _ _ _ _ _⟩, ⟨by repeat (first | (with_reducible first | exact HB.out | apply below_alloc | apply pw_below_drewN | apply below_drew1) | exact HB.out)⟩⟩
    case round =>
     clear H'
     try clear c1
     try clear p2
     try clear q2
     try clear hx2
     try clear qi2
     try clear c4
     try clear c5
     try clear c6
     try clear p6
     try clear c7
     try clear c8
     try clear c8b0
     try clear c8b1
     try clear p8
     try clear q8
     try clear hx8
     try clear hf8
     try clear c9
     try clear q9
     try clear p23
     try clear q23
     try clear hx23
     try clear qi23
     try clear p24
     try clear q24
     try clear hx24
     try clear c44
     try clear c54
     try clear c59
     try clear c59b0
     try clear c60
     try clear c61
     try clear c62
     try clear p64
     try clear c66
     try clear c67
     try clear c68
     try clear c69
     try clear c70
     try clear c74
     try clear c75
     try clear c76
     try clear c85
     try clear c85b0
     try clear c86
     try clear c86b0
     try clear c87
     try clear c87b0
     try clear c88
     try clear c88b0
     try clear p89
     try clear q89
     try clear hx89
     try clear hf89
     try clear c93
     try clear c93b0
     try clear c93b1
     try clear c94
     try clear q94
     try clear hx233_0
     try clear hx234_0
     try clear hx235_0
     try clear hx236_0
     try clear hx237_0
     try clear hx238_0
     try clear hx239_0
     try clear hx243_0
     try clear hx244_0
     try clear hx89_0
     try clear p2
     try clear p23
     try clear p233
     try clear p234
     try clear p235
     try clear p236
     try clear p237
     try clear p238
     try clear p239
     try clear p243
     try clear p244
     try clear p6
     try clear p64
     try clear p89
     try clear q2
     try clear q23
     try clear q233
     try clear q234
     try clear q235
     try clear q236
     try clear q237
     try clear q238
     try clear q239
     try clear q243
     try clear q244
     try clear q89
     try clear q94
     obtain ⟨x18_2, x19_2, rfl, HA, HK2, HO_3, HO_18, HB⟩ := hrel
     cases gk with
     | zero => exact absurd HA.out (by simp [vitrineref14_Sum.l5])
     | succ k2 =>
      have H := HA.out
      clear HA
      simp only [vitrineref14_Sum.l5] at H
      by_cases c96 : x19_2 < 8
      ·
       as_aux_lemma =>
       rw [if_pos c96] at H
       have c96b0 : decide (x19_2 < 8) = true := decide_eq_true c96
       clear c96
       by_cases c97 : 0 ≤ x19_2
       rotate_left
       ·
        as_aux_lemma =>
        rw [if_neg c97] at H
        exact absurd H (by simp)
       as_aux_lemma =>
       rw [if_pos c97] at H
       have c97b0 : decide (0 ≤ x19_2) = true := decide_eq_true c97
       clear c97
       by_cases c98 : x19_2 < (x3_1.length : Int)
       rotate_left
       ·
        as_aux_lemma =>
        rw [if_neg c98] at H
        exact absurd H (by simp)
       as_aux_lemma =>
       rw [if_pos c98] at H
       have c98b0 : decide (x19_2 < (x3_1.length : Int)) = true := decide_eq_true c98
       clear c98
       obtain ⟨y253, hy253⟩ : ∃ y_ : List Int, y_ = (([((rd x3_1 x19_2) / 16777216) % 256, ((rd x3_1 x19_2) / 65536) % 256, ((rd x3_1 x19_2) / 256) % 256, (rd x3_1 x19_2) % 256] : List Int)) := ⟨_, rfl⟩
       replace H : (if x18_2.length + y253.length < 140737488355328 then (vitrineref14_Sum.l5 k2 x3_1 (x18_2 ++ y253) (wrap64 (x19_2 + 1))) else (none)) = some r := by first | (rw [hy253]; with_reducible exact H) | (have H2_ := (Option.bind_some _ _).symm.trans H; rw [hy253]; with_reducible exact H2_) | (have H2_ := (Option.bind_some _ _).symm.trans H; with_reducible exact H2_) | with_reducible exact H | (rw [hy253]; exact H) | exact H
       have Ny253 := Aside0.mk hy253
       clear hy253
       by_cases c99 : x18_2.length + y253.length < 140737488355328
       rotate_left
       ·
        as_aux_lemma =>
        rw [if_neg c99] at H
        exact absurd H (by simp)
       as_aux_lemma =>
       rw [if_pos c99] at H
       have LMc99 := Aside0.mk c99
       clear c99
       obtain ⟨y256, hy256⟩ : ∃ y_ : List Int, y_ = (x18_2 ++ y253) := ⟨_, rfl⟩
       replace H : (vitrineref14_Sum.l5 k2 x3_1 y256 (wrap64 (x19_2 + 1))) = some r := by first | (rw [hy256]; with_reducible exact H) | (have H2_ := (Option.bind_some _ _).symm.trans H; rw [hy256]; with_reducible exact H2_) | (have H2_ := (Option.bind_some _ _).symm.trans H; with_reducible exact H2_) | with_reducible exact H | (rw [hy256]; exact H) | exact H
       have Ny256 := Aside0.mk hy256
       clear hy256
       have H' := Aside0.mk H
       clear H
       try go_wp2
       have n0_ := Aside0.mk (Kd.R_drew HO_3.out)
       have n1_ := Aside0.mk (Kd.R_drew HO_18.out)
       have n2_ := Aside0.mk (below_drew1 HB.out)
       clear HO_3
       clear HO_18
       clear HB
       have HO_3 := n0_
       have HO_18 := n1_
       have HB := n2_
       clear n0_ n1_ n2_
       obtain ⟨Ao101, co101, eo101⟩ := Kd.R_slice HO_3.out
       (first | subst eo101 | (injection eo101 with f1_ f2_ f3_; have f4_ := f1_.symm; have f5_ := f3_.symm; clear f1_ f2_ f3_; subst f4_; subst f5_))
       have p249 : 0 ≤ (x19_2 : Int) := of_decide_eq_true (by first | (with_reducible assumption) | assumption)
       have q249 : x19_2 < (x3_1.length : Int) := of_decide_eq_true (by first | (with_reducible assumption) | assumption)
       obtain ⟨ad249, e249, hx249_0⟩ := Kd.at_int (Kd.R_reads' HO_3.out).2.2 x19_2 p249 q249
       cases e249
       replace p249 := eq_true p249
       replace q249 := eq_true q249
       have p250 : 0 ≤ (x19_2 : Int) := of_decide_eq_true (by first | (with_reducible assumption) | assumption)
       have q250 : x19_2 < (x3_1.length : Int) := of_decide_eq_true (by first | (with_reducible assumption) | assumption)
       obtain ⟨ad250, e250, hx250_0⟩ := Kd.at_int (Kd.R_reads' HO_3.out).2.2 x19_2 p250 q250
       obtain rfl : ad249 = ad250 := (by injection e250)
       replace p250 := eq_true p250
       replace q250 := eq_true q250
       have p251 : 0 ≤ (x19_2 : Int) := of_decide_eq_true (by first | (with_reducible assumption) | assumption)
       have q251 : x19_2 < (x3_1.length : Int) := of_decide_eq_true (by first | (with_reducible assumption) | assumption)
       obtain ⟨ad251, e251, hx251_0⟩ := Kd.at_int (Kd.R_reads' HO_3.out).2.2 x19_2 p251 q251
       obtain rfl : ad249 = ad251 := (by injection e251)
       replace p251 := eq_true p251
       replace q251 := eq_true q251
       have p252 : 0 ≤ (x19_2 : Int) := of_decide_eq_true (by first | (with_reducible assumption) | assumption)
       have q252 : x19_2 < (x3_1.length : Int) := of_decide_eq_true (by first | (with_reducible assumption) | assumption)
       obtain ⟨ad252, e252, hx252_0⟩ := Kd.at_int (Kd.R_reads' HO_3.out).2.2 x19_2 p252 q252
       obtain rfl : ad249 = ad252 := (by injection e252)
       replace p252 := eq_true p252
       replace q252 := eq_true q252
       refine start_ (n := 27) (S := fun w' => w'.cell? (ad249.add (x19_2).toNat) = some (.int .i64 (rd x3_1 x19_2)) ∧ w'.cell? (ad249.add (x19_2).toNat) = some (.int .i64 (rd x3_1 x19_2)) ∧ w'.cell? (ad249.add (x19_2).toNat) = some (.int .i64 (rd x3_1 x19_2)) ∧ w'.cell? (ad249.add (x19_2).toNat) = some (.int .i64 (rd x3_1 x19_2))) (ds := [25]) #[F_, F_, F_, F_, F_, F_, F_, F_, F_, F_, F_, F_, F_, F_, F_, F_, F_, F_, F_, F_, F_, F_, F_, F_, F_, F_, F_] (by kernel_rfl) rfl rfl ⟨hx249_0, hx250_0, hx251_0, hx252_0⟩ (fun hHeld => ?_); refine with_tabW vitrineref14_Sum.tab34 vitrineref14_Sum.bits34 (fun HT_ HW_ => ?_)
       generalize wr.drew = w100 at HO_3 HO_18 HB hx249_0 hx250_0 hx251_0 hx252_0 hHeld ⊢
       refine pure_ (i := 0) (N := some 245) (v := ?_) (a' := ?_) #[T_, F_, F_, F_, F_, F_, F_, F_, F_, F_, F_, F_, F_, F_, F_, F_, F_, F_, F_, F_, F_, F_, F_, F_, F_, F_, F_] rfl rfl (any_of HT_.out (by kernel_rfl)) (fun _ _ _ h => h) (Or.inl ⟨by rfl, ?_⟩) ?_ ?_
       rotate_left; (focus (intro w'; go_simp; with_reducible rfl))
       rotate_left; (focus (simp only [Act.put, zq1, zq2, zq3, i64_w, i32_w]; rfl))
       refine pure_ (i := 1) (N := some 246) (v := ?_) (a' := ?_) #[T_, T_, F_, F_, F_, F_, F_, F_, F_, F_, F_, F_, F_, F_, F_, F_, F_, F_, F_, F_, F_, F_, F_, F_, F_, F_, F_] rfl rfl (any_of HT_.out (by kernel_rfl)) (fun _ _ _ h => h) (Or.inl ⟨by rfl, ?_⟩) ?_ ?_
       rotate_left; (focus (intro w'; go_simp; with_reducible rfl))
       rotate_left; (focus (simp only [Act.put, zq1, zq2, zq3, i64_w, i32_w]; rfl))
       refine pure_ (i := 2) (N := some 247) (v := ?_) (a' := ?_) #[T_, T_, T_, F_, F_, F_, F_, F_, F_, F_, F_, F_, F_, F_, F_, F_, F_, F_, F_, F_, F_, F_, F_, F_, F_, F_, F_] rfl rfl (any_of HT_.out (by kernel_rfl)) (fun _ _ _ h => h) (Or.inl ⟨by rfl, ?_⟩) ?_ ?_
       rotate_left; (focus (intro w'; go_simp; with_reducible rfl))
       rotate_left; (focus (simp only [Act.put, zq1, zq2, zq3, i64_w, i32_w]; rfl))
       refine pure_ (i := 3) (N := some 248) (v := ?_) (a' := ?_) #[T_, T_, T_, T_, F_, F_, F_, F_, F_, F_, F_, F_, F_, F_, F_, F_, F_, F_, F_, F_, F_, F_, F_, F_, F_, F_, F_] rfl rfl (any_of HT_.out (by kernel_rfl)) (fun _ _ _ h => h) (Or.inl ⟨by rfl, ?_⟩) ?_ ?_
       rotate_left; (focus (intro w'; go_simp; with_reducible rfl))
       rotate_left; (focus (simp only [Act.put, zq1, zq2, zq3, i64_w, i32_w]; rfl))
       refine pure_ (i := 7) (N := some 252) (v := ?_) (a' := ?_) #[T_, T_, T_, T_, F_, F_, F_, T_, F_, F_, F_, F_, F_, F_, F_, F_, F_, F_, F_, F_, F_, F_, F_, F_, F_, F_, F_] rfl rfl (any_of HT_.out (by kernel_rfl)) (fun _ _ _ h => h) (Or.inl ⟨by rfl, ?_⟩) ?_ ?_
       rotate_left; (focus (intro w'; go_simp; with_reducible rfl))
       rotate_left; (focus (simp only [Act.put, zq1, zq2, zq3, i64_w, i32_w]; rfl))
       refine pure_ (i := 8) (N := some 253) (v := ?_) (a' := ?_) #[T_, T_, T_, T_, F_, F_, F_, T_, T_, F_, F_, F_, F_, F_, F_, F_, F_, F_, F_, F_, F_, F_, F_, F_, F_, F_, F_] rfl rfl (any_of HT_.out (by kernel_rfl)) (fun _ _ _ h => h) (Or.inl ⟨by rfl, ?_⟩) ?_ ?_
       rotate_left; (focus (intro w'; go_simp; with_reducible rfl))
       rotate_left; (focus (simp only [Act.put, zq1, zq2, zq3, i64_w, i32_w]; rfl))
       refine pure_ (i := 9) (N := some 254) (v := ?_) (a' := ?_) #[T_, T_, T_, T_, F_, F_, F_, T_, T_, T_, F_, F_, F_, F_, F_, F_, F_, F_, F_, F_, F_, F_, F_, F_, F_, F_, F_] rfl rfl (any_of HT_.out (by kernel_rfl)) (fun _ _ _ h => h) (Or.inl ⟨by rfl, ?_⟩) ?_ ?_
       rotate_left; (focus (intro w'; go_simp; with_reducible rfl))
       rotate_left; (focus (simp only [Act.put, zq1, zq2, zq3, i64_w, i32_w]; rfl))
       refine pure_ (i := 13) (N := some 258) (v := ?_) (a' := ?_) #[T_, T_, T_, T_, F_, F_, F_, T_, T_, T_, F_, F_, F_, T_, F_, F_, F_, F_, F_, F_, F_, F_, F_, F_, F_, F_, F_] rfl rfl (any_of HT_.out (by kernel_rfl)) (fun _ _ _ h => h) (Or.inl ⟨by rfl, ?_⟩) ?_ ?_
       rotate_left; (focus (intro w'; go_simp; with_reducible rfl))
       rotate_left; (focus (simp only [Act.put, zq1, zq2, zq3, i64_w, i32_w]; rfl))
       refine pure_ (i := 14) (N := some 259) (v := ?_) (a' := ?_) #[T_, T_, T_, T_, F_, F_, F_, T_, T_, T_, F_, F_, F_, T_, T_, F_, F_, F_, F_, F_, F_, F_, F_, F_, F_, F_, F_] rfl rfl (any_of HT_.out (by kernel_rfl)) (fun _ _ _ h => h) (Or.inl ⟨by rfl, ?_⟩) ?_ ?_
       rotate_left; (focus (intro w'; go_simp; with_reducible rfl))
       rotate_left; (focus (simp only [Act.put, zq1, zq2, zq3, i64_w, i32_w]; rfl))
       refine pure_ (i := 15) (N := some 260) (v := ?_) (a' := ?_) #[T_, T_, T_, T_, F_, F_, F_, T_, T_, T_, F_, F_, F_, T_, T_, T_, F_, F_, F_, F_, F_, F_, F_, F_, F_, F_, F_] rfl rfl (any_of HT_.out (by kernel_rfl)) (fun _ _ _ h => h) (Or.inl ⟨by rfl, ?_⟩) ?_ ?_
       rotate_left; (focus (intro w'; go_simp; with_reducible rfl))
       rotate_left; (focus (simp only [Act.put, zq1, zq2, zq3, i64_w, i32_w]; rfl))
       refine pure_ (i := 19) (N := some 264) (v := ?_) (a' := ?_) #[T_, T_, T_, T_, F_, F_, F_, T_, T_, T_, F_, F_, F_, T_, T_, T_, F_, F_, F_, T_, F_, F_, F_, F_, F_, F_, F_] rfl rfl (any_of HT_.out (by kernel_rfl)) (fun _ _ _ h => h) (Or.inl ⟨by rfl, ?_⟩) ?_ ?_
       rotate_left; (focus (intro w'; go_simp; with_reducible rfl))
       rotate_left; (focus (simp only [Act.put, zq1, zq2, zq3, i64_w, i32_w]; rfl))
       refine pure_ (i := 20) (N := some 265) (v := ?_) (a' := ?_) #[T_, T_, T_, T_, F_, F_, F_, T_, T_, T_, F_, F_, F_, T_, T_, T_, F_, F_, F_, T_, T_, F_, F_, F_, F_, F_, F_] rfl rfl (any_of HT_.out (by kernel_rfl)) (fun _ _ _ h => h) (Or.inl ⟨by rfl, ?_⟩) ?_ ?_
       rotate_left; (focus (intro w'; go_simp; with_reducible rfl))
       rotate_left; (focus (simp only [Act.put, zq1, zq2, zq3, i64_w, i32_w]; rfl))
       refine pure_ (i := 21) (N := some 266) (v := ?_) (a' := ?_) #[T_, T_, T_, T_, F_, F_, F_, T_, T_, T_, F_, F_, F_, T_, T_, T_, F_, F_, F_, T_, T_, T_, F_, F_, F_, F_, F_] rfl rfl (any_of HT_.out (by kernel_rfl)) (fun _ _ _ h => h) (Or.inl ⟨by rfl, ?_⟩) ?_ ?_
       rotate_left; (focus (intro w'; go_simp; with_reducible rfl))
       rotate_left; (focus (simp only [Act.put, zq1, zq2, zq3, i64_w, i32_w]; rfl))
       refine take_ (i := 4) (N := some 249) (v := ?_) (a' := ?_) #[T_, T_, T_, T_, T_, F_, F_, T_, T_, T_, F_, F_, F_, T_, T_, T_, F_, F_, F_, T_, T_, T_, F_, F_, F_, F_, F_] rfl rfl (take_ofW HT_.out HW_.out (by kernel_rfl)) (fun _ _ _ h => h) (Or.inl ⟨by rfl, ?_⟩) hHeld ?_ ?_
       rotate_left; (focus (rintro w' ⟨s0, s1, s2, s3⟩; go_simp; with_reducible rfl))
       rotate_left; (focus (simp only [Act.put, zq1, zq2, zq3, i64_w, i32_w]; rfl))
       refine pure_ (i := 5) (N := some 250) (v := ?_) (a' := ?_) #[T_, T_, T_, T_, T_, T_, F_, T_, T_, T_, F_, F_, F_, T_, T_, T_, F_, F_, F_, T_, T_, T_, F_, F_, F_, F_, F_] rfl rfl (any_of HT_.out (by kernel_rfl)) (fun _ _ _ h => h) (Or.inl ⟨by rfl, ?_⟩) ?_ ?_
       rotate_left; (focus (intro w'; go_simp; with_reducible rfl))
       rotate_left; (focus (simp only [Act.put, zq1, zq2, zq3, i64_w, i32_w]; rfl))
       refine pure_ (i := 6) (N := some 251) (v := ?_) (a' := ?_) #[T_, T_, T_, T_, T_, T_, T_, T_, T_, T_, F_, F_, F_, T_, T_, T_, F_, F_, F_, T_, T_, T_, F_, F_, F_, F_, F_] rfl rfl (any_of HT_.out (by kernel_rfl)) (fun _ _ _ h => h) (Or.inl ⟨by rfl, ?_⟩) ?_ ?_
       rotate_left; (focus (intro w'; go_simp; with_reducible rfl))
       rotate_left; (focus (simp only [Act.put, zq1, zq2, zq3, i64_w, i32_w]; rfl))
       refine take_ (i := 10) (N := some 255) (v := ?_) (a' := ?_) #[T_, T_, T_, T_, T_, T_, T_, T_, T_, T_, T_, F_, F_, T_, T_, T_, F_, F_, F_, T_, T_, T_, F_, F_, F_, F_, F_] rfl rfl (take_ofW HT_.out HW_.out (by kernel_rfl)) (fun _ _ _ h => h) (Or.inl ⟨by rfl, ?_⟩) hHeld ?_ ?_
       rotate_left; (focus (rintro w' ⟨s0, s1, s2, s3⟩; go_simp; with_reducible rfl))
       rotate_left; (focus (simp only [Act.put, zq1, zq2, zq3, i64_w, i32_w]; rfl))
       refine pure_ (i := 11) (N := some 256) (v := ?_) (a' := ?_) #[T_, T_, T_, T_, T_, T_, T_, T_, T_, T_, T_, T_, F_, T_, T_, T_, F_, F_, F_, T_, T_, T_, F_, F_, F_, F_, F_] rfl rfl (any_of HT_.out (by kernel_rfl)) (fun _ _ _ h => h) (Or.inl ⟨by rfl, ?_⟩) ?_ ?_
       rotate_left; (focus (intro w'; go_simp; with_reducible rfl))
       rotate_left; (focus (simp only [Act.put, zq1, zq2, zq3, i64_w, i32_w]; rfl))
       refine pure_ (i := 12) (N := some 257) (v := ?_) (a' := ?_) #[T_, T_, T_, T_, T_, T_, T_, T_, T_, T_, T_, T_, T_, T_, T_, T_, F_, F_, F_, T_, T_, T_, F_, F_, F_, F_, F_] rfl rfl (any_of HT_.out (by kernel_rfl)) (fun _ _ _ h => h) (Or.inl ⟨by rfl, ?_⟩) ?_ ?_
       rotate_left; (focus (intro w'; go_simp; with_reducible rfl))
       rotate_left; (focus (simp only [Act.put, zq1, zq2, zq3, i64_w, i32_w]; rfl))
       refine take_ (i := 16) (N := some 261) (v := ?_) (a' := ?_) #[T_, T_, T_, T_, T_, T_, T_, T_, T_, T_, T_, T_, T_, T_, T_, T_, T_, F_, F_, T_, T_, T_, F_, F_, F_, F_, F_] rfl rfl (take_ofW HT_.out HW_.out (by kernel_rfl)) (fun _ _ _ h => h) (Or.inl ⟨by rfl, ?_⟩) hHeld ?_ ?_
       rotate_left; (focus (rintro w' ⟨s0, s1, s2, s3⟩; go_simp; with_reducible rfl))
       rotate_left; (focus (simp only [Act.put, zq1, zq2, zq3, i64_w, i32_w]; rfl))
       refine pure_ (i := 17) (N := some 262) (v := ?_) (a' := ?_) #[T_, T_, T_, T_, T_, T_, T_, T_, T_, T_, T_, T_, T_, T_, T_, T_, T_, T_, F_, T_, T_, T_, F_, F_, F_, F_, F_] rfl rfl (any_of HT_.out (by kernel_rfl)) (fun _ _ _ h => h) (Or.inl ⟨by rfl, ?_⟩) ?_ ?_
       rotate_left; (focus (intro w'; go_simp; with_reducible rfl))
       rotate_left; (focus (simp only [Act.put, zq1, zq2, zq3, i64_w, i32_w]; rfl))
       refine pure_ (i := 18) (N := some 263) (v := ?_) (a' := ?_) #[T_, T_, T_, T_, T_, T_, T_, T_, T_, T_, T_, T_, T_, T_, T_, T_, T_, T_, T_, T_, T_, T_, F_, F_, F_, F_, F_] rfl rfl (any_of HT_.out (by kernel_rfl)) (fun _ _ _ h => h) (Or.inl ⟨by rfl, ?_⟩) ?_ ?_
       rotate_left; (focus (intro w'; go_simp; with_reducible rfl))
       rotate_left; (focus (simp only [Act.put, zq1, zq2, zq3, i64_w, i32_w]; rfl))
       refine take_ (i := 22) (N := some 267) (v := ?_) (a' := ?_) #[T_, T_, T_, T_, T_, T_, T_, T_, T_, T_, T_, T_, T_, T_, T_, T_, T_, T_, T_, T_, T_, T_, T_, F_, F_, F_, F_] rfl rfl (take_ofW HT_.out HW_.out (by kernel_rfl)) (fun _ _ _ h => h) (Or.inl ⟨by rfl, ?_⟩) hHeld ?_ ?_
       rotate_left; (focus (rintro w' ⟨s0, s1, s2, s3⟩; go_simp; with_reducible rfl))
       rotate_left; (focus (simp only [Act.put, zq1, zq2, zq3, i64_w, i32_w]; rfl))
       refine pure_ (i := 23) (N := some 268) (v := ?_) (a' := ?_) #[T_, T_, T_, T_, T_, T_, T_, T_, T_, T_, T_, T_, T_, T_, T_, T_, T_, T_, T_, T_, T_, T_, T_, T_, F_, F_, F_] rfl rfl (any_of HT_.out (by kernel_rfl)) (fun _ _ _ h => h) (Or.inl ⟨by rfl, ?_⟩) ?_ ?_
       rotate_left; (focus (intro w'; go_simp; with_reducible rfl))
       rotate_left; (focus (simp only [Act.put, zq1, zq2, zq3, i64_w, i32_w]; rfl))
       refine one_ (i := 24) (N := some 269) #[T_, T_, T_, T_, T_, T_, T_, T_, T_, T_, T_, T_, T_, T_, T_, T_, T_, T_, T_, T_, T_, T_, T_, T_, T_, F_, F_] rfl rfl (one_of HT_.out (by kernel_rfl)) (by decide) (fun K hK => ?_)
       refine Kd.R_lit_step (Kd.int .u8) _ 5 ?hg (N := 269) ?hd (xs := ([((rd x3_1 x19_2) / 16777216) % 256, ((rd x3_1 x19_2) / 65536) % 256, ((rd x3_1 x19_2) / 256) % 256, (rd x3_1 x19_2) % 256] : List Int)) (inner := [.int .u8 (((rd x3_1 x19_2) / 16777216) % 256), .int .u8 (((rd x3_1 x19_2) / 65536) % 256), .int .u8 (((rd x3_1 x19_2) / 256) % 256), .int .u8 ((rd x3_1 x19_2) % 256)]) (ok := fun _ => True) (okp := fun _ => True) ?hr ?hp (fun _ hk => hk) trivial (Below.refl _ _) (Nat.le_refl _) (by simp) ?_; (case hd => rfl); (case hg => rfl); (case hr => first | (go_simp; done) | (go_simp; rfl)); (case hp => exact (Reps.one (show Kd.M (Kd.int .u8) _ _ _ (((rd x3_1 x19_2) / 16777216) % 256) [.int .u8 (((rd x3_1 x19_2) / 16777216) % 256)] from rfl) (Reps.one (show Kd.M (Kd.int .u8) _ _ _ (((rd x3_1 x19_2) / 65536) % 256) [.int .u8 (((rd x3_1 x19_2) / 65536) % 256)] from rfl) (Reps.one (show Kd.M (Kd.int .u8) _ _ _ (((rd x3_1 x19_2) / 256) % 256) [.int .u8 (((rd x3_1 x19_2) / 256) % 256)] from rfl) (Reps.one (show Kd.M (Kd.int .u8) _ _ _ ((rd x3_1 x19_2) % 256) [.int .u8 ((rd x3_1 x19_2) % 256)] from rfl) (Reps.none _ _))))))
       intro v254 w102 ho103 hb hg_ hnew_
       have HS0_ := (hb.cell (World.block_lt_of_cell? _ _ (hHeld.1))).trans (hHeld.1)
       have HS1_ := (hb.cell (World.block_lt_of_cell? _ _ (hHeld.2.1))).trans (hHeld.2.1)
       have HS2_ := (hb.cell (World.block_lt_of_cell? _ _ (hHeld.2.2.1))).trans (hHeld.2.2.1)
       have HS3_ := (hb.cell (World.block_lt_of_cell? _ _ (hHeld.2.2.2))).trans (hHeld.2.2.2)
       clear hg_ hnew_
       (first | rw [← Ny253.out] at ho103 | (simp only [Int.reduceToNat] at ho103; rw [← Ny253.out] at ho103))
       have n0_ := Aside0.mk (Kd.R_below (by (with_reducible repeat (first | apply Kd.R_alloc | apply Kd.R_drewN | apply Kd.R_drew)); exact HO_3.out) hb)
       have n1_ := Aside0.mk (Kd.R_elder' (by (with_reducible repeat (first | apply Kd.R_alloc | apply Kd.R_drewN | apply Kd.R_drew)); exact HO_18.out) (Kd.R_base ho103) hb)
       have n2_ := Aside0.mk (Kd.R_lower (Kd.R_new' ho103 (Kd.R_lt (by (with_reducible repeat (first | apply Kd.R_alloc | apply Kd.R_drewN | apply Kd.R_drew)); exact HO_18.out))) (below_size (by repeat (first | (with_reducible first | exact HB.out | apply below_alloc | apply pw_below_drewN | apply below_drew1) | exact HB.out))))
       have n3_ := Aside0.mk (below_step (by repeat (first | (with_reducible first | exact HB.out | apply below_alloc | apply pw_below_drewN | apply below_drew1) | exact HB.out)) hb)
       clear HO_3
       clear HO_18
       clear HB
       have HO_3 := n0_
       have HO_18 := n1_
       have HO255 := n2_
       have HB := n3_
       clear n0_ n1_ n2_ n3_
       clear hb ho103
       obtain ⟨Ao105, co105, eo105⟩ := Kd.R_slice HO255.out
       (first | subst eo105 | (injection eo105 with f1_ f2_ f3_; have f4_ := f1_.symm; have f5_ := f3_.symm; clear f1_ f2_ f3_; subst f4_; subst f5_))
       refine hK.out _ _ ⟨HS0_, HS1_, HS2_, HS3_⟩ (fun hHeld => ?_)
       clear hK K
       refine norm_ (a' := ?_) ?_ ?_
       rotate_left; (focus (show Act.put _ (some 269) _ = _; simp only [Act.put, zq1, zq2, zq3, i64_w, i32_w]; rfl))
       refine last_ (i := 25) (N := some 270) #[T_, T_, T_, T_, T_, T_, T_, T_, T_, T_, T_, T_, T_, T_, T_, T_, T_, T_, T_, T_, T_, T_, T_, T_, T_, T_, F_] rfl rfl (one_of HT_.out (by kernel_rfl)) (by decide) (fun K hK => ?_)
       refine Kd.R_append_rows_step (Kd.int .u8) (w0 := w) w.heap.size (by rfl) (.tmp 245) (.tmp 269) 47 5 (.int .u8 0) 1 rfl Try.underlying47 info5 rfl (by decide) (by omega) u18 x18_2 y253 _ _ _ (fun k_ => some k_ ≠ (.slice Ao105 y253.length co105 : Value).ownBlock) (fun _ => False) rfl rfl ?aO ?aR (fun _ _ h => h) (fun _ h => h.elim) ?aF ?aB ?aS ?aL ?_
       (case aR => repeat (first | exact (Kd.R_reads' HO255.out).2.2 | (with_reducible refine Kd.C_alloc ?_ _) | (with_reducible refine Kd.C_drewN ?_ _) | (with_reducible refine Kd.C_drew ?_)))
       (case aB => exact (by repeat (first | (with_reducible first | exact HB.out | apply below_alloc | apply pw_below_drewN | apply below_drew1) | exact HB.out)))
       (case aF => exact (fun k_ hk => Kd.fresh' (Kd.R_lt (by (with_reducible repeat (first | apply Kd.R_alloc | apply Kd.R_drewN | apply Kd.R_drew)); exact HO255.out)) k_ hk))
       (case aO => exact (by (with_reducible repeat (first | apply Kd.R_alloc | apply Kd.R_drewN | apply Kd.R_drew)); exact Kd.R_mono HO_18.out (fun _ hk => hk.2)))
       (case aS => exact (below_size (by repeat (first | (with_reducible first | exact HB.out | apply below_alloc | apply pw_below_drewN | apply below_drew1) | exact HB.out))))
       (case aL => have := LMc99.out; omega)
       intro v257 w104 ho hb hg hat
       rw [← Ny256.out] at ho
       have n0_ := Aside0.mk (Kd.R_over' (by (with_reducible repeat (first | apply Kd.R_alloc | apply Kd.R_drewN | apply Kd.R_drew)); exact HO_3.out) (Kd.R_typed (by (with_reducible repeat (first | apply Kd.R_alloc | apply Kd.R_drewN | apply Kd.R_drew)); exact HO_18.out)) (by decide) hg)
       have n1_ := Aside0.mk (Kd.R_after (ok := (fun _ => True)) (by (with_reducible repeat (first | apply Kd.R_alloc | apply Kd.R_drewN | apply Kd.R_drew)); exact HO255.out) hg hat)
       have n2_ := Aside0.mk (hb)
       have n3_ := Aside0.mk (ho)
       clear HO_3
       clear HO255
       clear HB
       clear HO_18
       have HO_3 := n0_
       have HO255 := n1_
       have HB := n2_
       have HO258 := n3_
       clear n0_ n1_ n2_ n3_
       clear ho hb hg hat
       refine hK.out _ _ ?_
       clear hK K
       refine norm_ (a' := ?_) ?_ ?_
       rotate_left; (focus (show Act.put _ (some 270) _ = _; simp only [Act.put, zq1, zq2, zq3, i64_w, i32_w]; rfl))
       refine pure_ (i := 26) (N := some 18) (v := ?_) (a' := ?_) #[T_, T_, T_, T_, T_, T_, T_, T_, T_, T_, T_, T_, T_, T_, T_, T_, T_, T_, T_, T_, T_, T_, T_, T_, T_, T_, T_] rfl rfl (any_of HT_.out (by kernel_rfl)) (fun _ _ _ h => h) (Or.inl ⟨by rfl, ?_⟩) ?_ ?_
       rotate_left; (focus (intro w'; go_simp; with_reducible rfl))
       rotate_left; (focus (simp only [Act.put, zq1, zq2, zq3, i64_w, i32_w]; rfl))
       refine done_ (done_of HT_.out (by kernel_rfl)) ?_
       try go_wp2
       go_roundg k2
       case measure => have := HK1.out; have := HK2.out; omega
       case rel => exact ⟨(y256), (wrap64 (x19_2 + 1)), (by first | rfl | (simp; done) | (simp [*]; done)), H', ⟨by have := HK1.out; have := HK2.out; omega⟩, ⟨by (with_reducible repeat (first | apply Kd.R_alloc | apply Kd.R_drewN | apply Kd.R_drew)); exact HO_3.out⟩, ⟨by (with_reducible repeat (first | apply Kd.R_alloc | apply Kd.R_drewN | apply Kd.R_drew)); exact Kd.R_mono HO258.out (fun _ hk => trivial)⟩, ⟨by repeat (first | (with_reducible first | exact HB.out | apply below_alloc | apply pw_below_drewN | apply below_drew1) | exact HB.out)⟩⟩
      ·
       as_aux_lemma =>
       rw [if_neg c96] at H
       have c96b0 : decide (x19_2 < 8) = false := decide_eq_false c96
       clear c96
       obtain rfl := Option.some.inj H
       have hcv106 := own_string (P := Try.prog) Try.underlying47 Try.underlying5 Try.underlying9 (Kd.own_of_R HO_18.out)
       go_wp2
       go_ret
       exact ⟨by first | rfl | (simp [errW_none, errW_some] <;> rfl) | (simp [*, errW_none, errW_some] <;> rfl), by repeat (first | (with_reducible first | exact HB.out | apply below_alloc | apply pw_below_drewN | apply below_drew1) | exact HB.out)⟩

end Go.Proofs.Ytbonmhgihedjpaa.PL15
