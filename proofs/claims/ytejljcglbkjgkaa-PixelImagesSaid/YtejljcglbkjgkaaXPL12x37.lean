/- Printed for this claim by a program of this session over the kit's print program: the Go functions as Lean functions, and proofs that the calls come to these answers. No conditions. -/
import Derived.Test.YtejljcglbkjgkaaXH
import Derived.Test.YtejljcglbkjgkaaXPL12x1
import Derived.Test.YtejljcglbkjgkaaXPL12x26
import Derived.Test.YtejljcglbkjgkaaXPL12x33
import Derived.Test.YtejljcglbkjgkaaXPL12x36
namespace Go.Proofs.Ytejljcglbkjgkaa.PL12
open Go.RowKit Go.Proofs.YtejljcglbkjgkaaW.PrintWords Go.Proofs.YtejljcglbkjgkaaW.PrintLast Go.Proofs.YtejljcglbkjgkaaW.PrintMore
attribute [local go_sem] max2_int min2_int max_two min_two max_three min_three max_four min_four   -- for this text's walks alone
set_option linter.unusedVariables false
set_option linter.unusedSimpArgs false

mutual
def vitrineref11_Pixel.j0 : Nat → List Int → Bool → Int → Int → Int → Int → Int → ByteArray → ByteArray → Bool → Option (ByteArray × Int)
  | 0, _, _, _, _, _, _, _, _, _, _ => none
  | k + 1, x1, x28, x370000, x370001, x370002, x370003, x370004, x370005, x370006, x370007 => if x28 = true then (some ((⟨#[]⟩ : ByteArray), 1)) else (vitrineref11_Pixel.l0 k x1 ([] : List ByteArray) 0 x370000 x370001 x370002 x370003 x370004 x370005 x370006 x370007)
def vitrineref11_Pixel.l0 : Nat → List Int → List ByteArray → Int → Int → Int → Int → Int → Int → ByteArray → ByteArray → Bool → Option (ByteArray × Int)
  | 0, _, _, _, _, _, _, _, _, _, _, _ => none
  | k + 1, x1, x6, x7, x370000, x370001, x370002, x370003, x370004, x370005, x370006, x370007 => if x7 < (x1.length : Int) then (if 0 ≤ x7 then (if (rd x1 x7) < 0 then (vitrineref11_Pixel.j2 k x1 x6 x7 true x370000 x370001 x370002 x370003 x370004 x370005 x370006 x370007) else (if 0 ≤ x370002 then (vitrineref11_Pixel.j2 k x1 x6 x7 (decide ((rd x1 x7) ≥ (shl .i64 1 x370002))) x370000 x370001 x370002 x370003 x370004 x370005 x370006 x370007) else (none))) else (none)) else ((vitrineref11_two.f 65535).bind fun t380 => (if x370003 = 0 then ((vitrineref11_same.f k x370000 x370001 x370002 x370003 x370004 x370005 x370006 x370007 x1).bind fun t381 => (vitrineref11_Pixel.j3 k x1 x6 t380 t381 x370000 x370001 x370002 x370003 x370004 x370005 x370006 x370007)) else (if x370003 = 2 then ((vitrineref11_same.f k x370000 x370001 x370002 x370003 x370004 x370005 x370006 x370007 x1).bind fun t382 => (vitrineref11_Pixel.j3 k x1 x6 t380 t382 x370000 x370001 x370002 x370003 x370004 x370005 x370006 x370007)) else (vitrineref11_Pixel.j3 k x1 x6 t380 false x370000 x370001 x370002 x370003 x370004 x370005 x370006 x370007))))
def vitrineref11_Pixel.j2 : Nat → List Int → List ByteArray → Int → Bool → Int → Int → Int → Int → Int → ByteArray → ByteArray → Bool → Option (ByteArray × Int)
  | 0, _, _, _, _, _, _, _, _, _, _, _, _ => none
  | k + 1, x1, x6, x7, x50, x370000, x370001, x370002, x370003, x370004, x370005, x370006, x370007 => if x50 = true then (some ((⟨#[]⟩ : ByteArray), 1)) else (if 0 ≤ x7 then (if x7 < (x1.length : Int) then ((vitrineref11_Wide.f (rd x1 x7) x370002).bind fun t375 => ((vitrineref11_two.f t375).bind fun t376 => (if x6.length < 8796093022208 then (vitrineref11_Pixel.l0 k x1 (x6 ++ [t376]) (wrap64 (x7 + 1)) x370000 x370001 x370002 x370003 x370004 x370005 x370006 x370007) else (none)))) else (none)) else (none))
def vitrineref11_Pixel.j3 : Nat → List Int → List ByteArray → ByteArray → Bool → Int → Int → Int → Int → Int → ByteArray → ByteArray → Bool → Option (ByteArray × Int)
  | 0, _, _, _, _, _, _, _, _, _, _, _, _ => none
  | k + 1, x1, x6, x8, x78, x370000, x370001, x370002, x370003, x370004, x370005, x370006, x370007 => if x78 = true then ((vitrineref11_two.f 0).bind fun t383 => (vitrineref11_Pixel.j4 k x1 x6 t383 x370000 x370001 x370002 x370003 x370004 x370005 x370006 x370007)) else (vitrineref11_Pixel.j4 k x1 x6 x8 x370000 x370001 x370002 x370003 x370004 x370005 x370006 x370007)
def vitrineref11_Pixel.j4 : Nat → List Int → List ByteArray → ByteArray → Int → Int → Int → Int → Int → ByteArray → ByteArray → Bool → Option (ByteArray × Int)
  | 0, _, _, _, _, _, _, _, _, _, _, _ => none
  | k + 1, x1, x6, x8, x370000, x370001, x370002, x370003, x370004, x370005, x370006, x370007 => if x370003 = 0 then (if 0 < (x6.length : Int) then (if (rdOf ByteArray.empty x6 0).size + (rdOf ByteArray.empty x6 0).size ≤ 9223372036854775807 then (if ((rdOf ByteArray.empty x6 0) ++ (rdOf ByteArray.empty x6 0)).size + (rdOf ByteArray.empty x6 0).size ≤ 9223372036854775807 then (if (((rdOf ByteArray.empty x6 0) ++ (rdOf ByteArray.empty x6 0)) ++ (rdOf ByteArray.empty x6 0)).size + x8.size ≤ 9223372036854775807 then (some ((((rdOf ByteArray.empty x6 0) ++ (rdOf ByteArray.empty x6 0)) ++ (rdOf ByteArray.empty x6 0)) ++ x8, 0)) else (none)) else (none)) else (none)) else (none)) else (if x370003 = 2 then (if 0 < (x6.length : Int) then (if 1 < (x6.length : Int) then (if (rdOf ByteArray.empty x6 0).size + (rdOf ByteArray.empty x6 1).size ≤ 9223372036854775807 then (if 2 < (x6.length : Int) then (if ((rdOf ByteArray.empty x6 0) ++ (rdOf ByteArray.empty x6 1)).size + (rdOf ByteArray.empty x6 2).size ≤ 9223372036854775807 then (if (((rdOf ByteArray.empty x6 0) ++ (rdOf ByteArray.empty x6 1)) ++ (rdOf ByteArray.empty x6 2)).size + x8.size ≤ 9223372036854775807 then (some ((((rdOf ByteArray.empty x6 0) ++ (rdOf ByteArray.empty x6 1)) ++ (rdOf ByteArray.empty x6 2)) ++ x8, 0)) else (none)) else (none)) else (none)) else (none)) else (none)) else (none)) else (if x370003 = 4 then (if 0 < (x6.length : Int) then (if (rdOf ByteArray.empty x6 0).size + (rdOf ByteArray.empty x6 0).size ≤ 9223372036854775807 then (if ((rdOf ByteArray.empty x6 0) ++ (rdOf ByteArray.empty x6 0)).size + (rdOf ByteArray.empty x6 0).size ≤ 9223372036854775807 then (if 1 < (x6.length : Int) then (if (((rdOf ByteArray.empty x6 0) ++ (rdOf ByteArray.empty x6 0)) ++ (rdOf ByteArray.empty x6 0)).size + (rdOf ByteArray.empty x6 1).size ≤ 9223372036854775807 then (some ((((rdOf ByteArray.empty x6 0) ++ (rdOf ByteArray.empty x6 0)) ++ (rdOf ByteArray.empty x6 0)) ++ (rdOf ByteArray.empty x6 1), 0)) else (none)) else (none)) else (none)) else (none)) else (none)) else (if x370003 = 6 then (if 0 < (x6.length : Int) then (if 1 < (x6.length : Int) then (if (rdOf ByteArray.empty x6 0).size + (rdOf ByteArray.empty x6 1).size ≤ 9223372036854775807 then (if 2 < (x6.length : Int) then (if ((rdOf ByteArray.empty x6 0) ++ (rdOf ByteArray.empty x6 1)).size + (rdOf ByteArray.empty x6 2).size ≤ 9223372036854775807 then (if 3 < (x6.length : Int) then (if (((rdOf ByteArray.empty x6 0) ++ (rdOf ByteArray.empty x6 1)) ++ (rdOf ByteArray.empty x6 2)).size + (rdOf ByteArray.empty x6 3).size ≤ 9223372036854775807 then (some ((((rdOf ByteArray.empty x6 0) ++ (rdOf ByteArray.empty x6 1)) ++ (rdOf ByteArray.empty x6 2)) ++ (rdOf ByteArray.empty x6 3), 0)) else (none)) else (none)) else (none)) else (none)) else (none)) else (none)) else (none)) else (if 0 < (x1.length : Int) then (if (wrap64 ((wrap64 (3 * (rd x1 0))) + 3)) > (x370005.size : Int) then (some ((⟨#[]⟩ : ByteArray), 29)) else (if x370007 = true then (vitrineref11_Pixel.j5 k x8 (rd x1 0) (decide ((rd x1 0) < (x370006.size : Int))) x370000 x370001 x370002 x370003 x370004 x370005 x370006 x370007) else (vitrineref11_Pixel.j5 k x8 (rd x1 0) false x370000 x370001 x370002 x370003 x370004 x370005 x370006 x370007))) else (none)))))
def vitrineref11_Pixel.j5 : Nat → ByteArray → Int → Bool → Int → Int → Int → Int → Int → ByteArray → ByteArray → Bool → Option (ByteArray × Int)
  | 0, _, _, _, _, _, _, _, _, _, _, _ => none
  | k + 1, x8, x9, x165, x370000, x370001, x370002, x370003, x370004, x370005, x370006, x370007 => if x165 = true then (if 0 ≤ x9 then (if x9 < (x370006.size : Int) then ((vitrineref11_two.f (wrap64 (257 * (wrap64 (bt x370006 x9))))).bind fun t399 => (vitrineref11_Pixel.j6 k t399 x9 x370000 x370001 x370002 x370003 x370004 x370005 x370006 x370007)) else (none)) else (none)) else (vitrineref11_Pixel.j6 k x8 x9 x370000 x370001 x370002 x370003 x370004 x370005 x370006 x370007)
def vitrineref11_Pixel.j6 : Nat → ByteArray → Int → Int → Int → Int → Int → Int → ByteArray → ByteArray → Bool → Option (ByteArray × Int)
  | 0, _, _, _, _, _, _, _, _, _, _ => none
  | k + 1, x8, x9, x370000, x370001, x370002, x370003, x370004, x370005, x370006, x370007 => if 0 ≤ (wrap64 (3 * x9)) then (if (wrap64 (3 * x9)) < (x370005.size : Int) then ((vitrineref11_two.f (wrap64 (257 * (wrap64 (bt x370005 (wrap64 (3 * x9))))))).bind fun t400 => (if 0 ≤ (wrap64 ((wrap64 (3 * x9)) + 1)) then (if (wrap64 ((wrap64 (3 * x9)) + 1)) < (x370005.size : Int) then ((vitrineref11_two.f (wrap64 (257 * (wrap64 (bt x370005 (wrap64 ((wrap64 (3 * x9)) + 1))))))).bind fun t401 => (if t400.size + t401.size ≤ 9223372036854775807 then (if 0 ≤ (wrap64 ((wrap64 (3 * x9)) + 2)) then (if (wrap64 ((wrap64 (3 * x9)) + 2)) < (x370005.size : Int) then ((vitrineref11_two.f (wrap64 (257 * (wrap64 (bt x370005 (wrap64 ((wrap64 (3 * x9)) + 2))))))).bind fun t402 => (if (t400 ++ t401).size + t402.size ≤ 9223372036854775807 then (if ((t400 ++ t401) ++ t402).size + x8.size ≤ 9223372036854775807 then (some (((t400 ++ t401) ++ t402) ++ x8, 0)) else (none)) else (none))) else (none)) else (none)) else (none))) else (none)) else (none))) else (none)) else (none)
end
def vitrineref11_Pixel.f (k : Nat) (a0_0 : Int) (a0_1 : Int) (a0_2 : Int) (a0_3 : Int) (a0_4 : Int) (a0_5 : ByteArray) (a0_6 : ByteArray) (a0_7 : Bool) (l1 : List Int) : Option (ByteArray × Int) := (vitrineref08_Samples.f k a0_3).bind fun t370 => (if (l1.length : Int) = t370 then (if (l1.length : Int) = 0 then (vitrineref11_Pixel.j0 k l1 true a0_0 a0_1 a0_2 a0_3 a0_4 a0_5 a0_6 a0_7) else ((vitrineref11_Depth.f a0_2).bind fun t371 => (vitrineref11_Pixel.j0 k l1 (!t371) a0_0 a0_1 a0_2 a0_3 a0_4 a0_5 a0_6 a0_7))) else (vitrineref11_Pixel.j0 k l1 true a0_0 a0_1 a0_2 a0_3 a0_4 a0_5 a0_6 a0_7))
def vitrineref11_Pixel.T7 : Bool × List (List Nat × List Nat) := (true, [([], []), ([], []), ([0, 1], [0, 1]), ([2], [2]), ([3], [3]), ([4], [4]), ([5], [5]), ([5], [5]), ([6, 7, 5], [5, 6, 7]), ([8, 5], [5, 8]), ([5], [5]), ([10, 5], [5, 10]), ([11, 5], [5, 11]), ([12, 5], [5, 12]), ([9, 13, 5], [5, 9, 13]), ([5, 14], [5, 14])])
def vitrineref11_Pixel.B7 : List Nat := [0, 0, 3, 7, 15, 31, 63, 63, 255, 511, 63, 1087, 3135, 7231, 16383, 32767]
theorem vitrineref11_Pixel.tab7 : rtab .any (opsOf Try.f30 7) = vitrineref11_Pixel.T7 := by kernel_rfl
theorem vitrineref11_Pixel.bits7 : waitsOk vitrineref11_Pixel.T7.2 vitrineref11_Pixel.B7 = true := by kernel_rfl
def vitrineref11_Pixel.T9 : Bool × List (List Nat × List Nat) := (true, [([], []), ([], []), ([], []), ([1, 2], [1, 2]), ([3], [3]), ([], []), ([5], [5]), ([6], [6]), ([4, 7], [4, 7]), ([8, 8], [8]), ([9], [9]), ([0, 10, 9], [0, 10]), ([11, 11, 0, 1, 2, 3, 4, 5, 6, 7, 8, 9, 10, 11], [0, 11])])
def vitrineref11_Pixel.B9 : List Nat := [0, 0, 0, 6, 14, 0, 32, 96, 254, 510, 1022, 2047, 4095]
theorem vitrineref11_Pixel.tab9 : rtab .any (opsOf Try.f30 9) = vitrineref11_Pixel.T9 := by kernel_rfl
theorem vitrineref11_Pixel.bits9 : waitsOk vitrineref11_Pixel.T9.2 vitrineref11_Pixel.B9 = true := by kernel_rfl
def vitrineref11_Pixel.T15 : Bool × List (List Nat × List Nat) := (true, [([], []), ([0], [0]), ([1], [1]), ([], []), ([3], [3]), ([4], [4]), ([2, 5], [2, 5]), ([], []), ([7], [7]), ([8], [8]), ([6, 9], [6, 9]), ([], []), ([10, 11], [10, 11]), ([12, 0, 1, 2, 3, 4, 5, 6, 7, 8, 9, 10, 11, 12], [12]), ([13, 0, 1, 2, 3, 4, 5, 6, 7, 8, 9, 10, 11, 12, 13], [])])
def vitrineref11_Pixel.B15 : List Nat := [0, 1, 3, 0, 8, 24, 63, 0, 128, 384, 1023, 0, 4095, 8191, 16383]
theorem vitrineref11_Pixel.tab15 : rtab .any (opsOf Try.f30 15) = vitrineref11_Pixel.T15 := by kernel_rfl
theorem vitrineref11_Pixel.bits15 : waitsOk vitrineref11_Pixel.T15.2 vitrineref11_Pixel.B15 = true := by kernel_rfl
def vitrineref11_Pixel.T17 : Bool × List (List Nat × List Nat) := (true, [([], []), ([0], [0]), ([1], [1]), ([], []), ([3], [3]), ([4], [4]), ([2, 5], [2, 5]), ([], []), ([7], [7]), ([8], [8]), ([6, 9], [6, 9]), ([], []), ([10, 11], [10, 11]), ([12, 0, 1, 2, 3, 4, 5, 6, 7, 8, 9, 10, 11, 12], [12]), ([13, 0, 1, 2, 3, 4, 5, 6, 7, 8, 9, 10, 11, 12, 13], [])])
def vitrineref11_Pixel.B17 : List Nat := [0, 1, 3, 0, 8, 24, 63, 0, 128, 384, 1023, 0, 4095, 8191, 16383]
theorem vitrineref11_Pixel.tab17 : rtab .any (opsOf Try.f30 17) = vitrineref11_Pixel.T17 := by kernel_rfl
theorem vitrineref11_Pixel.bits17 : waitsOk vitrineref11_Pixel.T17.2 vitrineref11_Pixel.B17 = true := by kernel_rfl
def vitrineref11_Pixel.T19 : Bool × List (List Nat × List Nat) := (true, [([], []), ([0], [0]), ([1], [1]), ([], []), ([3], [3]), ([4], [4]), ([2, 5], [2, 5]), ([], []), ([7], [7]), ([8], [8]), ([6, 9], [6, 9]), ([], []), ([11], [11]), ([12], [12]), ([10, 13], [10, 13]), ([14, 0, 1, 2, 3, 4, 5, 6, 7, 8, 9, 10, 11, 12, 13, 14], [14]), ([15, 0, 1, 2, 3, 4, 5, 6, 7, 8, 9, 10, 11, 12, 13, 14, 15], [])])
def vitrineref11_Pixel.B19 : List Nat := [0, 1, 3, 0, 8, 24, 63, 0, 128, 384, 1023, 0, 2048, 6144, 16383, 32767, 65535]
theorem vitrineref11_Pixel.tab19 : rtab .any (opsOf Try.f30 19) = vitrineref11_Pixel.T19 := by kernel_rfl
theorem vitrineref11_Pixel.bits19 : waitsOk vitrineref11_Pixel.T19.2 vitrineref11_Pixel.B19 = true := by kernel_rfl
def vitrineref11_Pixel.T21 : Bool × List (List Nat × List Nat) := (true, [([], []), ([0], [0]), ([1], [1]), ([], []), ([3], [3]), ([4], [4]), ([2, 5], [2, 5]), ([], []), ([7], [7]), ([8], [8]), ([6, 9], [6, 9]), ([], []), ([11], [11]), ([12], [12]), ([10, 13], [10, 13]), ([14, 0, 1, 2, 3, 4, 5, 6, 7, 8, 9, 10, 11, 12, 13, 14], [14]), ([15, 0, 1, 2, 3, 4, 5, 6, 7, 8, 9, 10, 11, 12, 13, 14, 15], [])])
def vitrineref11_Pixel.B21 : List Nat := [0, 1, 3, 0, 8, 24, 63, 0, 128, 384, 1023, 0, 2048, 6144, 16383, 32767, 65535]
theorem vitrineref11_Pixel.tab21 : rtab .any (opsOf Try.f30 21) = vitrineref11_Pixel.T21 := by kernel_rfl
theorem vitrineref11_Pixel.bits21 : waitsOk vitrineref11_Pixel.T21.2 vitrineref11_Pixel.B21 = true := by kernel_rfl
def vitrineref11_Pixel.T27 : Bool × List (List Nat × List Nat) := (true, [([], []), ([0], [0]), ([], []), ([2], [2]), ([1, 3], [1, 3]), ([4], [4]), ([5], [5]), ([6], [6]), ([], []), ([8], [8]), ([], []), ([10], [10]), ([11], [11]), ([9, 12], [9, 12]), ([13], [13]), ([14], [14]), ([15, 7], [15]), ([7, 16], [7, 16]), ([], []), ([18], [18]), ([], []), ([20], [20]), ([21], [21]), ([19, 22], [19, 22]), ([23], [23]), ([24], [24]), ([25, 16], [25]), ([17, 26], [17, 26]), ([], []), ([27, 28], [27, 28]), ([29, 26, 0, 1, 2, 3, 4, 5, 6, 7, 8, 9, 10, 11, 12, 13, 14, 15, 16, 17, 18, 19, 20, 21, 22, 23, 24, 25, 26, 27, 28, 29], [29]), ([30, 0, 1, 2, 3, 4, 5, 6, 7, 8, 9, 10, 11, 12, 13, 14, 15, 16, 17, 18, 19, 20, 21, 22, 23, 24, 25, 26, 27, 28, 29, 30], [])])
def vitrineref11_Pixel.B27 : List Nat := [0, 1, 0, 4, 15, 31, 63, 127, 0, 256, 0, 1024, 3072, 7936, 16128, 32512, 65535, 131071, 0, 262144, 0, 1048576, 3145728, 8126464, 16515072, 33292288, 66977791, 134217727, 0, 536870911, 1073741823, 2147483647]
theorem vitrineref11_Pixel.tab27 : rtab .any (opsOf Try.f30 27) = vitrineref11_Pixel.T27 := by kernel_rfl
theorem vitrineref11_Pixel.bits27 : waitsOk vitrineref11_Pixel.T27.2 vitrineref11_Pixel.B27 = true := by kernel_rfl
set_option maxHeartbeats 40000000 in
set_option maxRecDepth 100000 in
theorem vitrineref11_Pixel.calls (k : Nat) (a0_0 : Int) (a0_1 : Int) (a0_2 : Int) (a0_3 : Int) (a0_4 : Int) (a0_5 : ByteArray) (a0_6 : ByteArray) (a0_7 : Bool) (A1 : Option Addr) (c1 : Nat) (l1 : List Int) (r1 : ByteArray) (r2 : Int) (w : World) (hr1 : Kd.C (Kd.int .i64) w A1 l1.length l1) (hc1 : l1.length ≤ c1) (h : vitrineref11_Pixel.f k a0_0 a0_1 a0_2 a0_3 a0_4 a0_5 a0_6 a0_7 l1 = some (r1, r2)) :
    Calls Try.prog 30 #[.agg #[.int .i64 a0_0, .int .i64 a0_1, .int .i64 a0_2, .int .i64 a0_3, .int .i64 a0_4, .string a0_5, .string a0_6, .bool a0_7], .slice A1 l1.length c1] w fun e w' => e = .returned (.tuple #[.string r1, .int .i64 r2]) ∧ Below w.heap.size w w' := by
 have hu31 := Try.underlying31
 have HR1 := Aside0.mk hr1
 have HC1 := Aside0.mk hc1
 clear hr1 hc1
 have HB := Aside0.mk (Below.refl w.heap.size w)
 have H : ((vitrineref08_Samples.f k a0_3).bind fun t370 => (if (l1.length : Int) = t370 then (if (l1.length : Int) = 0 then (vitrineref11_Pixel.j0 k l1 true a0_0 a0_1 a0_2 a0_3 a0_4 a0_5 a0_6 a0_7) else ((vitrineref11_Depth.f a0_2).bind fun t371 => (vitrineref11_Pixel.j0 k l1 (!t371) a0_0 a0_1 a0_2 a0_3 a0_4 a0_5 a0_6 a0_7))) else (vitrineref11_Pixel.j0 k l1 true a0_0 a0_1 a0_2 a0_3 a0_4 a0_5 a0_6 a0_7))) = some (r1, r2) := h
 clear h
 have HC3 := Aside0.mk H
 clear H
 go_enter Try.func30, Try.ntmps30
 go_upto_region 1 with (first | ((with_reducible refine gate_dst (N := 2) rfl ?_); (try (refine gate_guard (by rfl) ?_; dsimp only)); refine box_event ?hg (N := 2) ?hd (cs := #[.int .i64 a0_0, .int .i64 a0_1, .int .i64 a0_2, .int .i64 a0_3, .int .i64 a0_4, .string a0_5, .string a0_6, .bool a0_7]) (t := 31) ?hr ?_; (case hd => rfl); (case hg => rfl); (case hr => first | (go_simp; done) | (go_simp; rfl)); intro gb369 hg w4 hbox hb; have n0_ := Aside0.mk (below_step (hz HB) hb); have n1_ := Aside0.mk (hbox); have n2_ := Aside0.mk ((by rw [hg]; exact (below_size (hz HB)) : w.heap.size ≤ gb369)); have n3_ := Aside0.mk ((by rw [hg]; exact (below_size (hz HB)) : w.heap.size ≤ gb369)); clear HB; have HB := n0_; have BK369 := n1_; have GW369 := n2_; have GE369 := n3_; clear n0_ n1_ n2_ n3_; clear hb hbox hg))
 (try simp only [Act.put, List.setIfInBounds_toArray, List.set_cons_zero, List.set_cons_succ])
 go_cut [28] (fun v28 wc => ∃ (kq : Nat) (x28_2 : Bool), v28 = .bool x28_2 ∧ Aside0 (vitrineref11_Pixel.j0 kq l1 x28_2 a0_0 a0_1 a0_2 a0_3 a0_4 a0_5 a0_6 a0_7 = some (r1, r2)) ∧ Aside0 (kq ≤ k) ∧ Aside0 (wc.heap[gb369]? = some (.cells #[.int .i64 a0_0, .int .i64 a0_1, .int .i64 a0_2, .int .i64 a0_3, .int .i64 a0_4, .string a0_5, .string a0_6, .bool a0_7] 31 (0, 0))) ∧ Aside0 (Below w.heap.size w wc))
 case first =>
  as_aux_lemma =>
  have H := HC3.out
  clear HC3
  replace H := Option.bind_eq_some_iff.mp H
  obtain ⟨t370, A50, H⟩ := H
  replace H : (if (l1.length : Int) = t370 then (if (l1.length : Int) = 0 then (vitrineref11_Pixel.j0 k l1 true a0_0 a0_1 a0_2 a0_3 a0_4 a0_5 a0_6 a0_7) else ((vitrineref11_Depth.f a0_2).bind fun t371 => (vitrineref11_Pixel.j0 k l1 (!t371) a0_0 a0_1 a0_2 a0_3 a0_4 a0_5 a0_6 a0_7))) else (vitrineref11_Pixel.j0 k l1 true a0_0 a0_1 a0_2 a0_3 a0_4 a0_5 a0_6 a0_7)) = some (r1, r2) := H
  have A5 := Aside0.mk A50
  clear A50
  by_cases c6 : (l1.length : Int) = t370
  ·
   as_aux_lemma =>
   rw [if_pos c6] at H
   have c6b0 : ((l1.length : Int) == t370) = true := beq_iff_eq.mpr c6
   have c6b1 : ((l1.length : Int) != t370) = false := bne_eq_false_iff_eq.mpr c6
   clear c6
   (first | rw [c6b0] | (simp only [i64_w, i32_w]; rw [c6b0]) | skip)
   by_cases c7 : (l1.length : Int) = 0
   ·
    as_aux_lemma =>
    rw [if_pos c7] at H
    have c7b0 : ((l1.length : Int) == 0) = true := beq_iff_eq.mpr c7
    have c7b1 : ((l1.length : Int) != 0) = false := bne_eq_false_iff_eq.mpr c7
    clear c7
    have H' := Aside0.mk H
    clear H
    have hcz8_0 : w4.cell? ⟨gb369, 0, none⟩ = some (.int .i64 a0_0) := (blk_cell BK369.out 0).trans rfl
    have hcz8_1 : w4.cell? ⟨gb369, 1, none⟩ = some (.int .i64 a0_1) := (blk_cell BK369.out 1).trans rfl
    have hcz8_2 : w4.cell? ⟨gb369, 2, none⟩ = some (.int .i64 a0_2) := (blk_cell BK369.out 2).trans rfl
    have hcz8_3 : w4.cell? ⟨gb369, 3, none⟩ = some (.int .i64 a0_3) := (blk_cell BK369.out 3).trans rfl
    have hcz8_4 : w4.cell? ⟨gb369, 4, none⟩ = some (.int .i64 a0_4) := (blk_cell BK369.out 4).trans rfl
    have hcz8_5 : w4.cell? ⟨gb369, 5, none⟩ = some (.string a0_5) := (blk_cell BK369.out 5).trans rfl
    have hcz8_6 : w4.cell? ⟨gb369, 6, none⟩ = some (.string a0_6) := (blk_cell BK369.out 6).trans rfl
    have hcz8_7 : w4.cell? ⟨gb369, 7, none⟩ = some (.bool a0_7) := (blk_cell BK369.out 7).trans rfl
    have hfz8_0 := blk_frozen BK369.out 0
    have hfz8_1 := blk_frozen BK369.out 1
    have hfz8_2 := blk_frozen BK369.out 2
    have hfz8_3 := blk_frozen BK369.out 3
    have hfz8_4 := blk_frozen BK369.out 4
    have hfz8_5 := blk_frozen BK369.out 5
    have hfz8_6 := blk_frozen BK369.out 6
    have hfz8_7 := blk_frozen BK369.out 7
    go_wp2_with (first | ((with_reducible refine gate_callee (f := 16) rfl ?_); refine gz 15 Try.func16 #[.int .i64 a0_3] ?_; (with_reducible refine (vitrineref08_Samples.calls k a0_3 t370 _ A5.out).mono ?_); rintro e w' ⟨rfl, ⟨nd, rfl⟩⟩; refine ⟨_, rfl, ?_⟩))
    go_meet
    case rel => exact ⟨_, (true), (by first | rfl | (simp; done) | (simp [*]; done)), H', ⟨by first | omega | exact Nat.le_refl _⟩, ⟨kz BK369⟩, ⟨hz HB⟩⟩
   ·
    as_aux_lemma =>
    rw [if_neg c7] at H
    have c7b0 : ((l1.length : Int) == 0) = false := beq_eq_false_iff_ne.mpr c7
    have c7b1 : ((l1.length : Int) != 0) = true := bne_iff_ne.mpr c7
    have c7b2 : ¬ (l1 = []) := fun h_ => c7 (by rw [h_]; rfl)
    replace H := Option.bind_eq_some_iff.mp H
    obtain ⟨t371, A90, H⟩ := H
    replace H : (vitrineref11_Pixel.j0 k l1 (!t371) a0_0 a0_1 a0_2 a0_3 a0_4 a0_5 a0_6 a0_7) = some (r1, r2) := H
    have A9 := Aside0.mk A90
    clear A90
    have H' := Aside0.mk H
    clear H
    have hcz10_0 : w4.cell? ⟨gb369, 0, none⟩ = some (.int .i64 a0_0) := (blk_cell BK369.out 0).trans rfl
    have hcz10_1 : w4.cell? ⟨gb369, 1, none⟩ = some (.int .i64 a0_1) := (blk_cell BK369.out 1).trans rfl
    have hcz10_2 : w4.cell? ⟨gb369, 2, none⟩ = some (.int .i64 a0_2) := (blk_cell BK369.out 2).trans rfl
    have hcz10_3 : w4.cell? ⟨gb369, 3, none⟩ = some (.int .i64 a0_3) := (blk_cell BK369.out 3).trans rfl
    have hcz10_4 : w4.cell? ⟨gb369, 4, none⟩ = some (.int .i64 a0_4) := (blk_cell BK369.out 4).trans rfl
    have hcz10_5 : w4.cell? ⟨gb369, 5, none⟩ = some (.string a0_5) := (blk_cell BK369.out 5).trans rfl
    have hcz10_6 : w4.cell? ⟨gb369, 6, none⟩ = some (.string a0_6) := (blk_cell BK369.out 6).trans rfl
    have hcz10_7 : w4.cell? ⟨gb369, 7, none⟩ = some (.bool a0_7) := (blk_cell BK369.out 7).trans rfl
    have hfz10_0 := blk_frozen BK369.out 0
    have hfz10_1 := blk_frozen BK369.out 1
    have hfz10_2 := blk_frozen BK369.out 2
    have hfz10_3 := blk_frozen BK369.out 3
    have hfz10_4 := blk_frozen BK369.out 4
    have hfz10_5 := blk_frozen BK369.out 5
    have hfz10_6 := blk_frozen BK369.out 6
    have hfz10_7 := blk_frozen BK369.out 7
    go_wp2_with (first | ((with_reducible refine gate_callee (f := 16) rfl ?_); refine gz 15 Try.func16 #[.int .i64 a0_3] ?_; (with_reducible refine (vitrineref08_Samples.calls k a0_3 t370 _ A5.out).mono ?_); rintro e w' ⟨rfl, ⟨nd, rfl⟩⟩; refine ⟨_, rfl, ?_⟩) | (go_at_call 48; (with_reducible refine (vitrineref11_Depth.calls a0_2 t371 _ A9.out).mono ?_); rintro e w' ⟨rfl, ⟨nd, rfl⟩⟩))
    go_meet
    case rel => exact ⟨_, (!t371), (by first | rfl | (simp; done) | (simp [*]; done)), H', ⟨by first | omega | exact Nat.le_refl _⟩, ⟨kz BK369⟩, ⟨hz HB⟩⟩
  ·
   as_aux_lemma =>
   rw [if_neg c6] at H
   have c6b0 : ((l1.length : Int) == t370) = false := beq_eq_false_iff_ne.mpr c6
   have c6b1 : ((l1.length : Int) != t370) = true := bne_iff_ne.mpr c6
   (first | rw [c6b0] | (simp only [i64_w, i32_w]; rw [c6b0]) | skip)
   have H' := Aside0.mk H
   clear H
   have hcz11_0 : w4.cell? ⟨gb369, 0, none⟩ = some (.int .i64 a0_0) := (blk_cell BK369.out 0).trans rfl
   have hcz11_1 : w4.cell? ⟨gb369, 1, none⟩ = some (.int .i64 a0_1) := (blk_cell BK369.out 1).trans rfl
   have hcz11_2 : w4.cell? ⟨gb369, 2, none⟩ = some (.int .i64 a0_2) := (blk_cell BK369.out 2).trans rfl
   have hcz11_3 : w4.cell? ⟨gb369, 3, none⟩ = some (.int .i64 a0_3) := (blk_cell BK369.out 3).trans rfl
   have hcz11_4 : w4.cell? ⟨gb369, 4, none⟩ = some (.int .i64 a0_4) := (blk_cell BK369.out 4).trans rfl
   have hcz11_5 : w4.cell? ⟨gb369, 5, none⟩ = some (.string a0_5) := (blk_cell BK369.out 5).trans rfl
   have hcz11_6 : w4.cell? ⟨gb369, 6, none⟩ = some (.string a0_6) := (blk_cell BK369.out 6).trans rfl
   have hcz11_7 : w4.cell? ⟨gb369, 7, none⟩ = some (.bool a0_7) := (blk_cell BK369.out 7).trans rfl
   have hfz11_0 := blk_frozen BK369.out 0
   have hfz11_1 := blk_frozen BK369.out 1
   have hfz11_2 := blk_frozen BK369.out 2
   have hfz11_3 := blk_frozen BK369.out 3
   have hfz11_4 := blk_frozen BK369.out 4
   have hfz11_5 := blk_frozen BK369.out 5
   have hfz11_6 := blk_frozen BK369.out 6
   have hfz11_7 := blk_frozen BK369.out 7
   go_wp2_with (first | ((with_reducible refine gate_callee (f := 16) rfl ?_); refine gz 15 Try.func16 #[.int .i64 a0_3] ?_; (with_reducible refine (vitrineref08_Samples.calls k a0_3 t370 _ A5.out).mono ?_); rintro e w' ⟨rfl, ⟨nd, rfl⟩⟩; refine ⟨_, rfl, ?_⟩))
   go_meet
   case rel => exact ⟨_, (true), (by first | rfl | (simp; done) | (simp [*]; done)), H', ⟨by first | omega | exact Nat.le_refl _⟩, ⟨kz BK369⟩, ⟨hz HB⟩⟩
 case rest =>
  as_aux_lemma =>
  clear HC3
  obtain ⟨kq, x28_2, rfl, HA, HJ2, BK369, HB⟩ := hcut
  cases kq with
  | zero => exact absurd HA.out (by simp [vitrineref11_Pixel.j0])
  | succ kj2 =>
   have H := HA.out
   clear HA
   simp only [vitrineref11_Pixel.j0] at H
   by_cases c12 : x28_2 = true
   ·
    subst c12
    have H1 : (some ((⟨#[]⟩ : ByteArray), 1)) = some (r1, r2) := by rw [if_pos rfl] at H; exact H
    clear H
    have H := H1
    clear H1
    simp only [Option.some.injEq, Prod.mk.injEq] at H
    obtain ⟨rfl, rfl⟩ := H
    go_wp2
    go_ret2
    exact ⟨by first | rfl | (simp [errW_none, errW_some] <;> rfl) | (simp [*, errW_none, errW_some] <;> rfl), by repeat (first | (with_reducible first | exact HB.out | apply below_alloc | apply pw_below_drewN | apply below_drew1 | refine below_set ?_ GE369.out) | exact HB.out)⟩
   ·
    replace c12 := Bool.eq_false_iff.mpr c12
    subst c12
    have H1 : (vitrineref11_Pixel.l0 kj2 l1 ([] : List ByteArray) 0 a0_0 a0_1 a0_2 a0_3 a0_4 a0_5 a0_6 a0_7) = some (r1, r2) := by rw [if_neg (show ¬ (false = true) by decide)] at H; exact H
    clear H
    have H := H1
    clear H1
    have H' := Aside0.mk H
    clear H
    go_wp2
    go_loopg [6, 7] kj2 (fun kq v6 v7 w' => ∃ (x6_2 : List ByteArray) (x7_2 : Int), v7 = .int .i64 x7_2 ∧ Aside0 (vitrineref11_Pixel.l0 kq l1 x6_2 x7_2 a0_0 a0_1 a0_2 a0_3 a0_4 a0_5 a0_6 a0_7 = some (r1, r2)) ∧ Aside0 (kq ≤ kj2) ∧ Aside0 (Kd.R Kd.string 9 w' w.heap.size (fun _ => True) v6 x6_2) ∧ Aside0 (w'.heap[gb369]? = some (.cells #[.int .i64 a0_0, .int .i64 a0_1, .int .i64 a0_2, .int .i64 a0_3, .int .i64 a0_4, .string a0_5, .string a0_6, .bool a0_7] 31 (0, 0))) ∧ Aside0 (Below w.heap.size w w'))
    case atStart => exact ⟨(([] : List ByteArray)), (0), (by first | rfl | (simp; done) | (simp [*]; done)), H', ⟨Nat.le_refl _⟩, ⟨by first | exact Kd.R_nil _ _ _ _ _ | exact Kd.N_nil _ _ _ _ _ | exact Kd.V_nil _ _ _ _ _ | exact Kd.Q_nil _ _ _ _ _ | exact Kd.S_nil _ _ _ _ _⟩, ⟨kz BK369⟩, ⟨hz HB⟩⟩
    case round =>
     clear H'
     try clear c12
     obtain ⟨x6_2, x7_2, rfl, HA, HK2, HO_6, BK369, HB⟩ := hrel
     cases gk with
     | zero => exact absurd HA.out (by simp [vitrineref11_Pixel.l0])
     | succ k2 =>
      have H := HA.out
      clear HA
      simp only [vitrineref11_Pixel.l0] at H
      by_cases c13 : x7_2 < (l1.length : Int)
      ·
       as_aux_lemma =>
       rw [if_pos c13] at H
       have c13b0 : decide (x7_2 < (l1.length : Int)) = true := decide_eq_true c13
       clear c13
       have HC14 := Aside0.mk H
       clear H
       go_upto_region 7 with (fail)
       go_cut [50] (fun v50 wc => ∃ (kq : Nat) (x50_13 : Bool), v50 = .bool x50_13 ∧ Aside0 (vitrineref11_Pixel.j2 kq l1 x6_2 x7_2 x50_13 a0_0 a0_1 a0_2 a0_3 a0_4 a0_5 a0_6 a0_7 = some (r1, r2)) ∧ Aside0 (kq ≤ k2) ∧ Aside0 (Kd.R Kd.string 9 wc w.heap.size (fun _ => True) u6 x6_2) ∧ Aside0 (wc.heap[gb369]? = some (.cells #[.int .i64 a0_0, .int .i64 a0_1, .int .i64 a0_2, .int .i64 a0_3, .int .i64 a0_4, .string a0_5, .string a0_6, .bool a0_7] 31 (0, 0))) ∧ Aside0 (Below w.heap.size w wc))
       case first =>
        as_aux_lemma =>
        have H := HC14.out
        clear HC14
        by_cases c15 : 0 ≤ x7_2
        ·
         as_aux_lemma =>
         rw [if_pos c15] at H
         have c15b0 : decide (0 ≤ x7_2) = true := decide_eq_true c15
         clear c15
         (first | rw [c15b0] | (simp only [i64_w, i32_w]; rw [c15b0]) | skip)
         by_cases c16 : (rd l1 x7_2) < 0
         ·
          as_aux_lemma =>
          rw [if_pos c16] at H
          have c16b0 : decide ((rd l1 x7_2) < 0) = true := decide_eq_true c16
          clear c16
          have H' := Aside0.mk H
          clear H
          try go_wp2
          have n0_ := Aside0.mk (Kd.R_drew HO_6.out)
          have n1_ := Aside0.mk (blk_drew BK369.out)
          have n2_ := Aside0.mk (below_drew1 HB.out)
          clear HO_6
          clear BK369
          clear HB
          have HO_6 := n0_
          have BK369 := n1_
          have HB := n2_
          clear n0_ n1_ n2_
          have p372 : 0 ≤ (x7_2 : Int) := of_decide_eq_true (by first | (with_reducible assumption) | assumption)
          have q372 : x7_2 < (l1.length : Int) := of_decide_eq_true (by first | (with_reducible assumption) | assumption)
          obtain ⟨ad372, e372, hx372_0⟩ := Kd.at_int HR1.out x7_2 p372 q372
          have hw372_0 := hx372_0
          cases e372
          replace hx372_0 := (HB.out.cell (World.block_lt_of_cell? w _ hx372_0)).trans hx372_0
          replace p372 := eq_true p372
          replace q372 := eq_true q372
          refine start_ (n := 16) (S := fun w' => w'.cell? (ad372.add (x7_2).toNat) = some (.int .i64 (rd l1 x7_2))) (ds := []) (bm 16 0) (by kernel_rfl) rfl rfl (((HB.out.cell (World.block_lt_of_cell? w _ hw372_0)).trans hw372_0)) (fun hHeld => ?_); refine with_tabW vitrineref11_Pixel.tab7 vitrineref11_Pixel.bits7 (fun HT_ HW_ => ?_)
          generalize wr.drew = w17 at HO_6 BK369 HB hx372_0 hHeld ⊢
          refine zp 0 35 (bm 16 1) ?_
          refine zp 1 36 (bm 16 3) ?_
          refine zp 2 37 (bm 16 7) ?_
          refine zt 3 38 (bm 16 15) rfl (by intro w' s0; go_simp; with_reducible rfl) ?_
          refine zp 4 39 (bm 16 31) ?_
          refine zp 5 40 (bm 16 63) ?_
          refine pure_ (i := 6) (N := some 41) (v := undef) (a' := ?_) (bm 16 127) rfl rfl (any_of HT_.out (by kernel_rfl)) (fun _ _ _ h => h) (Or.inr ⟨by rfl, rfl⟩) ?_ ?_
          rotate_left
          ·
           simp only [Act.put, zq1, zq2, zq3, i64_w, i32_w]
           rfl
          refine pure_ (i := 7) (N := some 42) (v := undef) (a' := ?_) (bm 16 255) rfl rfl (any_of HT_.out (by kernel_rfl)) (fun _ _ _ h => h) (Or.inr ⟨by rfl, rfl⟩) ?_ ?_
          rotate_left
          ·
           simp only [Act.put, zq1, zq2, zq3, i64_w, i32_w]
           rfl
          refine pure_ (i := 8) (N := some 43) (v := undef) (a' := ?_) (bm 16 511) rfl rfl (any_of HT_.out (by kernel_rfl)) (fun _ _ _ h => h) (Or.inr ⟨by rfl, rfl⟩) ?_ ?_
          rotate_left
          ·
           simp only [Act.put, zq1, zq2, zq3, i64_w, i32_w]
           rfl
          refine pure_ (i := 9) (N := some 44) (v := undef) (a' := ?_) (bm 16 1023) rfl rfl (any_of HT_.out (by kernel_rfl)) (fun _ _ _ h => h) (Or.inr ⟨by rfl, rfl⟩) ?_ ?_
          rotate_left
          ·
           simp only [Act.put, zq1, zq2, zq3, i64_w, i32_w]
           rfl
          refine pure_ (i := 10) (N := some 45) (v := undef) (a' := ?_) (bm 16 2047) rfl rfl (any_of HT_.out (by kernel_rfl)) (fun _ _ _ h => h) (Or.inr ⟨by rfl, rfl⟩) ?_ ?_
          rotate_left
          ·
           simp only [Act.put, zq1, zq2, zq3, i64_w, i32_w]
           rfl
          refine pure_ (i := 11) (N := some 46) (v := undef) (a' := ?_) (bm 16 4095) rfl rfl (any_of HT_.out (by kernel_rfl)) (fun _ _ _ h => h) (Or.inr ⟨by rfl, rfl⟩) ?_ ?_
          rotate_left
          ·
           simp only [Act.put, zq1, zq2, zq3, i64_w, i32_w]
           rfl
          refine pure_ (i := 12) (N := some 47) (v := undef) (a' := ?_) (bm 16 8191) rfl rfl (any_of HT_.out (by kernel_rfl)) (fun _ _ _ h => h) (Or.inr ⟨by rfl, rfl⟩) ?_ ?_
          rotate_left
          ·
           simp only [Act.put, zq1, zq2, zq3, i64_w, i32_w]
           rfl
          refine pure_ (i := 13) (N := some 48) (v := undef) (a' := ?_) (bm 16 16383) rfl rfl (any_of HT_.out (by kernel_rfl)) (fun _ _ _ h => h) (Or.inr ⟨by rfl, rfl⟩) ?_ ?_
          rotate_left
          ·
           simp only [Act.put, zq1, zq2, zq3, i64_w, i32_w]
           rfl
          refine pure_ (i := 14) (N := some 49) (v := undef) (a' := ?_) (bm 16 32767) rfl rfl (any_of HT_.out (by kernel_rfl)) (fun _ _ _ h => h) (Or.inr ⟨by rfl, rfl⟩) ?_ ?_
          rotate_left
          ·
           simp only [Act.put, zq1, zq2, zq3, i64_w, i32_w]
           rfl
          refine zp 15 50 (bm 16 65535) ?_
          refine done_ (done_of HT_.out (by kernel_rfl)) ?_
          try go_wp2
          go_meet
          case rel => exact ⟨_, (true), (by first | rfl | (simp; done) | (simp [*]; done)), H', ⟨by have := HJ2.out; have := HK2.out; first | omega | exact Nat.le_refl _⟩, ⟨oz HO_6⟩, ⟨kz BK369⟩, ⟨hz HB⟩⟩
         ·
          as_aux_lemma =>
          rw [if_neg c16] at H
          have c16b0 : decide ((rd l1 x7_2) < 0) = false := decide_eq_false c16
          clear c16
          by_cases c18 : 0 ≤ a0_2
          ·
           as_aux_lemma =>
           rw [if_pos c18] at H
           have c18b0 := eq_true c18
           have c18b1 : decide (0 ≤ a0_2) = true := decide_eq_true c18
           clear c18
           obtain ⟨ji19, hji19⟩ : ∃ j_ : Int, (shl .i64 1 a0_2) = j_ := ⟨_, rfl⟩
           replace H : (vitrineref11_Pixel.j2 k2 l1 x6_2 x7_2 (decide ((rd l1 x7_2) ≥ (ji19))) a0_0 a0_1 a0_2 a0_3 a0_4 a0_5 a0_6 a0_7) = some (r1, r2) := by first | (rw [hji19] at H; exact H) | (simp only [hji19] at H ⊢; exact H)
           have hji19_ : (IntKind.i64.wrap (1 * 2 ^ min a0_2.toNat 64)) = ji19 := hji19
           have hji19z : a0_2 ≤ 64 → (IntKind.i64.wrap (1 * 2 ^ a0_2.toNat)) = ji19 := shl_small hji19
           have hji19u : (IntKind.i64.wrap (2 ^ min a0_2.toNat 64)) = ji19 := by have h_ := hji19_; rw [Int.one_mul] at h_; exact h_
           have hji19v : a0_2 ≤ 64 → (IntKind.i64.wrap (2 ^ a0_2.toNat)) = ji19 := fun hle_ => by have h_ := hji19z hle_; rw [Int.one_mul] at h_; exact h_
           have hji19y : (wrap64 (1 * 2 ^ min a0_2.toNat 64)) = ji19 := (i64_w _).symm.trans hji19_
           have hji19x : a0_2 ≤ 64 → (wrap64 (1 * 2 ^ a0_2.toNat)) = ji19 := fun h_ => (i64_w _).symm.trans (hji19z h_)
           have H' := Aside0.mk H
           clear H
           try go_wp2
           have n0_ := Aside0.mk (Kd.R_drew HO_6.out)
           have n1_ := Aside0.mk (blk_drew BK369.out)
           have n2_ := Aside0.mk (below_drew1 HB.out)
           clear HO_6
           clear BK369
           clear HB
           have HO_6 := n0_
           have BK369 := n1_
           have HB := n2_
           clear n0_ n1_ n2_
           have p372 : 0 ≤ (x7_2 : Int) := of_decide_eq_true (by first | (with_reducible assumption) | assumption)
           have q372 : x7_2 < (l1.length : Int) := of_decide_eq_true (by first | (with_reducible assumption) | assumption)
           obtain ⟨ad372, e372, hx372_0⟩ := Kd.at_int HR1.out x7_2 p372 q372
           have hw372_0 := hx372_0
           cases e372
           replace hx372_0 := (HB.out.cell (World.block_lt_of_cell? w _ hx372_0)).trans hx372_0
           replace p372 := eq_true p372
           replace q372 := eq_true q372
           have p373 : 0 ≤ (x7_2 : Int) := of_decide_eq_true (by first | (with_reducible assumption) | assumption)
           have q373 : x7_2 < (l1.length : Int) := of_decide_eq_true (by first | (with_reducible assumption) | assumption)
           obtain ⟨ad373, e373, hx373_0⟩ := Kd.at_int HR1.out x7_2 p373 q373
           have hw373_0 := hx373_0
           obtain rfl : ad372 = ad373 := (by injection e373)
           replace hx373_0 := (HB.out.cell (World.block_lt_of_cell? w _ hx373_0)).trans hx373_0
           replace p373 := eq_true p373
           replace q373 := eq_true q373
           refine start_ (n := 16) (S := fun w' => w'.cell? ⟨gb369, 0, none⟩ = some (.int .i64 a0_0) ∧ w'.cell? ⟨gb369, 1, none⟩ = some (.int .i64 a0_1) ∧ w'.cell? ⟨gb369, 2, none⟩ = some (.int .i64 a0_2) ∧ w'.cell? ⟨gb369, 3, none⟩ = some (.int .i64 a0_3) ∧ w'.cell? ⟨gb369, 4, none⟩ = some (.int .i64 a0_4) ∧ w'.cell? ⟨gb369, 5, none⟩ = some (.string a0_5) ∧ w'.cell? ⟨gb369, 6, none⟩ = some (.string a0_6) ∧ w'.cell? ⟨gb369, 7, none⟩ = some (.bool a0_7) ∧ w'.cell? (ad372.add (x7_2).toNat) = some (.int .i64 (rd l1 x7_2)) ∧ w'.cell? (ad372.add (x7_2).toNat) = some (.int .i64 (rd l1 x7_2))) (ds := []) (bm 16 0) (by kernel_rfl) rfl rfl ⟨(blk_cell BK369.out 0).trans rfl, (blk_cell BK369.out 1).trans rfl, (blk_cell BK369.out 2).trans rfl, (blk_cell BK369.out 3).trans rfl, (blk_cell BK369.out 4).trans rfl, (blk_cell BK369.out 5).trans rfl, (blk_cell BK369.out 6).trans rfl, (blk_cell BK369.out 7).trans rfl, ((HB.out.cell (World.block_lt_of_cell? w _ hw372_0)).trans hw372_0), ((HB.out.cell (World.block_lt_of_cell? w _ hw373_0)).trans hw373_0)⟩ (fun hHeld => ?_); refine with_tabW vitrineref11_Pixel.tab7 vitrineref11_Pixel.bits7 (fun HT_ HW_ => ?_)
           generalize wr.drew = w20 at HO_6 BK369 HB hx372_0 hx373_0 hHeld ⊢
           refine zp 0 35 (bm 16 1) ?_
           refine zp 1 36 (bm 16 3) ?_
           refine zp 2 37 (bm 16 7) ?_
           refine zt 3 38 (bm 16 15) rfl (by rintro w' ⟨s0, s1, s2, s3, s4, s5, s6, s7, s8, s9⟩; go_simp; with_reducible rfl) ?_
           refine zp 4 39 (bm 16 31) ?_
           refine zp 5 40 (bm 16 63) ?_
           refine zp 6 41 (bm 16 127) ?_
           refine zp 7 42 (bm 16 255) ?_
           refine zp 8 43 (bm 16 511) ?_
           refine zp 10 45 (bm 16 1535) ?_
           refine zp 11 46 (bm 16 3583) ?_
           refine zt 9 44 (bm 16 4095) rfl (by rintro w' ⟨s0, s1, s2, s3, s4, s5, s6, s7, s8, s9⟩; go_simp; with_reducible rfl) ?_
           refine zt 12 47 (bm 16 8191) rfl (by rintro w' ⟨s0, s1, s2, s3, s4, s5, s6, s7, s8, s9⟩; go_simp; with_reducible rfl) ?_
           refine zp 13 48 (bm 16 16383) ?_
           refine zp 14 49 (bm 16 32767) ?_
           refine zp 15 50 (bm 16 65535) ?_
           refine done_ (done_of HT_.out (by kernel_rfl)) ?_
           try go_wp2
           go_meet
           case rel => exact ⟨_, (decide ((rd l1 x7_2) ≥ (ji19))), (by first | rfl | (simp; done) | (simp only [← hji19] <;> (first | rfl | simp)) | (simp [*]; done)), H', ⟨by have := HJ2.out; have := HK2.out; first | omega | exact Nat.le_refl _⟩, ⟨oz HO_6⟩, ⟨kz BK369⟩, ⟨hz HB⟩⟩
          ·
           as_aux_lemma =>
           rw [if_neg c18] at H
           exact absurd H (by simp)
        ·
         as_aux_lemma =>
         rw [if_neg c15] at H
         exact absurd H (by simp)
       case rest =>
        as_aux_lemma =>
        clear HC14
        try clear c12
        try clear c13
        try clear c13b0
        obtain ⟨kq, x50_13, rfl, HA, HJ13, HO_6, BK369, HB⟩ := hcut
        cases kq with
        | zero => exact absurd HA.out (by simp [vitrineref11_Pixel.j2])
        | succ kj13 =>
         have H := HA.out
         clear HA
         simp only [vitrineref11_Pixel.j2] at H
         by_cases c21 : x50_13 = true
         ·
          subst c21
          have H1 : (some ((⟨#[]⟩ : ByteArray), 1)) = some (r1, r2) := by rw [if_pos rfl] at H; exact H
          clear H
          have H := H1
          clear H1
          simp only [Option.some.injEq, Prod.mk.injEq] at H
          obtain ⟨rfl, rfl⟩ := H
          go_wp2
          go_ret2
          exact ⟨by first | rfl | (simp [errW_none, errW_some] <;> rfl) | (simp [*, errW_none, errW_some] <;> rfl), by repeat (first | (with_reducible first | exact HB.out | apply below_alloc | apply pw_below_drewN | apply below_drew1 | refine below_set ?_ GE369.out) | exact HB.out)⟩
         ·
          replace c21 := Bool.eq_false_iff.mpr c21
          subst c21
          have H1 : (if 0 ≤ x7_2 then (if x7_2 < (l1.length : Int) then ((vitrineref11_Wide.f (rd l1 x7_2) a0_2).bind fun t375 => ((vitrineref11_two.f t375).bind fun t376 => (if x6_2.length < 8796093022208 then (vitrineref11_Pixel.l0 kj13 l1 (x6_2 ++ [t376]) (wrap64 (x7_2 + 1)) a0_0 a0_1 a0_2 a0_3 a0_4 a0_5 a0_6 a0_7) else (none)))) else (none)) else (none)) = some (r1, r2) := by rw [if_neg (show ¬ (false = true) by decide)] at H; exact H
          clear H
          have H := H1
          clear H1
          by_cases c22 : 0 ≤ x7_2
          ·
           as_aux_lemma =>
           rw [if_pos c22] at H
           have c22b0 : decide (0 ≤ x7_2) = true := decide_eq_true c22
           clear c22
           by_cases c23 : x7_2 < (l1.length : Int)
           ·
            as_aux_lemma =>
            rw [if_pos c23] at H
            have c23b0 : decide (x7_2 < (l1.length : Int)) = true := decide_eq_true c23
            clear c23
            replace H := Option.bind_eq_some_iff.mp H
            obtain ⟨t375, A240, H⟩ := H
            replace H : ((vitrineref11_two.f t375).bind fun t376 => (if x6_2.length < 8796093022208 then (vitrineref11_Pixel.l0 kj13 l1 (x6_2 ++ [t376]) (wrap64 (x7_2 + 1)) a0_0 a0_1 a0_2 a0_3 a0_4 a0_5 a0_6 a0_7) else (none))) = some (r1, r2) := H
            have A24 := Aside0.mk A240
            clear A240
            replace H := Option.bind_eq_some_iff.mp H
            obtain ⟨t376, A250, H⟩ := H
            replace H : (if x6_2.length < 8796093022208 then (vitrineref11_Pixel.l0 kj13 l1 (x6_2 ++ [t376]) (wrap64 (x7_2 + 1)) a0_0 a0_1 a0_2 a0_3 a0_4 a0_5 a0_6 a0_7) else (none)) = some (r1, r2) := H
            have A25 := Aside0.mk A250
            clear A250
            by_cases c26 : x6_2.length < 8796093022208
            ·
             as_aux_lemma =>
             rw [if_pos c26] at H
             have LMc26 := Aside0.mk c26
             clear c26
             obtain ⟨y377, hy377⟩ : ∃ y_ : List ByteArray, y_ = (x6_2 ++ [t376]) := ⟨_, rfl⟩
             replace H : (vitrineref11_Pixel.l0 kj13 l1 y377 (wrap64 (x7_2 + 1)) a0_0 a0_1 a0_2 a0_3 a0_4 a0_5 a0_6 a0_7) = some (r1, r2) := by first | (rw [hy377]; with_reducible exact H) | (have H2_ := (Option.bind_some _ _).symm.trans H; rw [hy377]; with_reducible exact H2_) | (have H2_ := (Option.bind_some _ _).symm.trans H; with_reducible exact H2_) | with_reducible exact H | (rw [hy377]; exact H) | exact H
             have Ny377 := Aside0.mk hy377
             clear hy377
             have H' := Aside0.mk H
             clear H
             try go_wp2
             have n0_ := Aside0.mk (Kd.R_drew HO_6.out)
             have n1_ := Aside0.mk (blk_drew BK369.out)
             have n2_ := Aside0.mk (below_drew1 HB.out)
             clear HO_6
             clear BK369
             clear HB
             have HO_6 := n0_
             have BK369 := n1_
             have HB := n2_
             clear n0_ n1_ n2_
             have p374 : 0 ≤ (x7_2 : Int) := of_decide_eq_true (by first | (with_reducible assumption) | assumption)
             have q374 : x7_2 < (l1.length : Int) := of_decide_eq_true (by first | (with_reducible assumption) | assumption)
             obtain ⟨ad374, e374, hx374_0⟩ := Kd.at_int HR1.out x7_2 p374 q374
             have hw374_0 := hx374_0
             cases e374
             replace hx374_0 := (HB.out.cell (World.block_lt_of_cell? w _ hx374_0)).trans hx374_0
             replace p374 := eq_true p374
             replace q374 := eq_true q374
             refine start_ (n := 13) (S := fun w' => w'.cell? ⟨gb369, 0, none⟩ = some (.int .i64 a0_0) ∧ w'.cell? ⟨gb369, 1, none⟩ = some (.int .i64 a0_1) ∧ w'.cell? ⟨gb369, 2, none⟩ = some (.int .i64 a0_2) ∧ w'.cell? ⟨gb369, 3, none⟩ = some (.int .i64 a0_3) ∧ w'.cell? ⟨gb369, 4, none⟩ = some (.int .i64 a0_4) ∧ w'.cell? ⟨gb369, 5, none⟩ = some (.string a0_5) ∧ w'.cell? ⟨gb369, 6, none⟩ = some (.string a0_6) ∧ w'.cell? ⟨gb369, 7, none⟩ = some (.bool a0_7) ∧ w'.cell? (ad374.add (x7_2).toNat) = some (.int .i64 (rd l1 x7_2))) (ds := []) (bm 13 0) (by kernel_rfl) rfl rfl ⟨(blk_cell BK369.out 0).trans rfl, (blk_cell BK369.out 1).trans rfl, (blk_cell BK369.out 2).trans rfl, (blk_cell BK369.out 3).trans rfl, (blk_cell BK369.out 4).trans rfl, (blk_cell BK369.out 5).trans rfl, (blk_cell BK369.out 6).trans rfl, (blk_cell BK369.out 7).trans rfl, ((HB.out.cell (World.block_lt_of_cell? w _ hw374_0)).trans hw374_0)⟩ (fun hHeld => ?_); refine with_tabW vitrineref11_Pixel.tab9 vitrineref11_Pixel.bits9 (fun HT_ HW_ => ?_)
             generalize wc.drew = w27 at HO_6 BK369 HB hx374_0 hHeld ⊢
             refine zp 0 51 (bm 13 1) ?_
             refine zp 1 52 (bm 13 3) ?_
             refine zp 2 53 (bm 13 7) ?_
             refine zp 3 54 (bm 13 15) ?_
             refine zp 5 56 (bm 13 47) ?_
             refine zp 6 57 (bm 13 111) ?_
             refine zt 4 55 (bm 13 127) rfl (by rintro w' ⟨s0, s1, s2, s3, s4, s5, s6, s7, s8⟩; go_simp; with_reducible rfl) ?_
             refine zt 7 58 (bm 13 255) rfl (by rintro w' ⟨s0, s1, s2, s3, s4, s5, s6, s7, s8⟩; go_simp; with_reducible rfl) ?_
             refine one_ (i := 8) (N := some 59) (bm 13 511) rfl rfl (one_of HT_.out (by kernel_rfl)) (by decide) (fun K hK => ?_)
             refine goes_ Try.func50 (by kernel_rfl) rfl #[.int .i64 (rd l1 x7_2), .int .i64 a0_2] (by rfl) rfl rfl (by (try simp only [List.map_toArray, List.map_cons, List.map_nil]); first | done | rfl | (simp only [List.length_drop, List.length_take]; rfl) | (simp only [ByteArray.size_extract, Nat.min_self]; done) | (simp only [ByteArray.size_extract, Nat.min_self]; rfl)) ?_
             with_reducible refine (vitrineref11_Wide.calls (rd l1 x7_2) a0_2 t375 _ A24.out).mono ?_
             rintro e w' ⟨rfl, ⟨nd, rfl⟩⟩
             refine ⟨_, rfl, ?_⟩
             refine hK.out _ _ ⟨(blk_cell BK369.out 0).trans rfl, (blk_cell BK369.out 1).trans rfl, (blk_cell BK369.out 2).trans rfl, (blk_cell BK369.out 3).trans rfl, (blk_cell BK369.out 4).trans rfl, (blk_cell BK369.out 5).trans rfl, (blk_cell BK369.out 6).trans rfl, (blk_cell BK369.out 7).trans rfl, ((HB.out.cell (World.block_lt_of_cell? w _ hw374_0)).trans hw374_0)⟩ (fun hHeld => ?_)
             clear hK K
             refine norm_ (a' := ?_) ?_ ?_
             rotate_left
             ·
              show Act.put _ (some 59) _ = _
              simp only [Act.put, zq1, zq2, zq3, i64_w, i32_w]
              rfl
             refine one_ (i := 9) (N := some 60) (bm 13 1023) rfl rfl (one_of HT_.out (by kernel_rfl)) (by decide) (fun K hK => ?_)
             refine goes_ Try.func49 (by kernel_rfl) rfl #[.int .i64 t375] (by rfl) rfl rfl (by (try simp only [List.map_toArray, List.map_cons, List.map_nil]); first | done | rfl | (simp only [List.length_drop, List.length_take]; rfl) | (simp only [ByteArray.size_extract, Nat.min_self]; done) | (simp only [ByteArray.size_extract, Nat.min_self]; rfl)) ?_
             with_reducible refine (vitrineref11_two.calls t375 t376 _ A25.out).mono ?_
             rintro e w28 ⟨rfl, hb⟩
             refine ⟨_, rfl, ?_⟩
             have n0_ := Aside0.mk (Kd.R_below (oz HO_6) hb)
             have n1_ := Aside0.mk (blk_below (g := gb369) (o := .cells #[.int .i64 a0_0, .int .i64 a0_1, .int .i64 a0_2, .int .i64 a0_3, .int .i64 a0_4, .string a0_5, .string a0_6, .bool a0_7] 31 (0, 0)) (kz BK369) hb)
             have n2_ := Aside0.mk (below_step (hz HB) hb)
             clear HO_6
             clear BK369
             clear HB
             have HO_6 := n0_
             have BK369 := n1_
             have HB := n2_
             clear n0_ n1_ n2_
             (try clear hb)
             refine hK.out _ _ ⟨(blk_cell BK369.out 0).trans rfl, (blk_cell BK369.out 1).trans rfl, (blk_cell BK369.out 2).trans rfl, (blk_cell BK369.out 3).trans rfl, (blk_cell BK369.out 4).trans rfl, (blk_cell BK369.out 5).trans rfl, (blk_cell BK369.out 6).trans rfl, (blk_cell BK369.out 7).trans rfl, ((HB.out.cell (World.block_lt_of_cell? w _ hw374_0)).trans hw374_0)⟩ (fun hHeld => ?_)
             clear hK K
             refine norm_ (a' := ?_) ?_ ?_
             rotate_left
             ·
              show Act.put _ (some 60) _ = _
              simp only [Act.put, zq1, zq2, zq3, i64_w, i32_w]
              rfl
             refine one_ (i := 10) (N := some 61) (bm 13 2047) rfl rfl (one_of HT_.out (by kernel_rfl)) (by decide) (fun K hK => ?_)
             refine value_ (w1 := ?_) (v := ?_) (by rfl) rfl ?_ ?_
             rotate_left 2
             ·
              go_simp
              constructor
              ·
               rfl
              ·
               rfl
             refine hK.out _ _ ⟨(blk_cell (blk_alloc BK369.out _) 0).trans rfl, (blk_cell (blk_alloc BK369.out _) 1).trans rfl, (blk_cell (blk_alloc BK369.out _) 2).trans rfl, (blk_cell (blk_alloc BK369.out _) 3).trans rfl, (blk_cell (blk_alloc BK369.out _) 4).trans rfl, (blk_cell (blk_alloc BK369.out _) 5).trans rfl, (blk_cell (blk_alloc BK369.out _) 6).trans rfl, (blk_cell (blk_alloc BK369.out _) 7).trans rfl, (World.cell?_alloc_lt _ _ _ (World.block_lt_of_cell? _ _ (((HB.out.cell (World.block_lt_of_cell? w _ hw374_0)).trans hw374_0)))).trans (((HB.out.cell (World.block_lt_of_cell? w _ hw374_0)).trans hw374_0))⟩ (fun hHeld => ?_)
             clear hK K
             refine norm_ (a' := ?_) ?_ ?_
             rotate_left
             ·
              show Act.put _ (some 61) _ = _
              simp only [Act.put, zq1, zq2, zq3, i64_w, i32_w]
              rfl
             refine one_ (i := 11) (N := some 62) (bm 13 4095) rfl rfl (one_of HT_.out (by kernel_rfl)) (by decide) (fun K hK => ?_)
             refine Kd.R_append_step Kd.string (w0 := w) w.heap.size (by rfl) (.tmp 51) (.tmp 61) 73 9 (.string ⟨#[]⟩) 16 rfl Try.underlying73 info9 rfl (by decide) (by omega) u6 x6_2 t376 [.string t376] (fun _ => True) (fun _ => False) rfl rfl ?aP (fun _ hk => hk.elim) ?aF ?aO ?aB ?aS ?aL ?_
             (case aP => exact rfl)
             (case aB => exact (hz HB))
             (case aF => exact (fun _ _ => trivial))
             (case aO => exact (oz HO_6))
             (case aS => exact (below_size (hz HB)))
             (case aL => have := LMc26.out; omega)
             intro v378 w29 ho hb hg hat
             rw [← Ny377.out] at ho
             have n0_ := Aside0.mk (blk_grown (g := gb369) (o := .cells #[.int .i64 a0_0, .int .i64 a0_1, .int .i64 a0_2, .int .i64 a0_3, .int .i64 a0_4, .string a0_5, .string a0_6, .bool a0_7] 31 (0, 0)) (kz BK369) hg (Kd.R_ne HO_6.out BK369.out (by decide)))
             have n1_ := Aside0.mk (hb)
             have n2_ := Aside0.mk (ho)
             clear BK369
             clear HB
             clear HO_6
             have BK369 := n0_
             have HB := n1_
             have HO379 := n2_
             clear n0_ n1_ n2_
             clear ho hb hg hat
             refine hK.out _ _ ⟨(blk_cell BK369.out 0).trans rfl, (blk_cell BK369.out 1).trans rfl, (blk_cell BK369.out 2).trans rfl, (blk_cell BK369.out 3).trans rfl, (blk_cell BK369.out 4).trans rfl, (blk_cell BK369.out 5).trans rfl, (blk_cell BK369.out 6).trans rfl, (blk_cell BK369.out 7).trans rfl, ((HB.out.cell (World.block_lt_of_cell? w _ hw374_0)).trans hw374_0)⟩ (fun hHeld => ?_)
             clear hK K
             refine norm_ (a' := ?_) ?_ ?_
             rotate_left
             ·
              show Act.put _ (some 62) _ = _
              simp only [Act.put, zq1, zq2, zq3, i64_w, i32_w]
              rfl
             refine zp 12 6 (bm 13 8191) ?_
             refine done_ (done_of HT_.out (by kernel_rfl)) ?_
             try go_wp2
             go_roundg kj13
             case measure => have := HJ2.out; have := HK2.out; have := HJ13.out; omega
             case rel => exact ⟨(y377), (wrap64 (x7_2 + 1)), (by first | rfl | (simp; done) | (simp [*]; done)), H', ⟨by have := HJ2.out; have := HK2.out; have := HJ13.out; omega⟩, ⟨oz HO379⟩, ⟨kz BK369⟩, ⟨hz HB⟩⟩
            ·
             as_aux_lemma =>
             rw [if_neg c26] at H
             exact absurd H (by simp)
           ·
            as_aux_lemma =>
            rw [if_neg c23] at H
            exact absurd H (by simp)
          ·
           as_aux_lemma =>
           rw [if_neg c22] at H
           exact absurd H (by simp)
      ·
       as_aux_lemma =>
       rw [if_neg c13] at H
       have c13b0 : decide (x7_2 < (l1.length : Int)) = false := decide_eq_false c13
       clear c13
       replace H := Option.bind_eq_some_iff.mp H
       obtain ⟨t380, A300, H⟩ := H
       replace H : (if a0_3 = 0 then ((vitrineref11_same.f k2 a0_0 a0_1 a0_2 a0_3 a0_4 a0_5 a0_6 a0_7 l1).bind fun t381 => (vitrineref11_Pixel.j3 k2 l1 x6_2 t380 t381 a0_0 a0_1 a0_2 a0_3 a0_4 a0_5 a0_6 a0_7)) else (if a0_3 = 2 then ((vitrineref11_same.f k2 a0_0 a0_1 a0_2 a0_3 a0_4 a0_5 a0_6 a0_7 l1).bind fun t382 => (vitrineref11_Pixel.j3 k2 l1 x6_2 t380 t382 a0_0 a0_1 a0_2 a0_3 a0_4 a0_5 a0_6 a0_7)) else (vitrineref11_Pixel.j3 k2 l1 x6_2 t380 false a0_0 a0_1 a0_2 a0_3 a0_4 a0_5 a0_6 a0_7))) = some (r1, r2) := H
       have A30 := Aside0.mk A300
       clear A300
       have HC31 := Aside0.mk H
       clear H
       go_upto_region 11 with (first | ((with_reducible refine gate_callee (f := 49) rfl ?_); refine gz 63 Try.func49 #[.int .i64 65535] ?_; (with_reducible refine (vitrineref11_two.calls 65535 t380 _ A30.out).mono ?_); rintro e w32 ⟨rfl, hb⟩; refine ⟨_, rfl, ?_⟩; have n0_ := Aside0.mk (Kd.R_below (oz HO_6) hb); have n1_ := Aside0.mk (blk_below (g := gb369) (o := .cells #[.int .i64 a0_0, .int .i64 a0_1, .int .i64 a0_2, .int .i64 a0_3, .int .i64 a0_4, .string a0_5, .string a0_6, .bool a0_7] 31 (0, 0)) (kz BK369) hb); have n2_ := Aside0.mk (below_step (hz HB) hb); clear HO_6; clear BK369; clear HB; have HO_6 := n0_; have BK369 := n1_; have HB := n2_; clear n0_ n1_ n2_; (try clear hb); (try clear hb2); (try clear hk); (try clear hi)))
       (try simp only [Act.put, List.setIfInBounds_toArray, List.set_cons_zero, List.set_cons_succ])
       go_cut [78] (fun v78 wc => ∃ (kq : Nat) (x78_30 : Bool), v78 = .bool x78_30 ∧ Aside0 (vitrineref11_Pixel.j3 kq l1 x6_2 t380 x78_30 a0_0 a0_1 a0_2 a0_3 a0_4 a0_5 a0_6 a0_7 = some (r1, r2)) ∧ Aside0 (kq ≤ k2) ∧ Aside0 (Kd.R Kd.string 9 wc w.heap.size (fun _ => True) u6 x6_2) ∧ Aside0 (wc.heap[gb369]? = some (.cells #[.int .i64 a0_0, .int .i64 a0_1, .int .i64 a0_2, .int .i64 a0_3, .int .i64 a0_4, .string a0_5, .string a0_6, .bool a0_7] 31 (0, 0))) ∧ Aside0 (Below w.heap.size w wc))
       case first =>
        as_aux_lemma =>
        have H := HC31.out
        clear HC31
        by_cases c33 : a0_3 = 0
        ·
         as_aux_lemma =>
         rw [if_pos c33] at H
         have c33b0 : (a0_3 == 0) = true := beq_iff_eq.mpr c33
         have c33b1 : (a0_3 != 0) = false := bne_eq_false_iff_eq.mpr c33
         clear c33
         (first | rw [c33b0] | (simp only [i64_w, i32_w]; rw [c33b0]) | skip)
         replace H := Option.bind_eq_some_iff.mp H
         obtain ⟨t381, A340, H⟩ := H
         replace H : (vitrineref11_Pixel.j3 k2 l1 x6_2 t380 t381 a0_0 a0_1 a0_2 a0_3 a0_4 a0_5 a0_6 a0_7) = some (r1, r2) := H
         have A34 := Aside0.mk A340
         clear A340
         have H' := Aside0.mk H
         clear H
         have hcz35_0 : w32.cell? ⟨gb369, 0, none⟩ = some (.int .i64 a0_0) := (blk_cell BK369.out 0).trans rfl
         have hcz35_1 : w32.cell? ⟨gb369, 1, none⟩ = some (.int .i64 a0_1) := (blk_cell BK369.out 1).trans rfl
         have hcz35_2 : w32.cell? ⟨gb369, 2, none⟩ = some (.int .i64 a0_2) := (blk_cell BK369.out 2).trans rfl
         have hcz35_3 : w32.cell? ⟨gb369, 3, none⟩ = some (.int .i64 a0_3) := (blk_cell BK369.out 3).trans rfl
         have hcz35_4 : w32.cell? ⟨gb369, 4, none⟩ = some (.int .i64 a0_4) := (blk_cell BK369.out 4).trans rfl
         have hcz35_5 : w32.cell? ⟨gb369, 5, none⟩ = some (.string a0_5) := (blk_cell BK369.out 5).trans rfl
         have hcz35_6 : w32.cell? ⟨gb369, 6, none⟩ = some (.string a0_6) := (blk_cell BK369.out 6).trans rfl
         have hcz35_7 : w32.cell? ⟨gb369, 7, none⟩ = some (.bool a0_7) := (blk_cell BK369.out 7).trans rfl
         have hfz35_0 := blk_frozen BK369.out 0
         have hfz35_1 := blk_frozen BK369.out 1
         have hfz35_2 := blk_frozen BK369.out 2
         have hfz35_3 := blk_frozen BK369.out 3
         have hfz35_4 := blk_frozen BK369.out 4
         have hfz35_5 := blk_frozen BK369.out 5
         have hfz35_6 := blk_frozen BK369.out 6
         have hfz35_7 := blk_frozen BK369.out 7
         go_wp2_with (first | (go_at_call 51; (with_reducible refine (vitrineref11_same.calls k2 a0_0 a0_1 a0_2 a0_3 a0_4 a0_5 a0_6 a0_7 _ _ l1 t381 _ ?side1 ?side2 A34.out).mono ?_); (case side1 => repeat (first | exact (Kd.C_below HR1.out HB.out) | (with_reducible refine Kd.C_alloc ?_ _) | (with_reducible refine Kd.C_drewN ?_ _) | (with_reducible refine Kd.C_drew ?_))); (case side2 => exact HC1.out); rintro e w36 ⟨rfl, hb⟩; have n0_ := Aside0.mk (Kd.R_below (oz HO_6) hb); have n1_ := Aside0.mk (blk_below (g := gb369) (o := .cells #[.int .i64 a0_0, .int .i64 a0_1, .int .i64 a0_2, .int .i64 a0_3, .int .i64 a0_4, .string a0_5, .string a0_6, .bool a0_7] 31 (0, 0)) (kz BK369) hb); have n2_ := Aside0.mk (below_step (hz HB) hb); clear HO_6; clear BK369; clear HB; have HO_6 := n0_; have BK369 := n1_; have HB := n2_; clear n0_ n1_ n2_; (try clear hb); (try clear hb2); (try clear hk); (try clear hi)))
         go_meet
         case rel => exact ⟨_, (t381), (by first | rfl | (simp; done) | (simp [*]; done)), H', ⟨by have := HJ2.out; have := HK2.out; first | omega | exact Nat.le_refl _⟩, ⟨oz HO_6⟩, ⟨kz BK369⟩, ⟨hz HB⟩⟩
        ·
         as_aux_lemma =>
         rw [if_neg c33] at H
         have c33b0 : (a0_3 == 0) = false := beq_eq_false_iff_ne.mpr c33
         have c33b1 : (a0_3 != 0) = true := bne_iff_ne.mpr c33
         (first | rw [c33b0] | (simp only [i64_w, i32_w]; rw [c33b0]) | skip)
         by_cases c37 : a0_3 = 2
         ·
          as_aux_lemma =>
          rw [if_pos c37] at H
          have c37b0 : (a0_3 == 2) = true := beq_iff_eq.mpr c37
          have c37b1 : (a0_3 != 2) = false := bne_eq_false_iff_eq.mpr c37
          clear c37
          replace H := Option.bind_eq_some_iff.mp H
          obtain ⟨t382, A380, H⟩ := H
          replace H : (vitrineref11_Pixel.j3 k2 l1 x6_2 t380 t382 a0_0 a0_1 a0_2 a0_3 a0_4 a0_5 a0_6 a0_7) = some (r1, r2) := H
          have A38 := Aside0.mk A380
          clear A380
          have H' := Aside0.mk H
          clear H
          have hcz39_0 : w32.cell? ⟨gb369, 0, none⟩ = some (.int .i64 a0_0) := (blk_cell BK369.out 0).trans rfl
          have hcz39_1 : w32.cell? ⟨gb369, 1, none⟩ = some (.int .i64 a0_1) := (blk_cell BK369.out 1).trans rfl
          have hcz39_2 : w32.cell? ⟨gb369, 2, none⟩ = some (.int .i64 a0_2) := (blk_cell BK369.out 2).trans rfl
          have hcz39_3 : w32.cell? ⟨gb369, 3, none⟩ = some (.int .i64 a0_3) := (blk_cell BK369.out 3).trans rfl
          have hcz39_4 : w32.cell? ⟨gb369, 4, none⟩ = some (.int .i64 a0_4) := (blk_cell BK369.out 4).trans rfl
          have hcz39_5 : w32.cell? ⟨gb369, 5, none⟩ = some (.string a0_5) := (blk_cell BK369.out 5).trans rfl
          have hcz39_6 : w32.cell? ⟨gb369, 6, none⟩ = some (.string a0_6) := (blk_cell BK369.out 6).trans rfl
          have hcz39_7 : w32.cell? ⟨gb369, 7, none⟩ = some (.bool a0_7) := (blk_cell BK369.out 7).trans rfl
          have hfz39_0 := blk_frozen BK369.out 0
          have hfz39_1 := blk_frozen BK369.out 1
          have hfz39_2 := blk_frozen BK369.out 2
          have hfz39_3 := blk_frozen BK369.out 3
          have hfz39_4 := blk_frozen BK369.out 4
          have hfz39_5 := blk_frozen BK369.out 5
          have hfz39_6 := blk_frozen BK369.out 6
          have hfz39_7 := blk_frozen BK369.out 7
          go_wp2_with (first | (go_at_call 51; (with_reducible refine (vitrineref11_same.calls k2 a0_0 a0_1 a0_2 a0_3 a0_4 a0_5 a0_6 a0_7 _ _ l1 t382 _ ?side1 ?side2 A38.out).mono ?_); (case side1 => repeat (first | exact (Kd.C_below HR1.out HB.out) | (with_reducible refine Kd.C_alloc ?_ _) | (with_reducible refine Kd.C_drewN ?_ _) | (with_reducible refine Kd.C_drew ?_))); (case side2 => exact HC1.out); rintro e w40 ⟨rfl, hb⟩; have n0_ := Aside0.mk (Kd.R_below (oz HO_6) hb); have n1_ := Aside0.mk (blk_below (g := gb369) (o := .cells #[.int .i64 a0_0, .int .i64 a0_1, .int .i64 a0_2, .int .i64 a0_3, .int .i64 a0_4, .string a0_5, .string a0_6, .bool a0_7] 31 (0, 0)) (kz BK369) hb); have n2_ := Aside0.mk (below_step (hz HB) hb); clear HO_6; clear BK369; clear HB; have HO_6 := n0_; have BK369 := n1_; have HB := n2_; clear n0_ n1_ n2_; (try clear hb); (try clear hb2); (try clear hk); (try clear hi)))
          go_meet
          case rel => exact ⟨_, (t382), (by first | rfl | (simp; done) | (simp [*]; done)), H', ⟨by have := HJ2.out; have := HK2.out; first | omega | exact Nat.le_refl _⟩, ⟨oz HO_6⟩, ⟨kz BK369⟩, ⟨hz HB⟩⟩
         ·
          as_aux_lemma =>
          rw [if_neg c37] at H
          have c37b0 : (a0_3 == 2) = false := beq_eq_false_iff_ne.mpr c37
          have c37b1 : (a0_3 != 2) = true := bne_iff_ne.mpr c37
          have H' := Aside0.mk H
          clear H
          have hcz41_0 : w32.cell? ⟨gb369, 0, none⟩ = some (.int .i64 a0_0) := (blk_cell BK369.out 0).trans rfl
          have hcz41_1 : w32.cell? ⟨gb369, 1, none⟩ = some (.int .i64 a0_1) := (blk_cell BK369.out 1).trans rfl
          have hcz41_2 : w32.cell? ⟨gb369, 2, none⟩ = some (.int .i64 a0_2) := (blk_cell BK369.out 2).trans rfl
          have hcz41_3 : w32.cell? ⟨gb369, 3, none⟩ = some (.int .i64 a0_3) := (blk_cell BK369.out 3).trans rfl
          have hcz41_4 : w32.cell? ⟨gb369, 4, none⟩ = some (.int .i64 a0_4) := (blk_cell BK369.out 4).trans rfl
          have hcz41_5 : w32.cell? ⟨gb369, 5, none⟩ = some (.string a0_5) := (blk_cell BK369.out 5).trans rfl
          have hcz41_6 : w32.cell? ⟨gb369, 6, none⟩ = some (.string a0_6) := (blk_cell BK369.out 6).trans rfl
          have hcz41_7 : w32.cell? ⟨gb369, 7, none⟩ = some (.bool a0_7) := (blk_cell BK369.out 7).trans rfl
          have hfz41_0 := blk_frozen BK369.out 0
          have hfz41_1 := blk_frozen BK369.out 1
          have hfz41_2 := blk_frozen BK369.out 2
          have hfz41_3 := blk_frozen BK369.out 3
          have hfz41_4 := blk_frozen BK369.out 4
          have hfz41_5 := blk_frozen BK369.out 5
          have hfz41_6 := blk_frozen BK369.out 6
          have hfz41_7 := blk_frozen BK369.out 7
          go_wp2
          go_meet
          case rel => exact ⟨_, (false), (by first | rfl | (simp; done) | (simp [*]; done)), H', ⟨by have := HJ2.out; have := HK2.out; first | omega | exact Nat.le_refl _⟩, ⟨oz HO_6⟩, ⟨kz BK369⟩, ⟨hz HB⟩⟩
       case rest =>
        as_aux_lemma =>
        clear HC31
        try clear c12
        try clear c13
        try clear c13b0
        obtain ⟨kq, x78_30, rfl, HA, HJ30, HO_6, BK369, HB⟩ := hcut
        cases kq with
        | zero => exact absurd HA.out (by simp [vitrineref11_Pixel.j3])
        | succ kj30 =>
         have H := HA.out
         clear HA
         simp only [vitrineref11_Pixel.j3] at H
         have HC42 := Aside0.mk H
         clear H
         go_upto_if 78 with (fail)
         go_cut [8] (fun v8 wc => ∃ (kq : Nat) (x8_41 : ByteArray), v8 = .string x8_41 ∧ Aside0 (vitrineref11_Pixel.j4 kq l1 x6_2 x8_41 a0_0 a0_1 a0_2 a0_3 a0_4 a0_5 a0_6 a0_7 = some (r1, r2)) ∧ Aside0 (kq ≤ kj30) ∧ Aside0 (Kd.R Kd.string 9 wc w.heap.size (fun _ => True) u6 x6_2) ∧ Aside0 (wc.heap[gb369]? = some (.cells #[.int .i64 a0_0, .int .i64 a0_1, .int .i64 a0_2, .int .i64 a0_3, .int .i64 a0_4, .string a0_5, .string a0_6, .bool a0_7] 31 (0, 0))) ∧ Aside0 (Below w.heap.size w wc))
         case first =>
          as_aux_lemma =>
          have H := HC42.out
          clear HC42
          by_cases c43 : x78_30 = true
          ·
           subst c43
           have H1 : ((vitrineref11_two.f 0).bind fun t383 => (vitrineref11_Pixel.j4 kj30 l1 x6_2 t383 a0_0 a0_1 a0_2 a0_3 a0_4 a0_5 a0_6 a0_7)) = some (r1, r2) := by rw [if_pos rfl] at H; exact H
           clear H
           have H := H1
           clear H1
           replace H := Option.bind_eq_some_iff.mp H
           obtain ⟨t383, A440, H⟩ := H
           replace H : (vitrineref11_Pixel.j4 kj30 l1 x6_2 t383 a0_0 a0_1 a0_2 a0_3 a0_4 a0_5 a0_6 a0_7) = some (r1, r2) := H
           have A44 := Aside0.mk A440
           clear A440
           have H' := Aside0.mk H
           clear H
           go_wp2_with (first | ((with_reducible refine gate_callee (f := 49) rfl ?_); refine gz 79 Try.func49 #[.int .i64 0] ?_; (with_reducible refine (vitrineref11_two.calls 0 t383 _ A44.out).mono ?_); rintro e w45 ⟨rfl, hb⟩; refine ⟨_, rfl, ?_⟩; have n0_ := Aside0.mk (Kd.R_below (oz HO_6) hb); have n1_ := Aside0.mk (blk_below (g := gb369) (o := .cells #[.int .i64 a0_0, .int .i64 a0_1, .int .i64 a0_2, .int .i64 a0_3, .int .i64 a0_4, .string a0_5, .string a0_6, .bool a0_7] 31 (0, 0)) (kz BK369) hb); have n2_ := Aside0.mk (below_step (hz HB) hb); clear HO_6; clear BK369; clear HB; have HO_6 := n0_; have BK369 := n1_; have HB := n2_; clear n0_ n1_ n2_; (try clear hb); (try clear hb2); (try clear hk); (try clear hi)))
           go_meet
           case rel => exact ⟨_, (t383), (by first | rfl | (simp; done) | (simp [*]; done)), H', ⟨by have := HJ2.out; have := HK2.out; have := HJ30.out; first | omega | exact Nat.le_refl _⟩, ⟨oz HO_6⟩, ⟨kz BK369⟩, ⟨hz HB⟩⟩
          ·
           replace c43 := Bool.eq_false_iff.mpr c43
           subst c43
           have H1 : (vitrineref11_Pixel.j4 kj30 l1 x6_2 t380 a0_0 a0_1 a0_2 a0_3 a0_4 a0_5 a0_6 a0_7) = some (r1, r2) := by rw [if_neg (show ¬ (false = true) by decide)] at H; exact H
           clear H
           have H := H1
           clear H1
           have H' := Aside0.mk H
           clear H
           go_wp2
           go_meet
           case rel => exact ⟨_, (t380), (by first | rfl | (simp; done) | (simp [*]; done)), H', ⟨by have := HJ2.out; have := HK2.out; have := HJ30.out; first | omega | exact Nat.le_refl _⟩, ⟨oz HO_6⟩, ⟨kz BK369⟩, ⟨hz HB⟩⟩
         case rest =>
          as_aux_lemma =>
          clear HC42
          try clear c12
          try clear c13
          try clear c13b0
          obtain ⟨kq, x8_41, rfl, HA, HJ41, HO_6, BK369, HB⟩ := hcut
          cases kq with
          | zero => exact absurd HA.out (by simp [vitrineref11_Pixel.j4])
          | succ kj41 =>
           have H := HA.out
           clear HA
           simp only [vitrineref11_Pixel.j4] at H
           by_cases c46 : a0_3 = 0
           ·
            as_aux_lemma =>
            rw [if_pos c46] at H
            have c46b0 : (a0_3 == 0) = true := beq_iff_eq.mpr c46
            have c46b1 : (a0_3 != 0) = false := bne_eq_false_iff_eq.mpr c46
            clear c46
            by_cases c47 : 0 < (x6_2.length : Int)
            ·
             as_aux_lemma =>
             rw [if_pos c47] at H
             have c47b0 : decide (0 < (x6_2.length : Int)) = true := decide_eq_true c47
             have c47b1 : decide (0 < x6_2.length) = true := decide_eq_true (by omega)
             clear c47
             by_cases c48 : (rdOf ByteArray.empty x6_2 0).size + (rdOf ByteArray.empty x6_2 0).size ≤ 9223372036854775807
             ·
              as_aux_lemma =>
              rw [if_pos c48] at H
              have c48b0 := eq_true c48
              have c48b1 : decide ((rdOf ByteArray.empty x6_2 0).size + (rdOf ByteArray.empty x6_2 0).size ≤ 9223372036854775807) = true := decide_eq_true c48
              try have c48b2 : (9223372036854775807 < (rdOf ByteArray.empty x6_2 0).size + (rdOf ByteArray.empty x6_2 0).size) = False := eq_false (Nat.not_lt.2 c48)
              by_cases c49 : ((rdOf ByteArray.empty x6_2 0) ++ (rdOf ByteArray.empty x6_2 0)).size + (rdOf ByteArray.empty x6_2 0).size ≤ 9223372036854775807
              ·
               as_aux_lemma =>
               rw [if_pos c49] at H
               have c49b0 := eq_true c49
               have c49b1 : decide (((rdOf ByteArray.empty x6_2 0) ++ (rdOf ByteArray.empty x6_2 0)).size + (rdOf ByteArray.empty x6_2 0).size ≤ 9223372036854775807) = true := decide_eq_true c49
               try have c49b2 : (9223372036854775807 < ((rdOf ByteArray.empty x6_2 0) ++ (rdOf ByteArray.empty x6_2 0)).size + (rdOf ByteArray.empty x6_2 0).size) = False := eq_false (Nat.not_lt.2 c49)
               try (have c49b3 := c49b2; simp only [ByteArray.size_append] at c49b3)
               by_cases c50 : (((rdOf ByteArray.empty x6_2 0) ++ (rdOf ByteArray.empty x6_2 0)) ++ (rdOf ByteArray.empty x6_2 0)).size + x8_41.size ≤ 9223372036854775807
               ·
                as_aux_lemma =>
                rw [if_pos c50] at H
                have c50b0 := eq_true c50
                have c50b1 : decide ((((rdOf ByteArray.empty x6_2 0) ++ (rdOf ByteArray.empty x6_2 0)) ++ (rdOf ByteArray.empty x6_2 0)).size + x8_41.size ≤ 9223372036854775807) = true := decide_eq_true c50
                try have c50b2 : (9223372036854775807 < (((rdOf ByteArray.empty x6_2 0) ++ (rdOf ByteArray.empty x6_2 0)) ++ (rdOf ByteArray.empty x6_2 0)).size + x8_41.size) = False := eq_false (Nat.not_lt.2 c50)
                try (have c50b3 := c50b2; simp only [ByteArray.size_append] at c50b3)
                simp only [Option.some.injEq, Prod.mk.injEq] at H
                obtain ⟨rfl, rfl⟩ := H
                have hcz51_0 : wc.cell? ⟨gb369, 0, none⟩ = some (.int .i64 a0_0) := (blk_cell BK369.out 0).trans rfl
                have hcz51_1 : wc.cell? ⟨gb369, 1, none⟩ = some (.int .i64 a0_1) := (blk_cell BK369.out 1).trans rfl
                have hcz51_2 : wc.cell? ⟨gb369, 2, none⟩ = some (.int .i64 a0_2) := (blk_cell BK369.out 2).trans rfl
                have hcz51_3 : wc.cell? ⟨gb369, 3, none⟩ = some (.int .i64 a0_3) := (blk_cell BK369.out 3).trans rfl
                have hcz51_4 : wc.cell? ⟨gb369, 4, none⟩ = some (.int .i64 a0_4) := (blk_cell BK369.out 4).trans rfl
                have hcz51_5 : wc.cell? ⟨gb369, 5, none⟩ = some (.string a0_5) := (blk_cell BK369.out 5).trans rfl
                have hcz51_6 : wc.cell? ⟨gb369, 6, none⟩ = some (.string a0_6) := (blk_cell BK369.out 6).trans rfl
                have hcz51_7 : wc.cell? ⟨gb369, 7, none⟩ = some (.bool a0_7) := (blk_cell BK369.out 7).trans rfl
                have hfz51_0 := blk_frozen BK369.out 0
                have hfz51_1 := blk_frozen BK369.out 1
                have hfz51_2 := blk_frozen BK369.out 2
                have hfz51_3 := blk_frozen BK369.out 3
                have hfz51_4 := blk_frozen BK369.out 4
                have hfz51_5 := blk_frozen BK369.out 5
                have hfz51_6 := blk_frozen BK369.out 6
                have hfz51_7 := blk_frozen BK369.out 7
                try go_wp2
                have n0_ := Aside0.mk (Kd.R_drew HO_6.out)
                have n1_ := Aside0.mk (blk_drew BK369.out)
                have n2_ := Aside0.mk (below_drew1 HB.out)
                clear HO_6
                clear BK369
                clear HB
                have HO_6 := n0_
                have BK369 := n1_
                have HB := n2_
                clear n0_ n1_ n2_
                obtain ⟨Ao53, co53, eo53⟩ := Kd.R_slice HO_6.out
                (first | subst eo53 | (injection eo53 with f1_ f2_ f3_; have f4_ := f1_.symm; have f5_ := f3_.symm; clear f1_ f2_ f3_; subst f4_; subst f5_))
                have p384 : 0 ≤ (0 : Int) := (by omega)
                have q384 : 0 < (x6_2.length : Int) := of_decide_eq_true (by first | (with_reducible assumption) | assumption)
                obtain ⟨ad384, e384, hx384_0⟩ := Kd.at_string (Kd.R_reads' HO_6.out).2.2 0 p384 q384
                cases e384
                have qi384 : (0 < x6_2.length) = True := eq_true (by omega)
                (try rw [show ((0 : Int)).toNat = 0 from rfl] at hx384_0)
                (try rw [Addr.add_zero'] at hx384_0)
                replace p384 := eq_true p384
                replace q384 := eq_true q384
                have p385 : 0 ≤ (0 : Int) := (by omega)
                have q385 : 0 < (x6_2.length : Int) := of_decide_eq_true (by first | (with_reducible assumption) | assumption)
                obtain ⟨ad385, e385, hx385_0⟩ := Kd.at_string (Kd.R_reads' HO_6.out).2.2 0 p385 q385
                obtain rfl : ad384 = ad385 := (by injection e385)
                have qi385 : (0 < x6_2.length) = True := eq_true (by omega)
                (try rw [show ((0 : Int)).toNat = 0 from rfl] at hx385_0)
                (try rw [Addr.add_zero'] at hx385_0)
                replace p385 := eq_true p385
                replace q385 := eq_true q385
                have p386 : 0 ≤ (0 : Int) := (by omega)
                have q386 : 0 < (x6_2.length : Int) := of_decide_eq_true (by first | (with_reducible assumption) | assumption)
                obtain ⟨ad386, e386, hx386_0⟩ := Kd.at_string (Kd.R_reads' HO_6.out).2.2 0 p386 q386
                obtain rfl : ad384 = ad386 := (by injection e386)
                have qi386 : (0 < x6_2.length) = True := eq_true (by omega)
                (try rw [show ((0 : Int)).toNat = 0 from rfl] at hx386_0)
                (try rw [Addr.add_zero'] at hx386_0)
                replace p386 := eq_true p386
                replace q386 := eq_true q386
                refine start_ (n := 15) (S := fun w' => w'.cell? ad384 = some (.string (rdOf ByteArray.empty x6_2 0)) ∧ w'.cell? ad384 = some (.string (rdOf ByteArray.empty x6_2 0)) ∧ w'.cell? ad384 = some (.string (rdOf ByteArray.empty x6_2 0))) (ds := []) (bm 15 0) (by kernel_rfl) rfl rfl ⟨hx384_0, hx385_0, hx386_0⟩ (fun hHeld => ?_); refine with_tabW vitrineref11_Pixel.tab15 vitrineref11_Pixel.bits15 (fun HT_ HW_ => ?_)
                generalize wc.drew = w52 at HO_6 BK369 HB hx384_0 hx385_0 hx386_0 hHeld ⊢
                refine zp 0 85 (bm 15 1) ?_
                refine zp 1 86 (bm 15 3) ?_
                refine zp 3 88 (bm 15 11) ?_
                refine zp 4 89 (bm 15 27) ?_
                refine zp 7 92 (bm 15 155) ?_
                refine zp 8 93 (bm 15 411) ?_
                refine zp 11 96 (bm 15 2459) ?_
                refine zt 2 87 (bm 15 2463) rfl (by rintro w' ⟨s0, s1, s2⟩; go_simp; with_reducible rfl) ?_
                refine zt 5 90 (bm 15 2495) rfl (by rintro w' ⟨s0, s1, s2⟩; go_simp; with_reducible rfl) ?_
                refine zp 6 91 (bm 15 2559) ?_
                refine zt 9 94 (bm 15 3071) rfl (by rintro w' ⟨s0, s1, s2⟩; go_simp; with_reducible rfl) ?_
                refine zp 10 95 (bm 15 4095) ?_
                refine zp 12 97 (bm 15 8191) ?_
                refine zp 13 4 (bm 15 16383) ?_
                refine zp 14 5 (bm 15 32767) ?_
                refine done_ (done_of HT_.out (by kernel_rfl)) ?_
                try go_wp2
                go_ret2
                exact ⟨by first | rfl | (simp [errW_none, errW_some] <;> rfl) | (simp [*, errW_none, errW_some] <;> rfl), by repeat (first | (with_reducible first | exact HB.out | apply below_alloc | apply pw_below_drewN | apply below_drew1 | refine below_set ?_ GE369.out) | exact HB.out)⟩
               ·
                as_aux_lemma =>
                rw [if_neg c50] at H
                exact absurd H (by simp)
              ·
               as_aux_lemma =>
               rw [if_neg c49] at H
               exact absurd H (by simp)
             ·
              as_aux_lemma =>
              rw [if_neg c48] at H
              exact absurd H (by simp)
            ·
             as_aux_lemma =>
             rw [if_neg c47] at H
             exact absurd H (by simp)
           ·
            as_aux_lemma =>
            rw [if_neg c46] at H
            have c46b0 : (a0_3 == 0) = false := beq_eq_false_iff_ne.mpr c46
            have c46b1 : (a0_3 != 0) = true := bne_iff_ne.mpr c46
            by_cases c54 : a0_3 = 2
            ·
             as_aux_lemma =>
             rw [if_pos c54] at H
             have c54b0 : (a0_3 == 2) = true := beq_iff_eq.mpr c54
             have c54b1 : (a0_3 != 2) = false := bne_eq_false_iff_eq.mpr c54
             clear c54
             by_cases c55 : 0 < (x6_2.length : Int)
             ·
              as_aux_lemma =>
              rw [if_pos c55] at H
              have c55b0 : decide (0 < (x6_2.length : Int)) = true := decide_eq_true c55
              have c55b1 : decide (0 < x6_2.length) = true := decide_eq_true (by omega)
              clear c55
              by_cases c56 : 1 < (x6_2.length : Int)
              ·
               as_aux_lemma =>
               rw [if_pos c56] at H
               have c56b0 : decide (1 < (x6_2.length : Int)) = true := decide_eq_true c56
               have c56b1 : decide (1 < x6_2.length) = true := decide_eq_true (by omega)
               clear c56
               by_cases c57 : (rdOf ByteArray.empty x6_2 0).size + (rdOf ByteArray.empty x6_2 1).size ≤ 9223372036854775807
               ·
                as_aux_lemma =>
                rw [if_pos c57] at H
                have c57b0 := eq_true c57
                have c57b1 : decide ((rdOf ByteArray.empty x6_2 0).size + (rdOf ByteArray.empty x6_2 1).size ≤ 9223372036854775807) = true := decide_eq_true c57
                try have c57b2 : (9223372036854775807 < (rdOf ByteArray.empty x6_2 0).size + (rdOf ByteArray.empty x6_2 1).size) = False := eq_false (Nat.not_lt.2 c57)
                by_cases c58 : 2 < (x6_2.length : Int)
                ·
                 as_aux_lemma =>
                 rw [if_pos c58] at H
                 have c58b0 : decide (2 < (x6_2.length : Int)) = true := decide_eq_true c58
                 have c58b1 : decide (2 < x6_2.length) = true := decide_eq_true (by omega)
                 clear c58
                 by_cases c59 : ((rdOf ByteArray.empty x6_2 0) ++ (rdOf ByteArray.empty x6_2 1)).size + (rdOf ByteArray.empty x6_2 2).size ≤ 9223372036854775807
                 ·
                  as_aux_lemma =>
                  rw [if_pos c59] at H
                  have c59b0 := eq_true c59
                  have c59b1 : decide (((rdOf ByteArray.empty x6_2 0) ++ (rdOf ByteArray.empty x6_2 1)).size + (rdOf ByteArray.empty x6_2 2).size ≤ 9223372036854775807) = true := decide_eq_true c59
                  try have c59b2 : (9223372036854775807 < ((rdOf ByteArray.empty x6_2 0) ++ (rdOf ByteArray.empty x6_2 1)).size + (rdOf ByteArray.empty x6_2 2).size) = False := eq_false (Nat.not_lt.2 c59)
                  try (have c59b3 := c59b2; simp only [ByteArray.size_append] at c59b3)
                  by_cases c60 : (((rdOf ByteArray.empty x6_2 0) ++ (rdOf ByteArray.empty x6_2 1)) ++ (rdOf ByteArray.empty x6_2 2)).size + x8_41.size ≤ 9223372036854775807
                  ·
                   as_aux_lemma =>
                   rw [if_pos c60] at H
                   have c60b0 := eq_true c60
                   have c60b1 : decide ((((rdOf ByteArray.empty x6_2 0) ++ (rdOf ByteArray.empty x6_2 1)) ++ (rdOf ByteArray.empty x6_2 2)).size + x8_41.size ≤ 9223372036854775807) = true := decide_eq_true c60
                   try have c60b2 : (9223372036854775807 < (((rdOf ByteArray.empty x6_2 0) ++ (rdOf ByteArray.empty x6_2 1)) ++ (rdOf ByteArray.empty x6_2 2)).size + x8_41.size) = False := eq_false (Nat.not_lt.2 c60)
                   try (have c60b3 := c60b2; simp only [ByteArray.size_append] at c60b3)
                   simp only [Option.some.injEq, Prod.mk.injEq] at H
                   obtain ⟨rfl, rfl⟩ := H
                   have hcz61_0 : wc.cell? ⟨gb369, 0, none⟩ = some (.int .i64 a0_0) := (blk_cell BK369.out 0).trans rfl
                   have hcz61_1 : wc.cell? ⟨gb369, 1, none⟩ = some (.int .i64 a0_1) := (blk_cell BK369.out 1).trans rfl
                   have hcz61_2 : wc.cell? ⟨gb369, 2, none⟩ = some (.int .i64 a0_2) := (blk_cell BK369.out 2).trans rfl
                   have hcz61_3 : wc.cell? ⟨gb369, 3, none⟩ = some (.int .i64 a0_3) := (blk_cell BK369.out 3).trans rfl
                   have hcz61_4 : wc.cell? ⟨gb369, 4, none⟩ = some (.int .i64 a0_4) := (blk_cell BK369.out 4).trans rfl
                   have hcz61_5 : wc.cell? ⟨gb369, 5, none⟩ = some (.string a0_5) := (blk_cell BK369.out 5).trans rfl
                   have hcz61_6 : wc.cell? ⟨gb369, 6, none⟩ = some (.string a0_6) := (blk_cell BK369.out 6).trans rfl
                   have hcz61_7 : wc.cell? ⟨gb369, 7, none⟩ = some (.bool a0_7) := (blk_cell BK369.out 7).trans rfl
                   have hfz61_0 := blk_frozen BK369.out 0
                   have hfz61_1 := blk_frozen BK369.out 1
                   have hfz61_2 := blk_frozen BK369.out 2
                   have hfz61_3 := blk_frozen BK369.out 3
                   have hfz61_4 := blk_frozen BK369.out 4
                   have hfz61_5 := blk_frozen BK369.out 5
                   have hfz61_6 := blk_frozen BK369.out 6
                   have hfz61_7 := blk_frozen BK369.out 7
                   try go_wp2
                   have n0_ := Aside0.mk (Kd.R_drew HO_6.out)
                   have n1_ := Aside0.mk (blk_drew BK369.out)
                   have n2_ := Aside0.mk (below_drew1 HB.out)
                   clear HO_6
                   clear BK369
                   clear HB
                   have HO_6 := n0_
                   have BK369 := n1_
                   have HB := n2_
                   clear n0_ n1_ n2_
                   obtain ⟨Ao63, co63, eo63⟩ := Kd.R_slice HO_6.out
                   (first | subst eo63 | (injection eo63 with f1_ f2_ f3_; have f4_ := f1_.symm; have f5_ := f3_.symm; clear f1_ f2_ f3_; subst f4_; subst f5_))
                   have p387 : 0 ≤ (0 : Int) := (by omega)
                   have q387 : 0 < (x6_2.length : Int) := of_decide_eq_true (by first | (with_reducible assumption) | assumption)
                   obtain ⟨ad387, e387, hx387_0⟩ := Kd.at_string (Kd.R_reads' HO_6.out).2.2 0 p387 q387
                   cases e387
                   have qi387 : (0 < x6_2.length) = True := eq_true (by omega)
                   (try rw [show ((0 : Int)).toNat = 0 from rfl] at hx387_0)
                   (try rw [Addr.add_zero'] at hx387_0)
                   replace p387 := eq_true p387
                   replace q387 := eq_true q387
                   have p388 : 0 ≤ (1 : Int) := (by omega)
                   have q388 : 1 < (x6_2.length : Int) := of_decide_eq_true (by first | (with_reducible assumption) | assumption)
                   obtain ⟨ad388, e388, hx388_0⟩ := Kd.at_string (Kd.R_reads' HO_6.out).2.2 1 p388 q388
                   obtain rfl : ad387 = ad388 := (by injection e388)
                   (try simp only [show (1 : Int).toNat = 1 from rfl, Nat.reduceMul, Nat.reduceEqDiff, Go.Addr.add, ↓reduceIte] at hx388_0)
                   have qi388 : (1 < x6_2.length) = True := eq_true (by omega)
                   (try rw [show ((1 : Int)).toNat = 1 from rfl] at hx388_0)
                   replace p388 := eq_true p388
                   replace q388 := eq_true q388
                   have p389 : 0 ≤ (2 : Int) := (by omega)
                   have q389 : 2 < (x6_2.length : Int) := of_decide_eq_true (by first | (with_reducible assumption) | assumption)
                   obtain ⟨ad389, e389, hx389_0⟩ := Kd.at_string (Kd.R_reads' HO_6.out).2.2 2 p389 q389
                   obtain rfl : ad387 = ad389 := (by injection e389)
                   (try simp only [show (2 : Int).toNat = 2 from rfl, Nat.reduceMul, Nat.reduceEqDiff, Go.Addr.add, ↓reduceIte] at hx389_0)
                   have qi389 : (2 < x6_2.length) = True := eq_true (by omega)
                   (try rw [show ((2 : Int)).toNat = 2 from rfl] at hx389_0)
                   replace p389 := eq_true p389
                   replace q389 := eq_true q389
                   refine start_ (n := 15) (S := fun w' => w'.cell? ad387 = some (.string (rdOf ByteArray.empty x6_2 0)) ∧ w'.cell? ⟨ad387.block, ad387.off + 1, none⟩ = some (.string (rdOf ByteArray.empty x6_2 1)) ∧ w'.cell? ⟨ad387.block, ad387.off + 2, none⟩ = some (.string (rdOf ByteArray.empty x6_2 2))) (ds := []) (bm 15 0) (by kernel_rfl) rfl rfl ⟨hx387_0, hx388_0, hx389_0⟩ (fun hHeld => ?_); refine with_tabW vitrineref11_Pixel.tab17 vitrineref11_Pixel.bits17 (fun HT_ HW_ => ?_)
                   generalize wc.drew = w62 at HO_6 BK369 HB hx387_0 hx388_0 hx389_0 hHeld ⊢
                   refine zp 0 100 (bm 15 1) ?_
                   refine zp 1 101 (bm 15 3) ?_
                   refine zp 3 103 (bm 15 11) ?_
                   refine zp 4 104 (bm 15 27) ?_
                   refine zp 7 107 (bm 15 155) ?_
                   refine zp 8 108 (bm 15 411) ?_
                   refine zp 11 111 (bm 15 2459) ?_
                   refine zt 2 102 (bm 15 2463) rfl (by rintro w' ⟨s0, s1, s2⟩; go_simp; with_reducible rfl) ?_
                   refine zt 5 105 (bm 15 2495) rfl (by rintro w' ⟨s0, s1, s2⟩; go_simp; with_reducible rfl) ?_
                   refine zp 6 106 (bm 15 2559) ?_
                   refine zt 9 109 (bm 15 3071) rfl (by rintro w' ⟨s0, s1, s2⟩; go_simp; with_reducible rfl) ?_
                   refine zp 10 110 (bm 15 4095) ?_
                   refine zp 12 112 (bm 15 8191) ?_
                   refine zp 13 4 (bm 15 16383) ?_
                   refine zp 14 5 (bm 15 32767) ?_
                   refine done_ (done_of HT_.out (by kernel_rfl)) ?_
                   try go_wp2
                   go_ret2
                   exact ⟨by first | rfl | (simp [errW_none, errW_some] <;> rfl) | (simp [*, errW_none, errW_some] <;> rfl), by repeat (first | (with_reducible first | exact HB.out | apply below_alloc | apply pw_below_drewN | apply below_drew1 | refine below_set ?_ GE369.out) | exact HB.out)⟩
                  ·
                   as_aux_lemma =>
                   rw [if_neg c60] at H
                   exact absurd H (by simp)
                 ·
                  as_aux_lemma =>
                  rw [if_neg c59] at H
                  exact absurd H (by simp)
                ·
                 as_aux_lemma =>
                 rw [if_neg c58] at H
                 exact absurd H (by simp)
               ·
                as_aux_lemma =>
                rw [if_neg c57] at H
                exact absurd H (by simp)
              ·
               as_aux_lemma =>
               rw [if_neg c56] at H
               exact absurd H (by simp)
             ·
              as_aux_lemma =>
              rw [if_neg c55] at H
              exact absurd H (by simp)
            ·
             as_aux_lemma =>
             rw [if_neg c54] at H
             have c54b0 : (a0_3 == 2) = false := beq_eq_false_iff_ne.mpr c54
             have c54b1 : (a0_3 != 2) = true := bne_iff_ne.mpr c54
             by_cases c64 : a0_3 = 4
             ·
              as_aux_lemma =>
              rw [if_pos c64] at H
              have c64b0 : (a0_3 == 4) = true := beq_iff_eq.mpr c64
              have c64b1 : (a0_3 != 4) = false := bne_eq_false_iff_eq.mpr c64
              clear c64
              by_cases c65 : 0 < (x6_2.length : Int)
              ·
               as_aux_lemma =>
               rw [if_pos c65] at H
               have c65b0 : decide (0 < (x6_2.length : Int)) = true := decide_eq_true c65
               have c65b1 : decide (0 < x6_2.length) = true := decide_eq_true (by omega)
               clear c65
               by_cases c66 : (rdOf ByteArray.empty x6_2 0).size + (rdOf ByteArray.empty x6_2 0).size ≤ 9223372036854775807
               ·
                as_aux_lemma =>
                rw [if_pos c66] at H
                have c66b0 := eq_true c66
                have c66b1 : decide ((rdOf ByteArray.empty x6_2 0).size + (rdOf ByteArray.empty x6_2 0).size ≤ 9223372036854775807) = true := decide_eq_true c66
                try have c66b2 : (9223372036854775807 < (rdOf ByteArray.empty x6_2 0).size + (rdOf ByteArray.empty x6_2 0).size) = False := eq_false (Nat.not_lt.2 c66)
                by_cases c67 : ((rdOf ByteArray.empty x6_2 0) ++ (rdOf ByteArray.empty x6_2 0)).size + (rdOf ByteArray.empty x6_2 0).size ≤ 9223372036854775807
                ·
                 as_aux_lemma =>
                 rw [if_pos c67] at H
                 have c67b0 := eq_true c67
                 have c67b1 : decide (((rdOf ByteArray.empty x6_2 0) ++ (rdOf ByteArray.empty x6_2 0)).size + (rdOf ByteArray.empty x6_2 0).size ≤ 9223372036854775807) = true := decide_eq_true c67
                 try have c67b2 : (9223372036854775807 < ((rdOf ByteArray.empty x6_2 0) ++ (rdOf ByteArray.empty x6_2 0)).size + (rdOf ByteArray.empty x6_2 0).size) = False := eq_false (Nat.not_lt.2 c67)
                 try (have c67b3 := c67b2; simp only [ByteArray.size_append] at c67b3)
                 by_cases c68 : 1 < (x6_2.length : Int)
                 ·
                  as_aux_lemma =>
                  rw [if_pos c68] at H
                  have c68b0 : decide (1 < (x6_2.length : Int)) = true := decide_eq_true c68
                  have c68b1 : decide (1 < x6_2.length) = true := decide_eq_true (by omega)
                  clear c68
                  by_cases c69 : (((rdOf ByteArray.empty x6_2 0) ++ (rdOf ByteArray.empty x6_2 0)) ++ (rdOf ByteArray.empty x6_2 0)).size + (rdOf ByteArray.empty x6_2 1).size ≤ 9223372036854775807
                  ·
                   as_aux_lemma =>
                   rw [if_pos c69] at H
                   have c69b0 := eq_true c69
                   have c69b1 : decide ((((rdOf ByteArray.empty x6_2 0) ++ (rdOf ByteArray.empty x6_2 0)) ++ (rdOf ByteArray.empty x6_2 0)).size + (rdOf ByteArray.empty x6_2 1).size ≤ 9223372036854775807) = true := decide_eq_true c69
                   try have c69b2 : (9223372036854775807 < (((rdOf ByteArray.empty x6_2 0) ++ (rdOf ByteArray.empty x6_2 0)) ++ (rdOf ByteArray.empty x6_2 0)).size + (rdOf ByteArray.empty x6_2 1).size) = False := eq_false (Nat.not_lt.2 c69)
                   try (have c69b3 := c69b2; simp only [ByteArray.size_append] at c69b3)
                   simp only [Option.some.injEq, Prod.mk.injEq] at H
                   obtain ⟨rfl, rfl⟩ := H
                   have hcz70_0 : wc.cell? ⟨gb369, 0, none⟩ = some (.int .i64 a0_0) := (blk_cell BK369.out 0).trans rfl
                   have hcz70_1 : wc.cell? ⟨gb369, 1, none⟩ = some (.int .i64 a0_1) := (blk_cell BK369.out 1).trans rfl
                   have hcz70_2 : wc.cell? ⟨gb369, 2, none⟩ = some (.int .i64 a0_2) := (blk_cell BK369.out 2).trans rfl
                   have hcz70_3 : wc.cell? ⟨gb369, 3, none⟩ = some (.int .i64 a0_3) := (blk_cell BK369.out 3).trans rfl
                   have hcz70_4 : wc.cell? ⟨gb369, 4, none⟩ = some (.int .i64 a0_4) := (blk_cell BK369.out 4).trans rfl
                   have hcz70_5 : wc.cell? ⟨gb369, 5, none⟩ = some (.string a0_5) := (blk_cell BK369.out 5).trans rfl
                   have hcz70_6 : wc.cell? ⟨gb369, 6, none⟩ = some (.string a0_6) := (blk_cell BK369.out 6).trans rfl
                   have hcz70_7 : wc.cell? ⟨gb369, 7, none⟩ = some (.bool a0_7) := (blk_cell BK369.out 7).trans rfl
                   have hfz70_0 := blk_frozen BK369.out 0
                   have hfz70_1 := blk_frozen BK369.out 1
                   have hfz70_2 := blk_frozen BK369.out 2
                   have hfz70_3 := blk_frozen BK369.out 3
                   have hfz70_4 := blk_frozen BK369.out 4
                   have hfz70_5 := blk_frozen BK369.out 5
                   have hfz70_6 := blk_frozen BK369.out 6
                   have hfz70_7 := blk_frozen BK369.out 7
                   try go_wp2
                   have n0_ := Aside0.mk (Kd.R_drew HO_6.out)
                   have n1_ := Aside0.mk (blk_drew BK369.out)
                   have n2_ := Aside0.mk (below_drew1 HB.out)
                   clear HO_6
                   clear BK369
                   clear HB
                   have HO_6 := n0_
                   have BK369 := n1_
                   have HB := n2_
                   clear n0_ n1_ n2_
                   obtain ⟨Ao72, co72, eo72⟩ := Kd.R_slice HO_6.out
                   (first | subst eo72 | (injection eo72 with f1_ f2_ f3_; have f4_ := f1_.symm; have f5_ := f3_.symm; clear f1_ f2_ f3_; subst f4_; subst f5_))
                   have p390 : 0 ≤ (0 : Int) := (by omega)
                   have q390 : 0 < (x6_2.length : Int) := of_decide_eq_true (by first | (with_reducible assumption) | assumption)
                   obtain ⟨ad390, e390, hx390_0⟩ := Kd.at_string (Kd.R_reads' HO_6.out).2.2 0 p390 q390
                   cases e390
                   have qi390 : (0 < x6_2.length) = True := eq_true (by omega)
                   (try rw [show ((0 : Int)).toNat = 0 from rfl] at hx390_0)
                   (try rw [Addr.add_zero'] at hx390_0)
                   replace p390 := eq_true p390
                   replace q390 := eq_true q390
                   have p391 : 0 ≤ (0 : Int) := (by omega)
                   have q391 : 0 < (x6_2.length : Int) := of_decide_eq_true (by first | (with_reducible assumption) | assumption)
                   obtain ⟨ad391, e391, hx391_0⟩ := Kd.at_string (Kd.R_reads' HO_6.out).2.2 0 p391 q391
                   obtain rfl : ad390 = ad391 := (by injection e391)
                   have qi391 : (0 < x6_2.length) = True := eq_true (by omega)
                   (try rw [show ((0 : Int)).toNat = 0 from rfl] at hx391_0)
                   (try rw [Addr.add_zero'] at hx391_0)
                   replace p391 := eq_true p391
                   replace q391 := eq_true q391
                   have p392 : 0 ≤ (0 : Int) := (by omega)
                   have q392 : 0 < (x6_2.length : Int) := of_decide_eq_true (by first | (with_reducible assumption) | assumption)
                   obtain ⟨ad392, e392, hx392_0⟩ := Kd.at_string (Kd.R_reads' HO_6.out).2.2 0 p392 q392
                   obtain rfl : ad390 = ad392 := (by injection e392)
                   have qi392 : (0 < x6_2.length) = True := eq_true (by omega)
                   (try rw [show ((0 : Int)).toNat = 0 from rfl] at hx392_0)
                   (try rw [Addr.add_zero'] at hx392_0)
                   replace p392 := eq_true p392
                   replace q392 := eq_true q392
                   have p393 : 0 ≤ (1 : Int) := (by omega)
                   have q393 : 1 < (x6_2.length : Int) := of_decide_eq_true (by first | (with_reducible assumption) | assumption)
                   obtain ⟨ad393, e393, hx393_0⟩ := Kd.at_string (Kd.R_reads' HO_6.out).2.2 1 p393 q393
                   obtain rfl : ad390 = ad393 := (by injection e393)
                   (try simp only [show (1 : Int).toNat = 1 from rfl, Nat.reduceMul, Nat.reduceEqDiff, Go.Addr.add, ↓reduceIte] at hx393_0)
                   have qi393 : (1 < x6_2.length) = True := eq_true (by omega)
                   (try rw [show ((1 : Int)).toNat = 1 from rfl] at hx393_0)
                   replace p393 := eq_true p393
                   replace q393 := eq_true q393
                   refine start_ (n := 17) (S := fun w' => w'.cell? ad390 = some (.string (rdOf ByteArray.empty x6_2 0)) ∧ w'.cell? ad390 = some (.string (rdOf ByteArray.empty x6_2 0)) ∧ w'.cell? ad390 = some (.string (rdOf ByteArray.empty x6_2 0)) ∧ w'.cell? ⟨ad390.block, ad390.off + 1, none⟩ = some (.string (rdOf ByteArray.empty x6_2 1))) (ds := []) (bm 17 0) (by kernel_rfl) rfl rfl ⟨hx390_0, hx391_0, hx392_0, hx393_0⟩ (fun hHeld => ?_); refine with_tabW vitrineref11_Pixel.tab19 vitrineref11_Pixel.bits19 (fun HT_ HW_ => ?_)
                   generalize wc.drew = w71 at HO_6 BK369 HB hx390_0 hx391_0 hx392_0 hx393_0 hHeld ⊢
                   refine zp 0 115 (bm 17 1) ?_
                   refine zp 1 116 (bm 17 3) ?_
                   refine zp 3 118 (bm 17 11) ?_
                   refine zp 4 119 (bm 17 27) ?_
                   refine zp 7 122 (bm 17 155) ?_
                   refine zp 8 123 (bm 17 411) ?_
                   refine zp 11 126 (bm 17 2459) ?_
                   refine zp 12 127 (bm 17 6555) ?_
                   refine zt 2 117 (bm 17 6559) rfl (by rintro w' ⟨s0, s1, s2, s3⟩; go_simp; with_reducible rfl) ?_
                   refine zt 5 120 (bm 17 6591) rfl (by rintro w' ⟨s0, s1, s2, s3⟩; go_simp; with_reducible rfl) ?_
                   refine zp 6 121 (bm 17 6655) ?_
                   refine zt 9 124 (bm 17 7167) rfl (by rintro w' ⟨s0, s1, s2, s3⟩; go_simp; with_reducible rfl) ?_
                   refine zp 10 125 (bm 17 8191) ?_
                   refine zt 13 128 (bm 17 16383) rfl (by rintro w' ⟨s0, s1, s2, s3⟩; go_simp; with_reducible rfl) ?_
                   refine zp 14 129 (bm 17 32767) ?_
                   refine zp 15 4 (bm 17 65535) ?_
                   refine zp 16 5 (bm 17 131071) ?_
                   refine done_ (done_of HT_.out (by kernel_rfl)) ?_
                   try go_wp2
                   go_ret2
                   exact ⟨by first | rfl | (simp [errW_none, errW_some] <;> rfl) | (simp [*, errW_none, errW_some] <;> rfl), by repeat (first | (with_reducible first | exact HB.out | apply below_alloc | apply pw_below_drewN | apply below_drew1 | refine below_set ?_ GE369.out) | exact HB.out)⟩
                  ·
                   as_aux_lemma =>
                   rw [if_neg c69] at H
                   exact absurd H (by simp)
                 ·
                  as_aux_lemma =>
                  rw [if_neg c68] at H
                  exact absurd H (by simp)
                ·
                 as_aux_lemma =>
                 rw [if_neg c67] at H
                 exact absurd H (by simp)
               ·
                as_aux_lemma =>
                rw [if_neg c66] at H
                exact absurd H (by simp)
              ·
               as_aux_lemma =>
               rw [if_neg c65] at H
               exact absurd H (by simp)
             ·
              as_aux_lemma =>
              rw [if_neg c64] at H
              have c64b0 : (a0_3 == 4) = false := beq_eq_false_iff_ne.mpr c64
              have c64b1 : (a0_3 != 4) = true := bne_iff_ne.mpr c64
              by_cases c73 : a0_3 = 6
              ·
               as_aux_lemma =>
               rw [if_pos c73] at H
               have c73b0 : (a0_3 == 6) = true := beq_iff_eq.mpr c73
               have c73b1 : (a0_3 != 6) = false := bne_eq_false_iff_eq.mpr c73
               clear c73
               by_cases c74 : 0 < (x6_2.length : Int)
               ·
                as_aux_lemma =>
                rw [if_pos c74] at H
                have c74b0 : decide (0 < (x6_2.length : Int)) = true := decide_eq_true c74
                have c74b1 : decide (0 < x6_2.length) = true := decide_eq_true (by omega)
                clear c74
                by_cases c75 : 1 < (x6_2.length : Int)
                ·
                 as_aux_lemma =>
                 rw [if_pos c75] at H
                 have c75b0 : decide (1 < (x6_2.length : Int)) = true := decide_eq_true c75
                 have c75b1 : decide (1 < x6_2.length) = true := decide_eq_true (by omega)
                 clear c75
                 by_cases c76 : (rdOf ByteArray.empty x6_2 0).size + (rdOf ByteArray.empty x6_2 1).size ≤ 9223372036854775807
                 ·
                  as_aux_lemma =>
                  rw [if_pos c76] at H
                  have c76b0 := eq_true c76
                  have c76b1 : decide ((rdOf ByteArray.empty x6_2 0).size + (rdOf ByteArray.empty x6_2 1).size ≤ 9223372036854775807) = true := decide_eq_true c76
                  try have c76b2 : (9223372036854775807 < (rdOf ByteArray.empty x6_2 0).size + (rdOf ByteArray.empty x6_2 1).size) = False := eq_false (Nat.not_lt.2 c76)
                  by_cases c77 : 2 < (x6_2.length : Int)
                  ·
                   as_aux_lemma =>
                   rw [if_pos c77] at H
                   have c77b0 : decide (2 < (x6_2.length : Int)) = true := decide_eq_true c77
                   have c77b1 : decide (2 < x6_2.length) = true := decide_eq_true (by omega)
                   clear c77
                   by_cases c78 : ((rdOf ByteArray.empty x6_2 0) ++ (rdOf ByteArray.empty x6_2 1)).size + (rdOf ByteArray.empty x6_2 2).size ≤ 9223372036854775807
                   ·
                    as_aux_lemma =>
                    rw [if_pos c78] at H
                    have c78b0 := eq_true c78
                    have c78b1 : decide (((rdOf ByteArray.empty x6_2 0) ++ (rdOf ByteArray.empty x6_2 1)).size + (rdOf ByteArray.empty x6_2 2).size ≤ 9223372036854775807) = true := decide_eq_true c78
                    try have c78b2 : (9223372036854775807 < ((rdOf ByteArray.empty x6_2 0) ++ (rdOf ByteArray.empty x6_2 1)).size + (rdOf ByteArray.empty x6_2 2).size) = False := eq_false (Nat.not_lt.2 c78)
                    try (have c78b3 := c78b2; simp only [ByteArray.size_append] at c78b3)
                    by_cases c79 : 3 < (x6_2.length : Int)
                    ·
                     as_aux_lemma =>
                     rw [if_pos c79] at H
                     have c79b0 : decide (3 < (x6_2.length : Int)) = true := decide_eq_true c79
                     have c79b1 : decide (3 < x6_2.length) = true := decide_eq_true (by omega)
                     clear c79
                     by_cases c80 : (((rdOf ByteArray.empty x6_2 0) ++ (rdOf ByteArray.empty x6_2 1)) ++ (rdOf ByteArray.empty x6_2 2)).size + (rdOf ByteArray.empty x6_2 3).size ≤ 9223372036854775807
                     ·
                      as_aux_lemma =>
                      rw [if_pos c80] at H
                      have c80b0 := eq_true c80
                      have c80b1 : decide ((((rdOf ByteArray.empty x6_2 0) ++ (rdOf ByteArray.empty x6_2 1)) ++ (rdOf ByteArray.empty x6_2 2)).size + (rdOf ByteArray.empty x6_2 3).size ≤ 9223372036854775807) = true := decide_eq_true c80
                      try have c80b2 : (9223372036854775807 < (((rdOf ByteArray.empty x6_2 0) ++ (rdOf ByteArray.empty x6_2 1)) ++ (rdOf ByteArray.empty x6_2 2)).size + (rdOf ByteArray.empty x6_2 3).size) = False := eq_false (Nat.not_lt.2 c80)
                      try (have c80b3 := c80b2; simp only [ByteArray.size_append] at c80b3)
                      simp only [Option.some.injEq, Prod.mk.injEq] at H
                      obtain ⟨rfl, rfl⟩ := H
                      have hcz81_0 : wc.cell? ⟨gb369, 0, none⟩ = some (.int .i64 a0_0) := (blk_cell BK369.out 0).trans rfl
                      have hcz81_1 : wc.cell? ⟨gb369, 1, none⟩ = some (.int .i64 a0_1) := (blk_cell BK369.out 1).trans rfl
                      have hcz81_2 : wc.cell? ⟨gb369, 2, none⟩ = some (.int .i64 a0_2) := (blk_cell BK369.out 2).trans rfl
                      have hcz81_3 : wc.cell? ⟨gb369, 3, none⟩ = some (.int .i64 a0_3) := (blk_cell BK369.out 3).trans rfl
                      have hcz81_4 : wc.cell? ⟨gb369, 4, none⟩ = some (.int .i64 a0_4) := (blk_cell BK369.out 4).trans rfl
                      have hcz81_5 : wc.cell? ⟨gb369, 5, none⟩ = some (.string a0_5) := (blk_cell BK369.out 5).trans rfl
                      have hcz81_6 : wc.cell? ⟨gb369, 6, none⟩ = some (.string a0_6) := (blk_cell BK369.out 6).trans rfl
                      have hcz81_7 : wc.cell? ⟨gb369, 7, none⟩ = some (.bool a0_7) := (blk_cell BK369.out 7).trans rfl
                      have hfz81_0 := blk_frozen BK369.out 0
                      have hfz81_1 := blk_frozen BK369.out 1
                      have hfz81_2 := blk_frozen BK369.out 2
                      have hfz81_3 := blk_frozen BK369.out 3
                      have hfz81_4 := blk_frozen BK369.out 4
                      have hfz81_5 := blk_frozen BK369.out 5
                      have hfz81_6 := blk_frozen BK369.out 6
                      have hfz81_7 := blk_frozen BK369.out 7
                      try go_wp2
                      have n0_ := Aside0.mk (Kd.R_drew HO_6.out)
                      have n1_ := Aside0.mk (blk_drew BK369.out)
                      have n2_ := Aside0.mk (below_drew1 HB.out)
                      clear HO_6
                      clear BK369
                      clear HB
                      have HO_6 := n0_
                      have BK369 := n1_
                      have HB := n2_
                      clear n0_ n1_ n2_
                      obtain ⟨Ao83, co83, eo83⟩ := Kd.R_slice HO_6.out
                      (first | subst eo83 | (injection eo83 with f1_ f2_ f3_; have f4_ := f1_.symm; have f5_ := f3_.symm; clear f1_ f2_ f3_; subst f4_; subst f5_))
                      have p394 : 0 ≤ (0 : Int) := (by omega)
                      have q394 : 0 < (x6_2.length : Int) := of_decide_eq_true (by first | (with_reducible assumption) | assumption)
                      obtain ⟨ad394, e394, hx394_0⟩ := Kd.at_string (Kd.R_reads' HO_6.out).2.2 0 p394 q394
                      cases e394
                      have qi394 : (0 < x6_2.length) = True := eq_true (by omega)
                      (try rw [show ((0 : Int)).toNat = 0 from rfl] at hx394_0)
                      (try rw [Addr.add_zero'] at hx394_0)
                      replace p394 := eq_true p394
                      replace q394 := eq_true q394
                      have p395 : 0 ≤ (1 : Int) := (by omega)
                      have q395 : 1 < (x6_2.length : Int) := of_decide_eq_true (by first | (with_reducible assumption) | assumption)
                      obtain ⟨ad395, e395, hx395_0⟩ := Kd.at_string (Kd.R_reads' HO_6.out).2.2 1 p395 q395
                      obtain rfl : ad394 = ad395 := (by injection e395)
                      (try simp only [show (1 : Int).toNat = 1 from rfl, Nat.reduceMul, Nat.reduceEqDiff, Go.Addr.add, ↓reduceIte] at hx395_0)
                      have qi395 : (1 < x6_2.length) = True := eq_true (by omega)
                      (try rw [show ((1 : Int)).toNat = 1 from rfl] at hx395_0)
                      replace p395 := eq_true p395
                      replace q395 := eq_true q395
                      have p396 : 0 ≤ (2 : Int) := (by omega)
                      have q396 : 2 < (x6_2.length : Int) := of_decide_eq_true (by first | (with_reducible assumption) | assumption)
                      obtain ⟨ad396, e396, hx396_0⟩ := Kd.at_string (Kd.R_reads' HO_6.out).2.2 2 p396 q396
                      obtain rfl : ad394 = ad396 := (by injection e396)
                      (try simp only [show (2 : Int).toNat = 2 from rfl, Nat.reduceMul, Nat.reduceEqDiff, Go.Addr.add, ↓reduceIte] at hx396_0)
                      have qi396 : (2 < x6_2.length) = True := eq_true (by omega)
                      (try rw [show ((2 : Int)).toNat = 2 from rfl] at hx396_0)
                      replace p396 := eq_true p396
                      replace q396 := eq_true q396
                      have p397 : 0 ≤ (3 : Int) := (by omega)
                      have q397 : 3 < (x6_2.length : Int) := of_decide_eq_true (by first | (with_reducible assumption) | assumption)
                      obtain ⟨ad397, e397, hx397_0⟩ := Kd.at_string (Kd.R_reads' HO_6.out).2.2 3 p397 q397
                      obtain rfl : ad394 = ad397 := (by injection e397)
                      (try simp only [show (3 : Int).toNat = 3 from rfl, Nat.reduceMul, Nat.reduceEqDiff, Go.Addr.add, ↓reduceIte] at hx397_0)
                      have qi397 : (3 < x6_2.length) = True := eq_true (by omega)
                      (try rw [show ((3 : Int)).toNat = 3 from rfl] at hx397_0)
                      replace p397 := eq_true p397
                      replace q397 := eq_true q397
                      refine start_ (n := 17) (S := fun w' => w'.cell? ad394 = some (.string (rdOf ByteArray.empty x6_2 0)) ∧ w'.cell? ⟨ad394.block, ad394.off + 1, none⟩ = some (.string (rdOf ByteArray.empty x6_2 1)) ∧ w'.cell? ⟨ad394.block, ad394.off + 2, none⟩ = some (.string (rdOf ByteArray.empty x6_2 2)) ∧ w'.cell? ⟨ad394.block, ad394.off + 3, none⟩ = some (.string (rdOf ByteArray.empty x6_2 3))) (ds := []) (bm 17 0) (by kernel_rfl) rfl rfl ⟨hx394_0, hx395_0, hx396_0, hx397_0⟩ (fun hHeld => ?_); refine with_tabW vitrineref11_Pixel.tab21 vitrineref11_Pixel.bits21 (fun HT_ HW_ => ?_)
                      generalize wc.drew = w82 at HO_6 BK369 HB hx394_0 hx395_0 hx396_0 hx397_0 hHeld ⊢
                      refine zp 0 132 (bm 17 1) ?_
                      refine zp 1 133 (bm 17 3) ?_
                      refine zp 3 135 (bm 17 11) ?_
                      refine zp 4 136 (bm 17 27) ?_
                      refine zp 7 139 (bm 17 155) ?_
                      refine zp 8 140 (bm 17 411) ?_
                      refine zp 11 143 (bm 17 2459) ?_
                      refine zp 12 144 (bm 17 6555) ?_
                      refine zt 2 134 (bm 17 6559) rfl (by rintro w' ⟨s0, s1, s2, s3⟩; go_simp; with_reducible rfl) ?_
                      refine zt 5 137 (bm 17 6591) rfl (by rintro w' ⟨s0, s1, s2, s3⟩; go_simp; with_reducible rfl) ?_
                      refine zp 6 138 (bm 17 6655) ?_
                      refine zt 9 141 (bm 17 7167) rfl (by rintro w' ⟨s0, s1, s2, s3⟩; go_simp; with_reducible rfl) ?_
                      refine zp 10 142 (bm 17 8191) ?_
                      refine zt 13 145 (bm 17 16383) rfl (by rintro w' ⟨s0, s1, s2, s3⟩; go_simp; with_reducible rfl) ?_
                      refine zp 14 146 (bm 17 32767) ?_
                      refine zp 15 4 (bm 17 65535) ?_
                      refine zp 16 5 (bm 17 131071) ?_
                      refine done_ (done_of HT_.out (by kernel_rfl)) ?_
                      try go_wp2
                      go_ret2
                      exact ⟨by first | rfl | (simp [errW_none, errW_some] <;> rfl) | (simp [*, errW_none, errW_some] <;> rfl), by repeat (first | (with_reducible first | exact HB.out | apply below_alloc | apply pw_below_drewN | apply below_drew1 | refine below_set ?_ GE369.out) | exact HB.out)⟩
                     ·
                      as_aux_lemma =>
                      rw [if_neg c80] at H
                      exact absurd H (by simp)
                    ·
                     as_aux_lemma =>
                     rw [if_neg c79] at H
                     exact absurd H (by simp)
                   ·
                    as_aux_lemma =>
                    rw [if_neg c78] at H
                    exact absurd H (by simp)
                  ·
                   as_aux_lemma =>
                   rw [if_neg c77] at H
                   exact absurd H (by simp)
                 ·
                  as_aux_lemma =>
                  rw [if_neg c76] at H
                  exact absurd H (by simp)
                ·
                 as_aux_lemma =>
                 rw [if_neg c75] at H
                 exact absurd H (by simp)
               ·
                as_aux_lemma =>
                rw [if_neg c74] at H
                exact absurd H (by simp)
              ·
               as_aux_lemma =>
               rw [if_neg c73] at H
               have c73b0 : (a0_3 == 6) = false := beq_eq_false_iff_ne.mpr c73
               have c73b1 : (a0_3 != 6) = true := bne_iff_ne.mpr c73
               by_cases c84 : 0 < (l1.length : Int)
               ·
                as_aux_lemma =>
                rw [if_pos c84] at H
                have c84b0 : decide (0 < (l1.length : Int)) = true := decide_eq_true c84
                have c84b1 : decide (0 < l1.length) = true := decide_eq_true (by omega)
                clear c84
                by_cases c85 : (wrap64 ((wrap64 (3 * (rd l1 0))) + 3)) > (a0_5.size : Int)
                ·
                 as_aux_lemma =>
                 rw [if_pos c85] at H
                 have c85b0 : decide ((a0_5.size : Int) < (wrap64 ((wrap64 (3 * (rd l1 0))) + 3))) = true := decide_eq_true c85
                 clear c85
                 simp only [Option.some.injEq, Prod.mk.injEq] at H
                 obtain ⟨rfl, rfl⟩ := H
                 have hcz86_0 : wc.cell? ⟨gb369, 0, none⟩ = some (.int .i64 a0_0) := (blk_cell BK369.out 0).trans rfl
                 have hcz86_1 : wc.cell? ⟨gb369, 1, none⟩ = some (.int .i64 a0_1) := (blk_cell BK369.out 1).trans rfl
                 have hcz86_2 : wc.cell? ⟨gb369, 2, none⟩ = some (.int .i64 a0_2) := (blk_cell BK369.out 2).trans rfl
                 have hcz86_3 : wc.cell? ⟨gb369, 3, none⟩ = some (.int .i64 a0_3) := (blk_cell BK369.out 3).trans rfl
                 have hcz86_4 : wc.cell? ⟨gb369, 4, none⟩ = some (.int .i64 a0_4) := (blk_cell BK369.out 4).trans rfl
                 have hcz86_5 : wc.cell? ⟨gb369, 5, none⟩ = some (.string a0_5) := (blk_cell BK369.out 5).trans rfl
                 have hcz86_6 : wc.cell? ⟨gb369, 6, none⟩ = some (.string a0_6) := (blk_cell BK369.out 6).trans rfl
                 have hcz86_7 : wc.cell? ⟨gb369, 7, none⟩ = some (.bool a0_7) := (blk_cell BK369.out 7).trans rfl
                 have hfz86_0 := blk_frozen BK369.out 0
                 have hfz86_1 := blk_frozen BK369.out 1
                 have hfz86_2 := blk_frozen BK369.out 2
                 have hfz86_3 := blk_frozen BK369.out 3
                 have hfz86_4 := blk_frozen BK369.out 4
                 have hfz86_5 := blk_frozen BK369.out 5
                 have hfz86_6 := blk_frozen BK369.out 6
                 have hfz86_7 := blk_frozen BK369.out 7
                 have p398 : 0 ≤ (0 : Int) := (by omega)
                 have q398 : 0 < (l1.length : Int) := of_decide_eq_true (by first | (with_reducible assumption) | assumption)
                 obtain ⟨ad398, e398, hx398_0⟩ := Kd.at_int HR1.out 0 p398 q398
                 cases e398
                 have qi398 : (0 < l1.length) = True := eq_true (by omega)
                 (try rw [show ((0 : Int)).toNat = 0 from rfl] at hx398_0)
                 (try rw [Addr.add_zero'] at hx398_0)
                 replace hx398_0 := (HB.out.cell (World.block_lt_of_cell? w _ hx398_0)).trans hx398_0
                 replace p398 := eq_true p398
                 replace q398 := eq_true q398
                 go_wp2
                 go_ret2
                 exact ⟨by first | rfl | (simp [errW_none, errW_some] <;> rfl) | (simp [*, errW_none, errW_some] <;> rfl), by repeat (first | (with_reducible first | exact HB.out | apply below_alloc | apply pw_below_drewN | apply below_drew1 | refine below_set ?_ GE369.out) | exact HB.out)⟩
                ·
                 as_aux_lemma =>
                 rw [if_neg c85] at H
                 have c85b0 : decide ((a0_5.size : Int) < (wrap64 ((wrap64 (3 * (rd l1 0))) + 3))) = false := decide_eq_false c85
                 clear c85
                 have HC87 := Aside0.mk H
                 clear H
                 have hcz88_0 : wc.cell? ⟨gb369, 0, none⟩ = some (.int .i64 a0_0) := (blk_cell BK369.out 0).trans rfl
                 have hcz88_1 : wc.cell? ⟨gb369, 1, none⟩ = some (.int .i64 a0_1) := (blk_cell BK369.out 1).trans rfl
                 have hcz88_2 : wc.cell? ⟨gb369, 2, none⟩ = some (.int .i64 a0_2) := (blk_cell BK369.out 2).trans rfl
                 have hcz88_3 : wc.cell? ⟨gb369, 3, none⟩ = some (.int .i64 a0_3) := (blk_cell BK369.out 3).trans rfl
                 have hcz88_4 : wc.cell? ⟨gb369, 4, none⟩ = some (.int .i64 a0_4) := (blk_cell BK369.out 4).trans rfl
                 have hcz88_5 : wc.cell? ⟨gb369, 5, none⟩ = some (.string a0_5) := (blk_cell BK369.out 5).trans rfl
                 have hcz88_6 : wc.cell? ⟨gb369, 6, none⟩ = some (.string a0_6) := (blk_cell BK369.out 6).trans rfl
                 have hcz88_7 : wc.cell? ⟨gb369, 7, none⟩ = some (.bool a0_7) := (blk_cell BK369.out 7).trans rfl
                 have hfz88_0 := blk_frozen BK369.out 0
                 have hfz88_1 := blk_frozen BK369.out 1
                 have hfz88_2 := blk_frozen BK369.out 2
                 have hfz88_3 := blk_frozen BK369.out 3
                 have hfz88_4 := blk_frozen BK369.out 4
                 have hfz88_5 := blk_frozen BK369.out 5
                 have hfz88_6 := blk_frozen BK369.out 6
                 have hfz88_7 := blk_frozen BK369.out 7
                 have p398 : 0 ≤ (0 : Int) := (by omega)
                 have q398 : 0 < (l1.length : Int) := of_decide_eq_true (by first | (with_reducible assumption) | assumption)
                 obtain ⟨ad398, e398, hx398_0⟩ := Kd.at_int HR1.out 0 p398 q398
                 cases e398
                 have qi398 : (0 < l1.length) = True := eq_true (by omega)
                 (try rw [show ((0 : Int)).toNat = 0 from rfl] at hx398_0)
                 (try rw [Addr.add_zero'] at hx398_0)
                 replace hx398_0 := (HB.out.cell (World.block_lt_of_cell? w _ hx398_0)).trans hx398_0
                 replace p398 := eq_true p398
                 replace q398 := eq_true q398
                 go_upto_region 25 with (fail)
                 go_cut [165] (fun v165 wc => ∃ (kq : Nat) (x165_86 : Bool), v165 = .bool x165_86 ∧ Aside0 (vitrineref11_Pixel.j5 kq x8_41 (rd l1 0) x165_86 a0_0 a0_1 a0_2 a0_3 a0_4 a0_5 a0_6 a0_7 = some (r1, r2)) ∧ Aside0 (kq ≤ kj41) ∧ Aside0 (wc.heap[gb369]? = some (.cells #[.int .i64 a0_0, .int .i64 a0_1, .int .i64 a0_2, .int .i64 a0_3, .int .i64 a0_4, .string a0_5, .string a0_6, .bool a0_7] 31 (0, 0))) ∧ Aside0 (Below w.heap.size w wc))
                 case first =>
                  as_aux_lemma =>
                  have H := HC87.out
                  clear HC87
                  by_cases c89 : a0_7 = true
                  ·
                   subst c89
                   have H1 : (vitrineref11_Pixel.j5 kj41 x8_41 (rd l1 0) (decide ((rd l1 0) < (a0_6.size : Int))) a0_0 a0_1 a0_2 a0_3 a0_4 a0_5 a0_6 true) = some (r1, r2) := by rw [if_pos rfl] at H; exact H
                   clear H
                   have H := H1
                   clear H1
                   have H' := Aside0.mk H
                   clear H
                   have hcz90_0 : wc.cell? ⟨gb369, 0, none⟩ = some (.int .i64 a0_0) := (blk_cell BK369.out 0).trans rfl
                   have hcz90_1 : wc.cell? ⟨gb369, 1, none⟩ = some (.int .i64 a0_1) := (blk_cell BK369.out 1).trans rfl
                   have hcz90_2 : wc.cell? ⟨gb369, 2, none⟩ = some (.int .i64 a0_2) := (blk_cell BK369.out 2).trans rfl
                   have hcz90_3 : wc.cell? ⟨gb369, 3, none⟩ = some (.int .i64 a0_3) := (blk_cell BK369.out 3).trans rfl
                   have hcz90_4 : wc.cell? ⟨gb369, 4, none⟩ = some (.int .i64 a0_4) := (blk_cell BK369.out 4).trans rfl
                   have hcz90_5 : wc.cell? ⟨gb369, 5, none⟩ = some (.string a0_5) := (blk_cell BK369.out 5).trans rfl
                   have hcz90_6 : wc.cell? ⟨gb369, 6, none⟩ = some (.string a0_6) := (blk_cell BK369.out 6).trans rfl
                   have hcz90_7 : wc.cell? ⟨gb369, 7, none⟩ = some (.bool true) := (blk_cell BK369.out 7).trans rfl
                   have hfz90_0 := blk_frozen BK369.out 0
                   have hfz90_1 := blk_frozen BK369.out 1
                   have hfz90_2 := blk_frozen BK369.out 2
                   have hfz90_3 := blk_frozen BK369.out 3
                   have hfz90_4 := blk_frozen BK369.out 4
                   have hfz90_5 := blk_frozen BK369.out 5
                   have hfz90_6 := blk_frozen BK369.out 6
                   have hfz90_7 := blk_frozen BK369.out 7
                   go_wp2
                   go_meet
                   case rel => exact ⟨_, (decide ((rd l1 0) < (a0_6.size : Int))), (by first | rfl | (simp; done) | (simp [*]; done)), H', ⟨by have := HJ2.out; have := HK2.out; have := HJ30.out; have := HJ41.out; first | omega | exact Nat.le_refl _⟩, ⟨kz BK369⟩, ⟨hz HB⟩⟩
                  ·
                   replace c89 := Bool.eq_false_iff.mpr c89
                   subst c89
                   have H1 : (vitrineref11_Pixel.j5 kj41 x8_41 (rd l1 0) false a0_0 a0_1 a0_2 a0_3 a0_4 a0_5 a0_6 false) = some (r1, r2) := by rw [if_neg (show ¬ (false = true) by decide)] at H; exact H
                   clear H
                   have H := H1
                   clear H1
                   have H' := Aside0.mk H
                   clear H
                   have hcz91_0 : wc.cell? ⟨gb369, 0, none⟩ = some (.int .i64 a0_0) := (blk_cell BK369.out 0).trans rfl
                   have hcz91_1 : wc.cell? ⟨gb369, 1, none⟩ = some (.int .i64 a0_1) := (blk_cell BK369.out 1).trans rfl
                   have hcz91_2 : wc.cell? ⟨gb369, 2, none⟩ = some (.int .i64 a0_2) := (blk_cell BK369.out 2).trans rfl
                   have hcz91_3 : wc.cell? ⟨gb369, 3, none⟩ = some (.int .i64 a0_3) := (blk_cell BK369.out 3).trans rfl
                   have hcz91_4 : wc.cell? ⟨gb369, 4, none⟩ = some (.int .i64 a0_4) := (blk_cell BK369.out 4).trans rfl
                   have hcz91_5 : wc.cell? ⟨gb369, 5, none⟩ = some (.string a0_5) := (blk_cell BK369.out 5).trans rfl
                   have hcz91_6 : wc.cell? ⟨gb369, 6, none⟩ = some (.string a0_6) := (blk_cell BK369.out 6).trans rfl
                   have hcz91_7 : wc.cell? ⟨gb369, 7, none⟩ = some (.bool false) := (blk_cell BK369.out 7).trans rfl
                   have hfz91_0 := blk_frozen BK369.out 0
                   have hfz91_1 := blk_frozen BK369.out 1
                   have hfz91_2 := blk_frozen BK369.out 2
                   have hfz91_3 := blk_frozen BK369.out 3
                   have hfz91_4 := blk_frozen BK369.out 4
                   have hfz91_5 := blk_frozen BK369.out 5
                   have hfz91_6 := blk_frozen BK369.out 6
                   have hfz91_7 := blk_frozen BK369.out 7
                   go_wp2
                   go_meet
                   case rel => exact ⟨_, (false), (by first | rfl | (simp; done) | (simp [*]; done)), H', ⟨by have := HJ2.out; have := HK2.out; have := HJ30.out; have := HJ41.out; first | omega | exact Nat.le_refl _⟩, ⟨kz BK369⟩, ⟨hz HB⟩⟩
                 case rest =>
                  as_aux_lemma =>
                  clear HC87
                  try clear c64
                  try clear c64b0
                  try clear c64b1
                  try clear c73
                  try clear c73b0
                  try clear c73b1
                  try clear c84
                  try clear c84b0
                  try clear c84b1
                  try clear c85
                  try clear c85b0
                  try clear hcz88_0
                  try clear hcz88_1
                  try clear hcz88_2
                  try clear hcz88_3
                  try clear hcz88_4
                  try clear hcz88_5
                  try clear hcz88_6
                  try clear hcz88_7
                  try clear hfz88_0
                  try clear hfz88_1
                  try clear hfz88_2
                  try clear hfz88_3
                  try clear hfz88_4
                  try clear hfz88_5
                  try clear hfz88_6
                  try clear hfz88_7
                  try clear hx398_0
                  try clear p398
                  try clear q398
                  obtain ⟨kq, x165_86, rfl, HA, HJ86, BK369, HB⟩ := hcut
                  cases kq with
                  | zero => exact absurd HA.out (by simp [vitrineref11_Pixel.j5])
                  | succ kj86 =>
                   have H := HA.out
                   clear HA
                   simp only [vitrineref11_Pixel.j5] at H
                   have HC92 := Aside0.mk H
                   clear H
                   go_upto_if 165 with (fail)
                   go_cut [8] (fun v8 wc => ∃ (kq : Nat) (x8_91 : ByteArray), v8 = .string x8_91 ∧ Aside0 (vitrineref11_Pixel.j6 kq x8_91 (rd l1 0) a0_0 a0_1 a0_2 a0_3 a0_4 a0_5 a0_6 a0_7 = some (r1, r2)) ∧ Aside0 (kq ≤ kj86) ∧ Aside0 (wc.heap[gb369]? = some (.cells #[.int .i64 a0_0, .int .i64 a0_1, .int .i64 a0_2, .int .i64 a0_3, .int .i64 a0_4, .string a0_5, .string a0_6, .bool a0_7] 31 (0, 0))) ∧ Aside0 (Below w.heap.size w wc))
                   case first =>
                    as_aux_lemma =>
                    have H := HC92.out
                    clear HC92
                    by_cases c93 : x165_86 = true
                    ·
                     subst c93
                     have H1 : (if 0 ≤ (rd l1 0) then (if (rd l1 0) < (a0_6.size : Int) then ((vitrineref11_two.f (wrap64 (257 * (wrap64 (bt a0_6 (rd l1 0)))))).bind fun t399 => (vitrineref11_Pixel.j6 kj86 t399 (rd l1 0) a0_0 a0_1 a0_2 a0_3 a0_4 a0_5 a0_6 a0_7)) else (none)) else (none)) = some (r1, r2) := by rw [if_pos rfl] at H; exact H
                     clear H
                     have H := H1
                     clear H1
                     by_cases c94 : 0 ≤ (rd l1 0)
                     ·
                      as_aux_lemma =>
                      rw [if_pos c94] at H
                      have c94b0 : decide (0 ≤ (rd l1 0)) = true := decide_eq_true c94
                      clear c94
                      (first | rw [c94b0] | (simp only [i64_w, i32_w]; rw [c94b0]) | skip)
                      by_cases c95 : (rd l1 0) < (a0_6.size : Int)
                      ·
                       as_aux_lemma =>
                       rw [if_pos c95] at H
                       have c95b0 : decide ((rd l1 0) < (a0_6.size : Int)) = true := decide_eq_true c95
                       clear c95
                       replace H := Option.bind_eq_some_iff.mp H
                       obtain ⟨t399, A970, H⟩ := H
                       replace H : (vitrineref11_Pixel.j6 kj86 t399 (rd l1 0) a0_0 a0_1 a0_2 a0_3 a0_4 a0_5 a0_6 a0_7) = some (r1, r2) := H
                       have A97 := Aside0.mk A970
                       clear A970
                       have H' := Aside0.mk H
                       clear H
                       have hcz98_0 : wc.cell? ⟨gb369, 0, none⟩ = some (.int .i64 a0_0) := (blk_cell BK369.out 0).trans rfl
                       have hcz98_1 : wc.cell? ⟨gb369, 1, none⟩ = some (.int .i64 a0_1) := (blk_cell BK369.out 1).trans rfl
                       have hcz98_2 : wc.cell? ⟨gb369, 2, none⟩ = some (.int .i64 a0_2) := (blk_cell BK369.out 2).trans rfl
                       have hcz98_3 : wc.cell? ⟨gb369, 3, none⟩ = some (.int .i64 a0_3) := (blk_cell BK369.out 3).trans rfl
                       have hcz98_4 : wc.cell? ⟨gb369, 4, none⟩ = some (.int .i64 a0_4) := (blk_cell BK369.out 4).trans rfl
                       have hcz98_5 : wc.cell? ⟨gb369, 5, none⟩ = some (.string a0_5) := (blk_cell BK369.out 5).trans rfl
                       have hcz98_6 : wc.cell? ⟨gb369, 6, none⟩ = some (.string a0_6) := (blk_cell BK369.out 6).trans rfl
                       have hcz98_7 : wc.cell? ⟨gb369, 7, none⟩ = some (.bool a0_7) := (blk_cell BK369.out 7).trans rfl
                       have hfz98_0 := blk_frozen BK369.out 0
                       have hfz98_1 := blk_frozen BK369.out 1
                       have hfz98_2 := blk_frozen BK369.out 2
                       have hfz98_3 := blk_frozen BK369.out 3
                       have hfz98_4 := blk_frozen BK369.out 4
                       have hfz98_5 := blk_frozen BK369.out 5
                       have hfz98_6 := blk_frozen BK369.out 6
                       have hfz98_7 := blk_frozen BK369.out 7
                       have p96 : 0 ≤ ((rd l1 0) : Int) := of_decide_eq_true (by first | (with_reducible assumption) | assumption)
                       have q96 : (rd l1 0) < (a0_6.size : Int) := of_decide_eq_true (by first | (with_reducible assumption) | assumption)
                       have hx96 := bt_at a0_6 (rd l1 0)
                       replace p96 := eq_true p96
                       replace q96 := eq_true q96
                       go_wp2_with (first | ((with_reducible refine gate_callee (f := 49) rfl ?_); refine gz 172 Try.func49 #[.int .i64 (wrap64 (257 * (wrap64 (bt a0_6 (rd l1 0)))))] ?_; (with_reducible refine (vitrineref11_two.calls (wrap64 (257 * (wrap64 (bt a0_6 (rd l1 0))))) t399 _ A97.out).mono ?_); rintro e w99 ⟨rfl, hb⟩; refine ⟨_, rfl, ?_⟩; have n0_ := Aside0.mk (blk_below (g := gb369) (o := .cells #[.int .i64 a0_0, .int .i64 a0_1, .int .i64 a0_2, .int .i64 a0_3, .int .i64 a0_4, .string a0_5, .string a0_6, .bool a0_7] 31 (0, 0)) (kz BK369) hb); have n1_ := Aside0.mk (below_step (hz HB) hb); clear BK369; clear HB; have BK369 := n0_; have HB := n1_; clear n0_ n1_; (try clear hb); (try clear hb2); (try clear hk); (try clear hi)))
                       go_meet
                       case rel => exact ⟨_, (t399), (by first | rfl | (simp; done) | (simp [*]; done)), H', ⟨by have := HJ2.out; have := HK2.out; have := HJ30.out; have := HJ41.out; have := HJ86.out; first | omega | exact Nat.le_refl _⟩, ⟨kz BK369⟩, ⟨hz HB⟩⟩
                      ·
                       as_aux_lemma =>
                       rw [if_neg c95] at H
                       exact absurd H (by simp)
                     ·
                      as_aux_lemma =>
                      rw [if_neg c94] at H
                      exact absurd H (by simp)
                    ·
                     replace c93 := Bool.eq_false_iff.mpr c93
                     subst c93
                     have H1 : (vitrineref11_Pixel.j6 kj86 x8_41 (rd l1 0) a0_0 a0_1 a0_2 a0_3 a0_4 a0_5 a0_6 a0_7) = some (r1, r2) := by rw [if_neg (show ¬ (false = true) by decide)] at H; exact H
                     clear H
                     have H := H1
                     clear H1
                     have H' := Aside0.mk H
                     clear H
                     go_wp2
                     go_meet
                     case rel => exact ⟨_, (x8_41), (by first | rfl | (simp; done) | (simp [*]; done)), H', ⟨by have := HJ2.out; have := HK2.out; have := HJ30.out; have := HJ41.out; have := HJ86.out; first | omega | exact Nat.le_refl _⟩, ⟨kz BK369⟩, ⟨hz HB⟩⟩
                   case rest =>
                    as_aux_lemma =>
                    clear HC92
                    try clear c64
                    try clear c64b0
                    try clear c64b1
                    try clear c73
                    try clear c73b0
                    try clear c73b1
                    try clear c84
                    try clear c84b0
                    try clear c84b1
                    try clear c85
                    try clear c85b0
                    try clear hcz88_0
                    try clear hcz88_1
                    try clear hcz88_2
                    try clear hcz88_3
                    try clear hcz88_4
                    try clear hcz88_5
                    try clear hcz88_6
                    try clear hcz88_7
                    try clear hfz88_0
                    try clear hfz88_1
                    try clear hfz88_2
                    try clear hfz88_3
                    try clear hfz88_4
                    try clear hfz88_5
                    try clear hfz88_6
                    try clear hfz88_7
                    try clear hx398_0
                    try clear p398
                    try clear q398
                    obtain ⟨kq, x8_91, rfl, HA, HJ91, BK369, HB⟩ := hcut
                    cases kq with
                    | zero => exact absurd HA.out (by simp [vitrineref11_Pixel.j6])
                    | succ kj91 =>
                     have H := HA.out
                     clear HA
                     simp only [vitrineref11_Pixel.j6] at H
                     obtain ⟨ji100, hji100⟩ : ∃ j_ : Int, (wrap64 (3 * (rd l1 0))) = j_ := ⟨_, rfl⟩
                     replace H : (if 0 ≤ (ji100) then (if (ji100) < (a0_5.size : Int) then ((vitrineref11_two.f (wrap64 (257 * (wrap64 (bt a0_5 (ji100)))))).bind fun t400 => (if 0 ≤ (wrap64 ((ji100) + 1)) then (if (wrap64 ((ji100) + 1)) < (a0_5.size : Int) then ((vitrineref11_two.f (wrap64 (257 * (wrap64 (bt a0_5 (wrap64 ((ji100) + 1))))))).bind fun t401 => (if t400.size + t401.size ≤ 9223372036854775807 then (if 0 ≤ (wrap64 ((ji100) + 2)) then (if (wrap64 ((ji100) + 2)) < (a0_5.size : Int) then ((vitrineref11_two.f (wrap64 (257 * (wrap64 (bt a0_5 (wrap64 ((ji100) + 2))))))).bind fun t402 => (if (t400 ++ t401).size + t402.size ≤ 9223372036854775807 then (if ((t400 ++ t401) ++ t402).size + x8_91.size ≤ 9223372036854775807 then (some (((t400 ++ t401) ++ t402) ++ x8_91, 0)) else (none)) else (none))) else (none)) else (none)) else (none))) else (none)) else (none))) else (none)) else (none)) = some (r1, r2) := by first | (rw [hji100] at H; exact H) | (simp only [hji100] at H ⊢; exact H)
                     (try rw [hji100] at c85b0)
                     have hji100w : (IntKind.i64.wrap (3 * (rd l1 0))) = ji100 := (i64_w _).trans hji100
                     by_cases c101 : 0 ≤ (ji100)
                     ·
                      as_aux_lemma =>
                      rw [if_pos c101] at H
                      have c101b0 : decide (0 ≤ (ji100)) = true := decide_eq_true c101
                      clear c101
                      by_cases c102 : (ji100) < (a0_5.size : Int)
                      ·
                       as_aux_lemma =>
                       rw [if_pos c102] at H
                       have c102b0 : decide ((ji100) < (a0_5.size : Int)) = true := decide_eq_true c102
                       clear c102
                       replace H := Option.bind_eq_some_iff.mp H
                       obtain ⟨t400, A1040, H⟩ := H
                       replace H : (if 0 ≤ (wrap64 ((ji100) + 1)) then (if (wrap64 ((ji100) + 1)) < (a0_5.size : Int) then ((vitrineref11_two.f (wrap64 (257 * (wrap64 (bt a0_5 (wrap64 ((ji100) + 1))))))).bind fun t401 => (if t400.size + t401.size ≤ 9223372036854775807 then (if 0 ≤ (wrap64 ((ji100) + 2)) then (if (wrap64 ((ji100) + 2)) < (a0_5.size : Int) then ((vitrineref11_two.f (wrap64 (257 * (wrap64 (bt a0_5 (wrap64 ((ji100) + 2))))))).bind fun t402 => (if (t400 ++ t401).size + t402.size ≤ 9223372036854775807 then (if ((t400 ++ t401) ++ t402).size + x8_91.size ≤ 9223372036854775807 then (some (((t400 ++ t401) ++ t402) ++ x8_91, 0)) else (none)) else (none))) else (none)) else (none)) else (none))) else (none)) else (none)) = some (r1, r2) := H
                       have A104 := Aside0.mk A1040
                       clear A1040
                       obtain ⟨ji105, hji105⟩ : ∃ j_ : Int, (wrap64 ((ji100) + 1)) = j_ := ⟨_, rfl⟩
                       replace H : (if 0 ≤ (ji105) then (if (ji105) < (a0_5.size : Int) then ((vitrineref11_two.f (wrap64 (257 * (wrap64 (bt a0_5 (ji105)))))).bind fun t401 => (if t400.size + t401.size ≤ 9223372036854775807 then (if 0 ≤ (wrap64 ((ji100) + 2)) then (if (wrap64 ((ji100) + 2)) < (a0_5.size : Int) then ((vitrineref11_two.f (wrap64 (257 * (wrap64 (bt a0_5 (wrap64 ((ji100) + 2))))))).bind fun t402 => (if (t400 ++ t401).size + t402.size ≤ 9223372036854775807 then (if ((t400 ++ t401) ++ t402).size + x8_91.size ≤ 9223372036854775807 then (some (((t400 ++ t401) ++ t402) ++ x8_91, 0)) else (none)) else (none))) else (none)) else (none)) else (none))) else (none)) else (none)) = some (r1, r2) := by first | (rw [hji105] at H; exact H) | (simp only [hji105] at H ⊢; exact H)
                       (try rw [hji105] at A104)
                       have hji105w : (IntKind.i64.wrap ((ji100) + 1)) = ji105 := (i64_w _).trans hji105
                       by_cases c106 : 0 ≤ (ji105)
                       ·
                        as_aux_lemma =>
                        rw [if_pos c106] at H
                        have c106b0 : decide (0 ≤ (ji105)) = true := decide_eq_true c106
                        clear c106
                        by_cases c107 : (ji105) < (a0_5.size : Int)
                        ·
                         as_aux_lemma =>
                         rw [if_pos c107] at H
                         have c107b0 : decide ((ji105) < (a0_5.size : Int)) = true := decide_eq_true c107
                         clear c107
                         replace H := Option.bind_eq_some_iff.mp H
                         obtain ⟨t401, A1090, H⟩ := H
                         replace H : (if t400.size + t401.size ≤ 9223372036854775807 then (if 0 ≤ (wrap64 ((ji100) + 2)) then (if (wrap64 ((ji100) + 2)) < (a0_5.size : Int) then ((vitrineref11_two.f (wrap64 (257 * (wrap64 (bt a0_5 (wrap64 ((ji100) + 2))))))).bind fun t402 => (if (t400 ++ t401).size + t402.size ≤ 9223372036854775807 then (if ((t400 ++ t401) ++ t402).size + x8_91.size ≤ 9223372036854775807 then (some (((t400 ++ t401) ++ t402) ++ x8_91, 0)) else (none)) else (none))) else (none)) else (none)) else (none)) = some (r1, r2) := H
                         have A109 := Aside0.mk A1090
                         clear A1090
                         by_cases c110 : t400.size + t401.size ≤ 9223372036854775807
                         ·
                          as_aux_lemma =>
                          rw [if_pos c110] at H
                          have c110b0 := eq_true c110
                          have c110b1 : decide (t400.size + t401.size ≤ 9223372036854775807) = true := decide_eq_true c110
                          try have c110b2 : (9223372036854775807 < t400.size + t401.size) = False := eq_false (Nat.not_lt.2 c110)
                          obtain ⟨ji111, hji111⟩ : ∃ j_ : Int, (wrap64 ((ji100) + 2)) = j_ := ⟨_, rfl⟩
                          replace H : (if 0 ≤ (ji111) then (if (ji111) < (a0_5.size : Int) then ((vitrineref11_two.f (wrap64 (257 * (wrap64 (bt a0_5 (ji111)))))).bind fun t402 => (if (t400 ++ t401).size + t402.size ≤ 9223372036854775807 then (if ((t400 ++ t401) ++ t402).size + x8_91.size ≤ 9223372036854775807 then (some (((t400 ++ t401) ++ t402) ++ x8_91, 0)) else (none)) else (none))) else (none)) else (none)) = some (r1, r2) := by first | (rw [hji111] at H; exact H) | (simp only [hji111] at H ⊢; exact H)
                          (try rw [hji111] at A104)
                          (try rw [hji111] at A109)
                          have hji111w : (IntKind.i64.wrap ((ji100) + 2)) = ji111 := (i64_w _).trans hji111
                          by_cases c112 : 0 ≤ (ji111)
                          ·
                           as_aux_lemma =>
                           rw [if_pos c112] at H
                           have c112b0 : decide (0 ≤ (ji111)) = true := decide_eq_true c112
                           clear c112
                           by_cases c113 : (ji111) < (a0_5.size : Int)
                           ·
                            as_aux_lemma =>
                            rw [if_pos c113] at H
                            have c113b0 : decide ((ji111) < (a0_5.size : Int)) = true := decide_eq_true c113
                            clear c113
                            replace H := Option.bind_eq_some_iff.mp H
                            obtain ⟨t402, A1150, H⟩ := H
                            replace H : (if (t400 ++ t401).size + t402.size ≤ 9223372036854775807 then (if ((t400 ++ t401) ++ t402).size + x8_91.size ≤ 9223372036854775807 then (some (((t400 ++ t401) ++ t402) ++ x8_91, 0)) else (none)) else (none)) = some (r1, r2) := H
                            have A115 := Aside0.mk A1150
                            clear A1150
                            by_cases c116 : (t400 ++ t401).size + t402.size ≤ 9223372036854775807
                            ·
                             as_aux_lemma =>
                             rw [if_pos c116] at H
                             have c116b0 := eq_true c116
                             have c116b1 : decide ((t400 ++ t401).size + t402.size ≤ 9223372036854775807) = true := decide_eq_true c116
                             try have c116b2 : (9223372036854775807 < (t400 ++ t401).size + t402.size) = False := eq_false (Nat.not_lt.2 c116)
                             try (have c116b3 := c116b2; simp only [ByteArray.size_append] at c116b3)
                             by_cases c117 : ((t400 ++ t401) ++ t402).size + x8_91.size ≤ 9223372036854775807
                             ·
                              as_aux_lemma =>
                              rw [if_pos c117] at H
                              have c117b0 := eq_true c117
                              have c117b1 : decide (((t400 ++ t401) ++ t402).size + x8_91.size ≤ 9223372036854775807) = true := decide_eq_true c117
                              try have c117b2 : (9223372036854775807 < ((t400 ++ t401) ++ t402).size + x8_91.size) = False := eq_false (Nat.not_lt.2 c117)
                              try (have c117b3 := c117b2; simp only [ByteArray.size_append] at c117b3)
                              simp only [Option.some.injEq, Prod.mk.injEq] at H
                              obtain ⟨rfl, rfl⟩ := H
                              try go_wp2
                              have n0_ := Aside0.mk (blk_drew BK369.out)
                              have n1_ := Aside0.mk (below_drew1 HB.out)
                              clear BK369
                              clear HB
                              have BK369 := n0_
                              have HB := n1_
                              clear n0_ n1_
                              have p103 : 0 ≤ ((ji100) : Int) := of_decide_eq_true (by first | (with_reducible assumption) | assumption)
                              have q103 : (ji100) < (a0_5.size : Int) := of_decide_eq_true (by first | (with_reducible assumption) | assumption)
                              have hx103 := bt_at a0_5 (ji100)
                              replace p103 := eq_true p103
                              replace q103 := eq_true q103
                              have p108 : 0 ≤ ((ji105) : Int) := of_decide_eq_true (by first | (with_reducible assumption) | assumption)
                              have q108 : (ji105) < (a0_5.size : Int) := of_decide_eq_true (by first | (with_reducible assumption) | assumption)
                              have hx108 := bt_at a0_5 (ji105)
                              replace p108 := eq_true p108
                              replace q108 := eq_true q108
                              have p114 : 0 ≤ ((ji111) : Int) := of_decide_eq_true (by first | (with_reducible assumption) | assumption)
                              have q114 : (ji111) < (a0_5.size : Int) := of_decide_eq_true (by first | (with_reducible assumption) | assumption)
                              have hx114 := bt_at a0_5 (ji111)
                              replace p114 := eq_true p114
                              replace q114 := eq_true q114
                              refine start_ (n := 32) (S := fun w' => w'.cell? ⟨gb369, 0, none⟩ = some (.int .i64 a0_0) ∧ w'.cell? ⟨gb369, 1, none⟩ = some (.int .i64 a0_1) ∧ w'.cell? ⟨gb369, 2, none⟩ = some (.int .i64 a0_2) ∧ w'.cell? ⟨gb369, 3, none⟩ = some (.int .i64 a0_3) ∧ w'.cell? ⟨gb369, 4, none⟩ = some (.int .i64 a0_4) ∧ w'.cell? ⟨gb369, 5, none⟩ = some (.string a0_5) ∧ w'.cell? ⟨gb369, 6, none⟩ = some (.string a0_6) ∧ w'.cell? ⟨gb369, 7, none⟩ = some (.bool a0_7)) (ds := []) (bm 32 0) (by kernel_rfl) rfl rfl ⟨(blk_cell BK369.out 0).trans rfl, (blk_cell BK369.out 1).trans rfl, (blk_cell BK369.out 2).trans rfl, (blk_cell BK369.out 3).trans rfl, (blk_cell BK369.out 4).trans rfl, (blk_cell BK369.out 5).trans rfl, (blk_cell BK369.out 6).trans rfl, (blk_cell BK369.out 7).trans rfl⟩ (fun hHeld => ?_); refine with_tabW vitrineref11_Pixel.tab27 vitrineref11_Pixel.bits27 (fun HT_ HW_ => ?_)
                              generalize wc.drew = w118 at BK369 HB hHeld ⊢
                              refine zp 0 173 (bm 32 1) ?_
                              refine zp 2 175 (bm 32 5) ?_
                              refine zp 3 176 (bm 32 13) ?_
                              refine zp 8 181 (bm 32 269) ?_
                              refine zp 10 183 (bm 32 1293) ?_
                              refine zp 11 184 (bm 32 3341) ?_
                              refine zp 12 185 (bm 32 7437) ?_
                              refine zp 18 191 (bm 32 269581) ?_
                              refine zp 20 193 (bm 32 1318157) ?_
                              refine zp 21 194 (bm 32 3415309) ?_
                              refine zp 22 195 (bm 32 7609613) ?_
                              refine zp 28 201 (bm 32 276045069) ?_
                              refine zt 1 174 (bm 32 276045071) rfl (by rintro w' ⟨s0, s1, s2, s3, s4, s5, s6, s7⟩; go_simp; with_reducible rfl) ?_
                              refine zt 4 177 (bm 32 276045087) rfl (by rintro w' ⟨s0, s1, s2, s3, s4, s5, s6, s7⟩; go_simp; with_reducible rfl) ?_
                              refine zp 5 178 (bm 32 276045119) ?_
                              refine zp 6 179 (bm 32 276045183) ?_
                              refine zt 9 182 (bm 32 276045695) rfl (by rintro w' ⟨s0, s1, s2, s3, s4, s5, s6, s7⟩; go_simp; with_reducible rfl) ?_
                              refine zt 13 186 (bm 32 276053887) rfl (by rintro w' ⟨s0, s1, s2, s3, s4, s5, s6, s7⟩; go_simp; with_reducible rfl) ?_
                              refine zp 14 187 (bm 32 276070271) ?_
                              refine zp 15 188 (bm 32 276103039) ?_
                              refine zt 19 192 (bm 32 276627327) rfl (by rintro w' ⟨s0, s1, s2, s3, s4, s5, s6, s7⟩; go_simp; with_reducible rfl) ?_
                              refine zt 23 196 (bm 32 285015935) rfl (by rintro w' ⟨s0, s1, s2, s3, s4, s5, s6, s7⟩; go_simp; with_reducible rfl) ?_
                              refine zp 24 197 (bm 32 301793151) ?_
                              refine zp 25 198 (bm 32 335347583) ?_
                              refine one_ (i := 7) (N := some 180) (bm 32 335347711) rfl rfl (one_of HT_.out (by kernel_rfl)) (by decide) (fun K hK => ?_)
                              refine goes_ Try.func49 (by kernel_rfl) rfl #[.int .i64 (wrap64 (257 * (wrap64 (bt a0_5 (ji100)))))] (by rfl) rfl rfl (by (try simp only [List.map_toArray, List.map_cons, List.map_nil]); first | done | (simp only [hji100]; rfl) | rfl | (simp only [List.length_drop, List.length_take]; rfl) | (simp only [ByteArray.size_extract, Nat.min_self]; done) | (simp only [ByteArray.size_extract, Nat.min_self]; rfl)) ?_
                              with_reducible refine (vitrineref11_two.calls (wrap64 (257 * (wrap64 (bt a0_5 (ji100))))) t400 _ A104.out).mono ?_
                              rintro e w119 ⟨rfl, hb⟩
                              refine ⟨_, rfl, ?_⟩
                              have n0_ := Aside0.mk (blk_below (g := gb369) (o := .cells #[.int .i64 a0_0, .int .i64 a0_1, .int .i64 a0_2, .int .i64 a0_3, .int .i64 a0_4, .string a0_5, .string a0_6, .bool a0_7] 31 (0, 0)) (kz BK369) hb)
                              have n1_ := Aside0.mk (below_step (hz HB) hb)
                              clear BK369
                              clear HB
                              have BK369 := n0_
                              have HB := n1_
                              clear n0_ n1_
                              (try clear hb)
                              refine hK.out _ _ ⟨(blk_cell BK369.out 0).trans rfl, (blk_cell BK369.out 1).trans rfl, (blk_cell BK369.out 2).trans rfl, (blk_cell BK369.out 3).trans rfl, (blk_cell BK369.out 4).trans rfl, (blk_cell BK369.out 5).trans rfl, (blk_cell BK369.out 6).trans rfl, (blk_cell BK369.out 7).trans rfl⟩ (fun hHeld => ?_)
                              clear hK K
                              refine norm_ (a' := ?_) ?_ ?_
                              rotate_left
                              ·
                               show Act.put _ (some 180) _ = _
                               simp only [Act.put, zq1, zq2, zq3, i64_w, i32_w]
                               rfl
                              refine one_ (i := 16) (N := some 189) (bm 32 335413247) rfl rfl (one_of HT_.out (by kernel_rfl)) (by decide) (fun K hK => ?_)
                              refine goes_ Try.func49 (by kernel_rfl) rfl #[.int .i64 (wrap64 (257 * (wrap64 (bt a0_5 (ji105)))))] (by rfl) rfl rfl (by (try simp only [List.map_toArray, List.map_cons, List.map_nil]); first | done | (simp only [hji105]; rfl) | rfl | (simp only [List.length_drop, List.length_take]; rfl) | (simp only [ByteArray.size_extract, Nat.min_self]; done) | (simp only [ByteArray.size_extract, Nat.min_self]; rfl)) ?_
                              with_reducible refine (vitrineref11_two.calls (wrap64 (257 * (wrap64 (bt a0_5 (ji105))))) t401 _ A109.out).mono ?_
                              rintro e w120 ⟨rfl, hb⟩
                              refine ⟨_, rfl, ?_⟩
                              have n0_ := Aside0.mk (blk_below (g := gb369) (o := .cells #[.int .i64 a0_0, .int .i64 a0_1, .int .i64 a0_2, .int .i64 a0_3, .int .i64 a0_4, .string a0_5, .string a0_6, .bool a0_7] 31 (0, 0)) (kz BK369) hb)
                              have n1_ := Aside0.mk (below_step (hz HB) hb)
                              clear BK369
                              clear HB
                              have BK369 := n0_
                              have HB := n1_
                              clear n0_ n1_
                              (try clear hb)
                              refine hK.out _ _ ⟨(blk_cell BK369.out 0).trans rfl, (blk_cell BK369.out 1).trans rfl, (blk_cell BK369.out 2).trans rfl, (blk_cell BK369.out 3).trans rfl, (blk_cell BK369.out 4).trans rfl, (blk_cell BK369.out 5).trans rfl, (blk_cell BK369.out 6).trans rfl, (blk_cell BK369.out 7).trans rfl⟩ (fun hHeld => ?_)
                              clear hK K
                              refine norm_ (a' := ?_) ?_ ?_
                              rotate_left
                              ·
                               show Act.put _ (some 189) _ = _
                               simp only [Act.put, zq1, zq2, zq3, i64_w, i32_w]
                               rfl
                              refine zp 17 190 (bm 32 335544319) ?_
                              refine one_ (i := 26) (N := some 199) (bm 32 402653183) rfl rfl (one_of HT_.out (by kernel_rfl)) (by decide) (fun K hK => ?_)
                              refine goes_ Try.func49 (by kernel_rfl) rfl #[.int .i64 (wrap64 (257 * (wrap64 (bt a0_5 (ji111)))))] (by rfl) rfl rfl (by (try simp only [List.map_toArray, List.map_cons, List.map_nil]); first | done | (simp only [hji111]; rfl) | rfl | (simp only [List.length_drop, List.length_take]; rfl) | (simp only [ByteArray.size_extract, Nat.min_self]; done) | (simp only [ByteArray.size_extract, Nat.min_self]; rfl)) ?_
                              with_reducible refine (vitrineref11_two.calls (wrap64 (257 * (wrap64 (bt a0_5 (ji111))))) t402 _ A115.out).mono ?_
                              rintro e w121 ⟨rfl, hb⟩
                              refine ⟨_, rfl, ?_⟩
                              have n0_ := Aside0.mk (blk_below (g := gb369) (o := .cells #[.int .i64 a0_0, .int .i64 a0_1, .int .i64 a0_2, .int .i64 a0_3, .int .i64 a0_4, .string a0_5, .string a0_6, .bool a0_7] 31 (0, 0)) (kz BK369) hb)
                              have n1_ := Aside0.mk (below_step (hz HB) hb)
                              clear BK369
                              clear HB
                              have BK369 := n0_
                              have HB := n1_
                              clear n0_ n1_
                              (try clear hb)
                              refine hK.out _ _ ⟨(blk_cell BK369.out 0).trans rfl, (blk_cell BK369.out 1).trans rfl, (blk_cell BK369.out 2).trans rfl, (blk_cell BK369.out 3).trans rfl, (blk_cell BK369.out 4).trans rfl, (blk_cell BK369.out 5).trans rfl, (blk_cell BK369.out 6).trans rfl, (blk_cell BK369.out 7).trans rfl⟩ (fun hHeld => ?_)
                              clear hK K
                              refine norm_ (a' := ?_) ?_ ?_
                              rotate_left
                              ·
                               show Act.put _ (some 199) _ = _
                               simp only [Act.put, zq1, zq2, zq3, i64_w, i32_w]
                               rfl
                              refine zp 27 200 (bm 32 536870911) ?_
                              refine zp 29 202 (bm 32 1073741823) ?_
                              refine zp 30 4 (bm 32 2147483647) ?_
                              refine zp 31 5 (bm 32 4294967295) ?_
                              refine done_ (done_of HT_.out (by kernel_rfl)) ?_
                              try go_wp2
                              go_ret2
                              exact ⟨by first | rfl | (simp [errW_none, errW_some] <;> rfl) | (simp only [← hji100, ← hji105, ← hji111]; first | rfl | (simp [errW_none, errW_some] <;> rfl)) | (simp [*, errW_none, errW_some] <;> rfl), by repeat (first | (with_reducible first | exact HB.out | apply below_alloc | apply pw_below_drewN | apply below_drew1 | refine below_set ?_ GE369.out) | exact HB.out)⟩
                             ·
                              as_aux_lemma =>
                              rw [if_neg c117] at H
                              exact absurd H (by simp)
                            ·
                             as_aux_lemma =>
                             rw [if_neg c116] at H
                             exact absurd H (by simp)
                           ·
                            as_aux_lemma =>
                            rw [if_neg c113] at H
                            exact absurd H (by simp)
                          ·
                           as_aux_lemma =>
                           rw [if_neg c112] at H
                           exact absurd H (by simp)
                         ·
                          as_aux_lemma =>
                          rw [if_neg c110] at H
                          exact absurd H (by simp)
                        ·
                         as_aux_lemma =>
                         rw [if_neg c107] at H
                         exact absurd H (by simp)
                       ·
                        as_aux_lemma =>
                        rw [if_neg c106] at H
                        exact absurd H (by simp)
                      ·
                       as_aux_lemma =>
                       rw [if_neg c102] at H
                       exact absurd H (by simp)
                     ·
                      as_aux_lemma =>
                      rw [if_neg c101] at H
                      exact absurd H (by simp)
               ·
                as_aux_lemma =>
                rw [if_neg c84] at H
                exact absurd H (by simp)

end Go.Proofs.Ytejljcglbkjgkaa.PL12
