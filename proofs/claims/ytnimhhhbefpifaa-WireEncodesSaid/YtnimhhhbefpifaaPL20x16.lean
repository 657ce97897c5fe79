/- Printed for this claim by a program of this session over the kit's print program: the Go functions as Lean functions, and proofs that the calls come to these answers. No conditions. -/
import Derived.Test.YtnimhhhbefpifaaPL20x0
import Derived.Test.YtnimhhhbefpifaaPL20x14
import Derived.Test.YtnimhhhbefpifaaPL20x15
namespace Go.Proofs.Ytnimhhhbefpifaa.PL20
open Go.RowKit Go.Proofs.YtnimhhhbefpifaaW.PrintWords Go.Proofs.YtnimhhhbefpifaaW.PrintLast Go.Proofs.YtnimhhhbefpifaaW.PrintMore
attribute [local go_sem] max2_int min2_int max_two min_two max_three min_three max_four min_four   -- for this text's walks alone
set_option linter.unusedVariables false
set_option linter.unusedSimpArgs false

/-! ### vitrineref20_Encode: function 12 -/
def vitrineref20_Encode.l0 : Nat → ByteArray → Int → Int → Int → Int → Int → ByteArray → Int → Int → ByteArray → List ByteArray → Option (ByteArray × Int)
  | 0, _, _, _, _, _, _, _, _, _, _, _ => none
  | k + 1, x4, x5, x150000, x150001, x150002, x150003, x150004, x150005, x150006, x150007, x150008 => if x5 < (x150008.length : Int) then (if 0 ≤ x5 then ((vitrineref20_bytes.f k ((rdOf ByteArray.empty x150008 x5).size : Int) 4).bind fun t161 => (if x4.size + t161.size ≤ 9223372036854775807 then (if (x4 ++ t161).size + (rdOf ByteArray.empty x150008 x5).size ≤ 9223372036854775807 then (vitrineref20_Encode.l0 k ((x4 ++ t161) ++ (rdOf ByteArray.empty x150008 x5)) (wrap64 (x5 + 1)) x150000 x150001 x150002 x150003 x150004 x150005 x150006 x150007 x150008) else (none)) else (none))) else (none)) else ((vitrineref01_Crc.f k x4).bind fun t163 => ((vitrineref20_bytes.f k t163 4).bind fun t164 => (if t164.size + x4.size ≤ 9223372036854775807 then (some (t164 ++ x4, 0)) else (none))))
def vitrineref20_Encode.f (k : Nat) (a0_0 : Int) (a0_1 : Int) (a0_2 : Int) (a0_3 : Int) (a0_4 : ByteArray) (a0_5 : Int) (a0_6 : Int) (a0_7 : ByteArray) (l0_8 : List ByteArray) : Option (ByteArray × Int) := (vitrineref20_Right.f k a0_0 a0_1 a0_2 a0_3 a0_4 a0_5 a0_6 a0_7 l0_8).bind fun t150 => (if t150 = true then ((vitrineref20_bytes.f k a0_0 1).bind fun t151 => ((vitrineref20_bytes.f k a0_1 2).bind fun t152 => (if t151.size + t152.size ≤ 9223372036854775807 then ((vitrineref20_bytes.f k a0_2 2).bind fun t153 => (if (t151 ++ t152).size + t153.size ≤ 9223372036854775807 then ((vitrineref20_bytes.f k a0_3 8).bind fun t154 => (if ((t151 ++ t152) ++ t153).size + t154.size ≤ 9223372036854775807 then ((vitrineref20_bytes.f k (a0_4.size : Int) 1).bind fun t155 => (if (((t151 ++ t152) ++ t153) ++ t154).size + t155.size ≤ 9223372036854775807 then (if ((((t151 ++ t152) ++ t153) ++ t154) ++ t155).size + a0_4.size ≤ 9223372036854775807 then ((vitrineref20_bytes.f k a0_5 8).bind fun t156 => (if (((((t151 ++ t152) ++ t153) ++ t154) ++ t155) ++ a0_4).size + t156.size ≤ 9223372036854775807 then ((vitrineref20_bytes.f k a0_6 2).bind fun t157 => (if ((((((t151 ++ t152) ++ t153) ++ t154) ++ t155) ++ a0_4) ++ t156).size + t157.size ≤ 9223372036854775807 then ((vitrineref20_bytes.f k (a0_7.size : Int) 4).bind fun t158 => (if (((((((t151 ++ t152) ++ t153) ++ t154) ++ t155) ++ a0_4) ++ t156) ++ t157).size + t158.size ≤ 9223372036854775807 then (if ((((((((t151 ++ t152) ++ t153) ++ t154) ++ t155) ++ a0_4) ++ t156) ++ t157) ++ t158).size + a0_7.size ≤ 9223372036854775807 then ((vitrineref20_bytes.f k (l0_8.length : Int) 2).bind fun t159 => (if (((((((((t151 ++ t152) ++ t153) ++ t154) ++ t155) ++ a0_4) ++ t156) ++ t157) ++ t158) ++ a0_7).size + t159.size ≤ 9223372036854775807 then (vitrineref20_Encode.l0 k ((((((((((t151 ++ t152) ++ t153) ++ t154) ++ t155) ++ a0_4) ++ t156) ++ t157) ++ t158) ++ a0_7) ++ t159) 0 a0_0 a0_1 a0_2 a0_3 a0_4 a0_5 a0_6 a0_7 l0_8) else (none))) else (none)) else (none))) else (none))) else (none))) else (none)) else (none))) else (none))) else (none))) else (none)))) else (some ((⟨#[]⟩ : ByteArray), 60)))
theorem vitrineref20_Encode.mono_l : ∀ k, (∀ y0 y1 y2 y3 y4 y5 y6 y7 y8 y9 y10, LeO (vitrineref20_Encode.l0 k y0 y1 y2 y3 y4 y5 y6 y7 y8 y9 y10) (vitrineref20_Encode.l0 (k + 1) y0 y1 y2 y3 y4 y5 y6 y7 y8 y9 y10))
  | 0 => fun _ _ _ _ _ _ _ _ _ _ _ r h => by simp [vitrineref20_Encode.l0] at h
  | k + 1 => by
    have ih0 := vitrineref20_Encode.mono_l k
    · intro y0 y1 y2 y3 y4 y5 y6 y7 y8 y9 y10
      unfold vitrineref20_Encode.l0
      repeat' first
      | (with_reducible exact ih0 _ _ _ _ _ _ _ _ _ _ _)
      | (with_reducible exact vitrineref01_Crc.mono _ _)
      | (with_reducible exact vitrineref20_Right.mono _ _ _ _ _ _ _ _ _ _)
      | (with_reducible exact vitrineref20_bytes.mono _ _ _)
      | (with_reducible exact LeO.refl _)
      | (with_reducible exact LeO.none _)
      | (with_reducible refine LeO.ite ?_ ?_)
      | (with_reducible refine LeO.bind ?_ (fun _ => ?_))
      | exact ih0 _ _ _ _ _ _ _ _ _ _ _
      | exact vitrineref01_Crc.mono _ _
      | exact vitrineref20_Right.mono _ _ _ _ _ _ _ _ _ _
      | exact vitrineref20_bytes.mono _ _ _
      | exact LeO.none _
      | refine LeO.ite ?_ ?_
      | refine LeO.bind ?_ (fun _ => ?_)
theorem vitrineref20_Encode.mono : ∀ a0 a1 a2 a3 a4 a5 a6 a7 a8 k, LeO (vitrineref20_Encode.f k a0 a1 a2 a3 a4 a5 a6 a7 a8) (vitrineref20_Encode.f (k + 1) a0 a1 a2 a3 a4 a5 a6 a7 a8) := by
  intro a0 a1 a2 a3 a4 a5 a6 a7 a8 k
  have ih0 := vitrineref20_Encode.mono_l k
  unfold vitrineref20_Encode.f
  repeat' first
      | (with_reducible exact ih0 _ _ _ _ _ _ _ _ _ _ _)
      | (with_reducible exact vitrineref01_Crc.mono _ _)
      | (with_reducible exact vitrineref20_Right.mono _ _ _ _ _ _ _ _ _ _)
      | (with_reducible exact vitrineref20_bytes.mono _ _ _)
      | (with_reducible exact LeO.refl _)
      | (with_reducible exact LeO.none _)
      | (with_reducible refine LeO.ite ?_ ?_)
      | (with_reducible refine LeO.bind ?_ (fun _ => ?_))
      | exact ih0 _ _ _ _ _ _ _ _ _ _ _
      | exact vitrineref01_Crc.mono _ _
      | exact vitrineref20_Right.mono _ _ _ _ _ _ _ _ _ _
      | exact vitrineref20_bytes.mono _ _ _
      | exact LeO.none _
      | refine LeO.ite ?_ ?_
      | refine LeO.bind ?_ (fun _ => ?_)
def vitrineref20_Encode.T3 : Bool × List (List Nat × List Nat) := (true, [([], []), ([0], [0]), ([1], [1]), ([], []), ([3], [3]), ([4, 2], [4]), ([2, 5], [2, 5]), ([], []), ([7], [7]), ([8, 5], [8]), ([6, 9], [6, 9]), ([], []), ([11], [11]), ([12, 9], [12]), ([10, 13], [10, 13]), ([], []), ([15], [15]), ([16], [16]), ([17, 13], [17]), ([14, 18], [14, 18]), ([], []), ([20], [20]), ([19, 21], [19, 21]), ([], []), ([23], [23]), ([24], [24]), ([25, 18], [25]), ([22, 26], [22, 26]), ([], []), ([28], [28]), ([29], [29]), ([30, 26], [30]), ([27, 31], [27, 31]), ([], []), ([33], [33]), ([34], [34]), ([35, 31], [35]), ([32, 36], [32, 36]), ([], []), ([38], [38]), ([37, 39], [37, 39]), ([], []), ([41], [41]), ([42], [42]), ([43, 36], [43]), ([40, 44], [40, 44]), ([45, 44, 0, 1, 2, 3, 4, 5, 6, 7, 8, 9, 10, 11, 12, 13, 14, 15, 16, 17, 18, 19, 20, 21, 22, 23, 24, 25, 26, 27, 28, 29, 30, 31, 32, 33, 34, 35, 36, 37, 38, 39, 40, 41, 42, 43, 44, 45], [45])])
def vitrineref20_Encode.B3 : List Nat := [0, 1, 3, 0, 8, 31, 63, 0, 128, 447, 1023, 0, 2048, 7103, 16383, 0, 32768, 98304, 244671, 524287, 0, 1048576, 4194303, 0, 8388608, 25165824, 59227071, 134217727, 0, 268435456, 805306368, 2005384127, 4294967295, 0, 8589934592, 25769803776, 64282409919, 137438953471, 0, 274877906944, 1099511627775, 0, 2199023255552, 6597069766656, 15526164675519, 35184372088831, 70368744177663]
theorem vitrineref20_Encode.tab3 : rtab .any (opsOf Try.f12 3) = vitrineref20_Encode.T3 := by kernel_rfl
theorem vitrineref20_Encode.bits3 : waitsOk vitrineref20_Encode.T3.2 vitrineref20_Encode.B3 = true := by kernel_rfl
def vitrineref20_Encode.T7 : Bool × List (List Nat × List Nat) := (true, [([], []), ([], []), ([1], [1]), ([], []), ([2, 3], [2, 3]), ([4], [4]), ([5], [5]), ([6], [6]), ([0, 7], [0, 7]), ([], []), ([9], [9]), ([], []), ([10, 11], [10, 11]), ([12], [12]), ([8, 13], [8, 13]), ([14, 7, 0, 1, 2, 3, 4, 5, 6, 7, 8, 9, 10, 11, 12, 13, 14], [0, 14])])
def vitrineref20_Encode.B7 : List Nat := [0, 0, 2, 0, 14, 30, 62, 126, 255, 0, 512, 0, 3584, 7680, 16383, 32767]
theorem vitrineref20_Encode.tab7 : rtab .any (opsOf Try.f12 7) = vitrineref20_Encode.T7 := by kernel_rfl
theorem vitrineref20_Encode.bits7 : waitsOk vitrineref20_Encode.T7.2 vitrineref20_Encode.B7 = true := by kernel_rfl
set_option maxHeartbeats 40000000 in
set_option maxRecDepth 100000 in
theorem vitrineref20_Encode.calls (k : Nat) (a0_0 : Int) (a0_1 : Int) (a0_2 : Int) (a0_3 : Int) (a0_4 : ByteArray) (a0_5 : Int) (a0_6 : Int) (a0_7 : ByteArray) (A0_8 : Option Addr) (c0_8 : Nat) (l0_8 : List ByteArray) (r1 : ByteArray) (r2 : Int) (w : World) (hr0_8 : Kd.C Kd.string w A0_8 l0_8.length l0_8) (hc0_8 : l0_8.length ≤ c0_8) (h : vitrineref20_Encode.f k a0_0 a0_1 a0_2 a0_3 a0_4 a0_5 a0_6 a0_7 l0_8 = some (r1, r2)) :
    Calls Try.prog 12 #[.agg #[.int .i64 a0_0, .int .i64 a0_1, .int .i64 a0_2, .int .i64 a0_3, .string a0_4, .int .i64 a0_5, .int .i64 a0_6, .string a0_7, .slice A0_8 l0_8.length c0_8]] w fun e w' => e = .returned (.tuple #[.string r1, .int .i64 r2]) ∧ Below w.heap.size w w' := by
  have hu26 := Try.underlying26
  have HR0_8 := Aside0.mk hr0_8
  have HC0_8 := Aside0.mk hc0_8
  clear hr0_8 hc0_8
  have HB := Aside0.mk (Below.refl w.heap.size w)
  have H : ((vitrineref20_Right.f k a0_0 a0_1 a0_2 a0_3 a0_4 a0_5 a0_6 a0_7 l0_8).bind fun t150 => (if t150 = true then ((vitrineref20_bytes.f k a0_0 1).bind fun t151 => ((vitrineref20_bytes.f k a0_1 2).bind fun t152 => (if t151.size + t152.size ≤ 9223372036854775807 then ((vitrineref20_bytes.f k a0_2 2).bind fun t153 => (if (t151 ++ t152).size + t153.size ≤ 9223372036854775807 then ((vitrineref20_bytes.f k a0_3 8).bind fun t154 => (if ((t151 ++ t152) ++ t153).size + t154.size ≤ 9223372036854775807 then ((vitrineref20_bytes.f k (a0_4.size : Int) 1).bind fun t155 => (if (((t151 ++ t152) ++ t153) ++ t154).size + t155.size ≤ 9223372036854775807 then (if ((((t151 ++ t152) ++ t153) ++ t154) ++ t155).size + a0_4.size ≤ 9223372036854775807 then ((vitrineref20_bytes.f k a0_5 8).bind fun t156 => (if (((((t151 ++ t152) ++ t153) ++ t154) ++ t155) ++ a0_4).size + t156.size ≤ 9223372036854775807 then ((vitrineref20_bytes.f k a0_6 2).bind fun t157 => (if ((((((t151 ++ t152) ++ t153) ++ t154) ++ t155) ++ a0_4) ++ t156).size + t157.size ≤ 9223372036854775807 then ((vitrineref20_bytes.f k (a0_7.size : Int) 4).bind fun t158 => (if (((((((t151 ++ t152) ++ t153) ++ t154) ++ t155) ++ a0_4) ++ t156) ++ t157).size + t158.size ≤ 9223372036854775807 then (if ((((((((t151 ++ t152) ++ t153) ++ t154) ++ t155) ++ a0_4) ++ t156) ++ t157) ++ t158).size + a0_7.size ≤ 9223372036854775807 then ((vitrineref20_bytes.f k (l0_8.length : Int) 2).bind fun t159 => (if (((((((((t151 ++ t152) ++ t153) ++ t154) ++ t155) ++ a0_4) ++ t156) ++ t157) ++ t158) ++ a0_7).size + t159.size ≤ 9223372036854775807 then (vitrineref20_Encode.l0 k ((((((((((t151 ++ t152) ++ t153) ++ t154) ++ t155) ++ a0_4) ++ t156) ++ t157) ++ t158) ++ a0_7) ++ t159) 0 a0_0 a0_1 a0_2 a0_3 a0_4 a0_5 a0_6 a0_7 l0_8) else (none))) else (none)) else (none))) else (none))) else (none))) else (none)) else (none))) else (none))) else (none))) else (none)))) else (some ((⟨#[]⟩ : ByteArray), 60)))) = some (r1, r2) := h
  clear h
  replace H := Option.bind_eq_some_iff.mp H
  obtain ⟨t150, A20, H⟩ := H
  replace H : (if t150 = true then ((vitrineref20_bytes.f k a0_0 1).bind fun t151 => ((vitrineref20_bytes.f k a0_1 2).bind fun t152 => (if t151.size + t152.size ≤ 9223372036854775807 then ((vitrineref20_bytes.f k a0_2 2).bind fun t153 => (if (t151 ++ t152).size + t153.size ≤ 9223372036854775807 then ((vitrineref20_bytes.f k a0_3 8).bind fun t154 => (if ((t151 ++ t152) ++ t153).size + t154.size ≤ 9223372036854775807 then ((vitrineref20_bytes.f k (a0_4.size : Int) 1).bind fun t155 => (if (((t151 ++ t152) ++ t153) ++ t154).size + t155.size ≤ 9223372036854775807 then (if ((((t151 ++ t152) ++ t153) ++ t154) ++ t155).size + a0_4.size ≤ 9223372036854775807 then ((vitrineref20_bytes.f k a0_5 8).bind fun t156 => (if (((((t151 ++ t152) ++ t153) ++ t154) ++ t155) ++ a0_4).size + t156.size ≤ 9223372036854775807 then ((vitrineref20_bytes.f k a0_6 2).bind fun t157 => (if ((((((t151 ++ t152) ++ t153) ++ t154) ++ t155) ++ a0_4) ++ t156).size + t157.size ≤ 9223372036854775807 then ((vitrineref20_bytes.f k (a0_7.size : Int) 4).bind fun t158 => (if (((((((t151 ++ t152) ++ t153) ++ t154) ++ t155) ++ a0_4) ++ t156) ++ t157).size + t158.size ≤ 9223372036854775807 then (if ((((((((t151 ++ t152) ++ t153) ++ t154) ++ t155) ++ a0_4) ++ t156) ++ t157) ++ t158).size + a0_7.size ≤ 9223372036854775807 then ((vitrineref20_bytes.f k (l0_8.length : Int) 2).bind fun t159 => (if (((((((((t151 ++ t152) ++ t153) ++ t154) ++ t155) ++ a0_4) ++ t156) ++ t157) ++ t158) ++ a0_7).size + t159.size ≤ 9223372036854775807 then (vitrineref20_Encode.l0 k ((((((((((t151 ++ t152) ++ t153) ++ t154) ++ t155) ++ a0_4) ++ t156) ++ t157) ++ t158) ++ a0_7) ++ t159) 0 a0_0 a0_1 a0_2 a0_3 a0_4 a0_5 a0_6 a0_7 l0_8) else (none))) else (none)) else (none))) else (none))) else (none))) else (none)) else (none))) else (none))) else (none))) else (none)))) else (some ((⟨#[]⟩ : ByteArray), 60))) = some (r1, r2) := H
  have A2 := Aside0.mk A20
  clear A20
  by_cases c3 : t150 = true
  · subst c3
    have H1 : ((vitrineref20_bytes.f k a0_0 1).bind fun t151 => ((vitrineref20_bytes.f k a0_1 2).bind fun t152 => (if t151.size + t152.size ≤ 9223372036854775807 then ((vitrineref20_bytes.f k a0_2 2).bind fun t153 => (if (t151 ++ t152).size + t153.size ≤ 9223372036854775807 then ((vitrineref20_bytes.f k a0_3 8).bind fun t154 => (if ((t151 ++ t152) ++ t153).size + t154.size ≤ 9223372036854775807 then ((vitrineref20_bytes.f k (a0_4.size : Int) 1).bind fun t155 => (if (((t151 ++ t152) ++ t153) ++ t154).size + t155.size ≤ 9223372036854775807 then (if ((((t151 ++ t152) ++ t153) ++ t154) ++ t155).size + a0_4.size ≤ 9223372036854775807 then ((vitrineref20_bytes.f k a0_5 8).bind fun t156 => (if (((((t151 ++ t152) ++ t153) ++ t154) ++ t155) ++ a0_4).size + t156.size ≤ 9223372036854775807 then ((vitrineref20_bytes.f k a0_6 2).bind fun t157 => (if ((((((t151 ++ t152) ++ t153) ++ t154) ++ t155) ++ a0_4) ++ t156).size + t157.size ≤ 9223372036854775807 then ((vitrineref20_bytes.f k (a0_7.size : Int) 4).bind fun t158 => (if (((((((t151 ++ t152) ++ t153) ++ t154) ++ t155) ++ a0_4) ++ t156) ++ t157).size + t158.size ≤ 9223372036854775807 then (if ((((((((t151 ++ t152) ++ t153) ++ t154) ++ t155) ++ a0_4) ++ t156) ++ t157) ++ t158).size + a0_7.size ≤ 9223372036854775807 then ((vitrineref20_bytes.f k (l0_8.length : Int) 2).bind fun t159 => (if (((((((((t151 ++ t152) ++ t153) ++ t154) ++ t155) ++ a0_4) ++ t156) ++ t157) ++ t158) ++ a0_7).size + t159.size ≤ 9223372036854775807 then (vitrineref20_Encode.l0 k ((((((((((t151 ++ t152) ++ t153) ++ t154) ++ t155) ++ a0_4) ++ t156) ++ t157) ++ t158) ++ a0_7) ++ t159) 0 a0_0 a0_1 a0_2 a0_3 a0_4 a0_5 a0_6 a0_7 l0_8) else (none))) else (none)) else (none))) else (none))) else (none))) else (none)) else (none))) else (none))) else (none))) else (none)))) = some (r1, r2) := by rw [if_pos rfl] at H; exact H
    clear H
    have H := H1
    clear H1
    replace H := Option.bind_eq_some_iff.mp H
    obtain ⟨t151, A40, H⟩ := H
    replace H : ((vitrineref20_bytes.f k a0_1 2).bind fun t152 => (if t151.size + t152.size ≤ 9223372036854775807 then ((vitrineref20_bytes.f k a0_2 2).bind fun t153 => (if (t151 ++ t152).size + t153.size ≤ 9223372036854775807 then ((vitrineref20_bytes.f k a0_3 8).bind fun t154 => (if ((t151 ++ t152) ++ t153).size + t154.size ≤ 9223372036854775807 then ((vitrineref20_bytes.f k (a0_4.size : Int) 1).bind fun t155 => (if (((t151 ++ t152) ++ t153) ++ t154).size + t155.size ≤ 9223372036854775807 then (if ((((t151 ++ t152) ++ t153) ++ t154) ++ t155).size + a0_4.size ≤ 9223372036854775807 then ((vitrineref20_bytes.f k a0_5 8).bind fun t156 => (if (((((t151 ++ t152) ++ t153) ++ t154) ++ t155) ++ a0_4).size + t156.size ≤ 9223372036854775807 then ((vitrineref20_bytes.f k a0_6 2).bind fun t157 => (if ((((((t151 ++ t152) ++ t153) ++ t154) ++ t155) ++ a0_4) ++ t156).size + t157.size ≤ 9223372036854775807 then ((vitrineref20_bytes.f k (a0_7.size : Int) 4).bind fun t158 => (if (((((((t151 ++ t152) ++ t153) ++ t154) ++ t155) ++ a0_4) ++ t156) ++ t157).size + t158.size ≤ 9223372036854775807 then (if ((((((((t151 ++ t152) ++ t153) ++ t154) ++ t155) ++ a0_4) ++ t156) ++ t157) ++ t158).size + a0_7.size ≤ 9223372036854775807 then ((vitrineref20_bytes.f k (l0_8.length : Int) 2).bind fun t159 => (if (((((((((t151 ++ t152) ++ t153) ++ t154) ++ t155) ++ a0_4) ++ t156) ++ t157) ++ t158) ++ a0_7).size + t159.size ≤ 9223372036854775807 then (vitrineref20_Encode.l0 k ((((((((((t151 ++ t152) ++ t153) ++ t154) ++ t155) ++ a0_4) ++ t156) ++ t157) ++ t158) ++ a0_7) ++ t159) 0 a0_0 a0_1 a0_2 a0_3 a0_4 a0_5 a0_6 a0_7 l0_8) else (none))) else (none)) else (none))) else (none))) else (none))) else (none)) else (none))) else (none))) else (none))) else (none))) = some (r1, r2) := H
    have A4 := Aside0.mk A40
    clear A40
    replace H := Option.bind_eq_some_iff.mp H
    obtain ⟨t152, A50, H⟩ := H
    replace H : (if t151.size + t152.size ≤ 9223372036854775807 then ((vitrineref20_bytes.f k a0_2 2).bind fun t153 => (if (t151 ++ t152).size + t153.size ≤ 9223372036854775807 then ((vitrineref20_bytes.f k a0_3 8).bind fun t154 => (if ((t151 ++ t152) ++ t153).size + t154.size ≤ 9223372036854775807 then ((vitrineref20_bytes.f k (a0_4.size : Int) 1).bind fun t155 => (if (((t151 ++ t152) ++ t153) ++ t154).size + t155.size ≤ 9223372036854775807 then (if ((((t151 ++ t152) ++ t153) ++ t154) ++ t155).size + a0_4.size ≤ 9223372036854775807 then ((vitrineref20_bytes.f k a0_5 8).bind fun t156 => (if (((((t151 ++ t152) ++ t153) ++ t154) ++ t155) ++ a0_4).size + t156.size ≤ 9223372036854775807 then ((vitrineref20_bytes.f k a0_6 2).bind fun t157 => (if ((((((t151 ++ t152) ++ t153) ++ t154) ++ t155) ++ a0_4) ++ t156).size + t157.size ≤ 9223372036854775807 then ((vitrineref20_bytes.f k (a0_7.size : Int) 4).bind fun t158 => (if (((((((t151 ++ t152) ++ t153) ++ t154) ++ t155) ++ a0_4) ++ t156) ++ t157).size + t158.size ≤ 9223372036854775807 then (if ((((((((t151 ++ t152) ++ t153) ++ t154) ++ t155) ++ a0_4) ++ t156) ++ t157) ++ t158).size + a0_7.size ≤ 9223372036854775807 then ((vitrineref20_bytes.f k (l0_8.length : Int) 2).bind fun t159 => (if (((((((((t151 ++ t152) ++ t153) ++ t154) ++ t155) ++ a0_4) ++ t156) ++ t157) ++ t158) ++ a0_7).size + t159.size ≤ 9223372036854775807 then (vitrineref20_Encode.l0 k ((((((((((t151 ++ t152) ++ t153) ++ t154) ++ t155) ++ a0_4) ++ t156) ++ t157) ++ t158) ++ a0_7) ++ t159) 0 a0_0 a0_1 a0_2 a0_3 a0_4 a0_5 a0_6 a0_7 l0_8) else (none))) else (none)) else (none))) else (none))) else (none))) else (none)) else (none))) else (none))) else (none))) else (none)) = some (r1, r2) := H
    have A5 := Aside0.mk A50
    clear A50
    by_cases c6 : t151.size + t152.size ≤ 9223372036854775807
    · rw [if_pos c6] at H
      have c6b0 := eq_true c6
      have c6b1 : decide (t151.size + t152.size ≤ 9223372036854775807) = true := decide_eq_true c6
      try have c6b2 : (9223372036854775807 < t151.size + t152.size) = False := eq_false (Nat.not_lt.2 c6)
      replace H := Option.bind_eq_some_iff.mp H
      obtain ⟨t153, A70, H⟩ := H
      replace H : (if (t151 ++ t152).size + t153.size ≤ 9223372036854775807 then ((vitrineref20_bytes.f k a0_3 8).bind fun t154 => (if ((t151 ++ t152) ++ t153).size + t154.size ≤ 9223372036854775807 then ((vitrineref20_bytes.f k (a0_4.size : Int) 1).bind fun t155 => (if (((t151 ++ t152) ++ t153) ++ t154).size + t155.size ≤ 9223372036854775807 then (if ((((t151 ++ t152) ++ t153) ++ t154) ++ t155).size + a0_4.size ≤ 9223372036854775807 then ((vitrineref20_bytes.f k a0_5 8).bind fun t156 => (if (((((t151 ++ t152) ++ t153) ++ t154) ++ t155) ++ a0_4).size + t156.size ≤ 9223372036854775807 then ((vitrineref20_bytes.f k a0_6 2).bind fun t157 => (if ((((((t151 ++ t152) ++ t153) ++ t154) ++ t155) ++ a0_4) ++ t156).size + t157.size ≤ 9223372036854775807 then ((vitrineref20_bytes.f k (a0_7.size : Int) 4).bind fun t158 => (if (((((((t151 ++ t152) ++ t153) ++ t154) ++ t155) ++ a0_4) ++ t156) ++ t157).size + t158.size ≤ 9223372036854775807 then (if ((((((((t151 ++ t152) ++ t153) ++ t154) ++ t155) ++ a0_4) ++ t156) ++ t157) ++ t158).size + a0_7.size ≤ 9223372036854775807 then ((vitrineref20_bytes.f k (l0_8.length : Int) 2).bind fun t159 => (if (((((((((t151 ++ t152) ++ t153) ++ t154) ++ t155) ++ a0_4) ++ t156) ++ t157) ++ t158) ++ a0_7).size + t159.size ≤ 9223372036854775807 then (vitrineref20_Encode.l0 k ((((((((((t151 ++ t152) ++ t153) ++ t154) ++ t155) ++ a0_4) ++ t156) ++ t157) ++ t158) ++ a0_7) ++ t159) 0 a0_0 a0_1 a0_2 a0_3 a0_4 a0_5 a0_6 a0_7 l0_8) else (none))) else (none)) else (none))) else (none))) else (none))) else (none)) else (none))) else (none))) else (none)) = some (r1, r2) := H
      have A7 := Aside0.mk A70
      clear A70
      by_cases c8 : (t151 ++ t152).size + t153.size ≤ 9223372036854775807
      · rw [if_pos c8] at H
        have c8b0 := eq_true c8
        have c8b1 : decide ((t151 ++ t152).size + t153.size ≤ 9223372036854775807) = true := decide_eq_true c8
        try have c8b2 : (9223372036854775807 < (t151 ++ t152).size + t153.size) = False := eq_false (Nat.not_lt.2 c8)
        try (have c8b3 := c8b2; simp only [ByteArray.size_append] at c8b3)
        replace H := Option.bind_eq_some_iff.mp H
        obtain ⟨t154, A90, H⟩ := H
        replace H : (if ((t151 ++ t152) ++ t153).size + t154.size ≤ 9223372036854775807 then ((vitrineref20_bytes.f k (a0_4.size : Int) 1).bind fun t155 => (if (((t151 ++ t152) ++ t153) ++ t154).size + t155.size ≤ 9223372036854775807 then (if ((((t151 ++ t152) ++ t153) ++ t154) ++ t155).size + a0_4.size ≤ 9223372036854775807 then ((vitrineref20_bytes.f k a0_5 8).bind fun t156 => (if (((((t151 ++ t152) ++ t153) ++ t154) ++ t155) ++ a0_4).size + t156.size ≤ 9223372036854775807 then ((vitrineref20_bytes.f k a0_6 2).bind fun t157 => (if ((((((t151 ++ t152) ++ t153) ++ t154) ++ t155) ++ a0_4) ++ t156).size + t157.size ≤ 9223372036854775807 then ((vitrineref20_bytes.f k (a0_7.size : Int) 4).bind fun t158 => (if (((((((t151 ++ t152) ++ t153) ++ t154) ++ t155) ++ a0_4) ++ t156) ++ t157).size + t158.size ≤ 9223372036854775807 then (if ((((((((t151 ++ t152) ++ t153) ++ t154) ++ t155) ++ a0_4) ++ t156) ++ t157) ++ t158).size + a0_7.size ≤ 9223372036854775807 then ((vitrineref20_bytes.f k (l0_8.length : Int) 2).bind fun t159 => (if (((((((((t151 ++ t152) ++ t153) ++ t154) ++ t155) ++ a0_4) ++ t156) ++ t157) ++ t158) ++ a0_7).size + t159.size ≤ 9223372036854775807 then (vitrineref20_Encode.l0 k ((((((((((t151 ++ t152) ++ t153) ++ t154) ++ t155) ++ a0_4) ++ t156) ++ t157) ++ t158) ++ a0_7) ++ t159) 0 a0_0 a0_1 a0_2 a0_3 a0_4 a0_5 a0_6 a0_7 l0_8) else (none))) else (none)) else (none))) else (none))) else (none))) else (none)) else (none))) else (none)) = some (r1, r2) := H
        have A9 := Aside0.mk A90
        clear A90
        by_cases c10 : ((t151 ++ t152) ++ t153).size + t154.size ≤ 9223372036854775807
        · rw [if_pos c10] at H
          have c10b0 := eq_true c10
          have c10b1 : decide (((t151 ++ t152) ++ t153).size + t154.size ≤ 9223372036854775807) = true := decide_eq_true c10
          try have c10b2 : (9223372036854775807 < ((t151 ++ t152) ++ t153).size + t154.size) = False := eq_false (Nat.not_lt.2 c10)
          try (have c10b3 := c10b2; simp only [ByteArray.size_append] at c10b3)
          replace H := Option.bind_eq_some_iff.mp H
          obtain ⟨t155, A110, H⟩ := H
          replace H : (if (((t151 ++ t152) ++ t153) ++ t154).size + t155.size ≤ 9223372036854775807 then (if ((((t151 ++ t152) ++ t153) ++ t154) ++ t155).size + a0_4.size ≤ 9223372036854775807 then ((vitrineref20_bytes.f k a0_5 8).bind fun t156 => (if (((((t151 ++ t152) ++ t153) ++ t154) ++ t155) ++ a0_4).size + t156.size ≤ 9223372036854775807 then ((vitrineref20_bytes.f k a0_6 2).bind fun t157 => (if ((((((t151 ++ t152) ++ t153) ++ t154) ++ t155) ++ a0_4) ++ t156).size + t157.size ≤ 9223372036854775807 then ((vitrineref20_bytes.f k (a0_7.size : Int) 4).bind fun t158 => (if (((((((t151 ++ t152) ++ t153) ++ t154) ++ t155) ++ a0_4) ++ t156) ++ t157).size + t158.size ≤ 9223372036854775807 then (if ((((((((t151 ++ t152) ++ t153) ++ t154) ++ t155) ++ a0_4) ++ t156) ++ t157) ++ t158).size + a0_7.size ≤ 9223372036854775807 then ((vitrineref20_bytes.f k (l0_8.length : Int) 2).bind fun t159 => (if (((((((((t151 ++ t152) ++ t153) ++ t154) ++ t155) ++ a0_4) ++ t156) ++ t157) ++ t158) ++ a0_7).size + t159.size ≤ 9223372036854775807 then (vitrineref20_Encode.l0 k ((((((((((t151 ++ t152) ++ t153) ++ t154) ++ t155) ++ a0_4) ++ t156) ++ t157) ++ t158) ++ a0_7) ++ t159) 0 a0_0 a0_1 a0_2 a0_3 a0_4 a0_5 a0_6 a0_7 l0_8) else (none))) else (none)) else (none))) else (none))) else (none))) else (none)) else (none)) = some (r1, r2) := H
          have A11 := Aside0.mk A110
          clear A110
          by_cases c12 : (((t151 ++ t152) ++ t153) ++ t154).size + t155.size ≤ 9223372036854775807
          · rw [if_pos c12] at H
            have c12b0 := eq_true c12
            have c12b1 : decide ((((t151 ++ t152) ++ t153) ++ t154).size + t155.size ≤ 9223372036854775807) = true := decide_eq_true c12
            try have c12b2 : (9223372036854775807 < (((t151 ++ t152) ++ t153) ++ t154).size + t155.size) = False := eq_false (Nat.not_lt.2 c12)
            try (have c12b3 := c12b2; simp only [ByteArray.size_append] at c12b3)
            by_cases c13 : ((((t151 ++ t152) ++ t153) ++ t154) ++ t155).size + a0_4.size ≤ 9223372036854775807
            · rw [if_pos c13] at H
              have c13b0 := eq_true c13
              have c13b1 : decide (((((t151 ++ t152) ++ t153) ++ t154) ++ t155).size + a0_4.size ≤ 9223372036854775807) = true := decide_eq_true c13
              try have c13b2 : (9223372036854775807 < ((((t151 ++ t152) ++ t153) ++ t154) ++ t155).size + a0_4.size) = False := eq_false (Nat.not_lt.2 c13)
              try (have c13b3 := c13b2; simp only [ByteArray.size_append] at c13b3)
              replace H := Option.bind_eq_some_iff.mp H
              obtain ⟨t156, A140, H⟩ := H
              replace H : (if (((((t151 ++ t152) ++ t153) ++ t154) ++ t155) ++ a0_4).size + t156.size ≤ 9223372036854775807 then ((vitrineref20_bytes.f k a0_6 2).bind fun t157 => (if ((((((t151 ++ t152) ++ t153) ++ t154) ++ t155) ++ a0_4) ++ t156).size + t157.size ≤ 9223372036854775807 then ((vitrineref20_bytes.f k (a0_7.size : Int) 4).bind fun t158 => (if (((((((t151 ++ t152) ++ t153) ++ t154) ++ t155) ++ a0_4) ++ t156) ++ t157).size + t158.size ≤ 9223372036854775807 then (if ((((((((t151 ++ t152) ++ t153) ++ t154) ++ t155) ++ a0_4) ++ t156) ++ t157) ++ t158).size + a0_7.size ≤ 9223372036854775807 then ((vitrineref20_bytes.f k (l0_8.length : Int) 2).bind fun t159 => (if (((((((((t151 ++ t152) ++ t153) ++ t154) ++ t155) ++ a0_4) ++ t156) ++ t157) ++ t158) ++ a0_7).size + t159.size ≤ 9223372036854775807 then (vitrineref20_Encode.l0 k ((((((((((t151 ++ t152) ++ t153) ++ t154) ++ t155) ++ a0_4) ++ t156) ++ t157) ++ t158) ++ a0_7) ++ t159) 0 a0_0 a0_1 a0_2 a0_3 a0_4 a0_5 a0_6 a0_7 l0_8) else (none))) else (none)) else (none))) else (none))) else (none)) = some (r1, r2) := H
              have A14 := Aside0.mk A140
              clear A140
              by_cases c15 : (((((t151 ++ t152) ++ t153) ++ t154) ++ t155) ++ a0_4).size + t156.size ≤ 9223372036854775807
              · rw [if_pos c15] at H
                have c15b0 := eq_true c15
                have c15b1 : decide ((((((t151 ++ t152) ++ t153) ++ t154) ++ t155) ++ a0_4).size + t156.size ≤ 9223372036854775807) = true := decide_eq_true c15
                try have c15b2 : (9223372036854775807 < (((((t151 ++ t152) ++ t153) ++ t154) ++ t155) ++ a0_4).size + t156.size) = False := eq_false (Nat.not_lt.2 c15)
                try (have c15b3 := c15b2; simp only [ByteArray.size_append] at c15b3)
                replace H := Option.bind_eq_some_iff.mp H
                obtain ⟨t157, A160, H⟩ := H
                replace H : (if ((((((t151 ++ t152) ++ t153) ++ t154) ++ t155) ++ a0_4) ++ t156).size + t157.size ≤ 9223372036854775807 then ((vitrineref20_bytes.f k (a0_7.size : Int) 4).bind fun t158 => (if (((((((t151 ++ t152) ++ t153) ++ t154) ++ t155) ++ a0_4) ++ t156) ++ t157).size + t158.size ≤ 9223372036854775807 then (if ((((((((t151 ++ t152) ++ t153) ++ t154) ++ t155) ++ a0_4) ++ t156) ++ t157) ++ t158).size + a0_7.size ≤ 9223372036854775807 then ((vitrineref20_bytes.f k (l0_8.length : Int) 2).bind fun t159 => (if (((((((((t151 ++ t152) ++ t153) ++ t154) ++ t155) ++ a0_4) ++ t156) ++ t157) ++ t158) ++ a0_7).size + t159.size ≤ 9223372036854775807 then (vitrineref20_Encode.l0 k ((((((((((t151 ++ t152) ++ t153) ++ t154) ++ t155) ++ a0_4) ++ t156) ++ t157) ++ t158) ++ a0_7) ++ t159) 0 a0_0 a0_1 a0_2 a0_3 a0_4 a0_5 a0_6 a0_7 l0_8) else (none))) else (none)) else (none))) else (none)) = some (r1, r2) := H
                have A16 := Aside0.mk A160
                clear A160
                by_cases c17 : ((((((t151 ++ t152) ++ t153) ++ t154) ++ t155) ++ a0_4) ++ t156).size + t157.size ≤ 9223372036854775807
                · rw [if_pos c17] at H
                  have c17b0 := eq_true c17
                  have c17b1 : decide (((((((t151 ++ t152) ++ t153) ++ t154) ++ t155) ++ a0_4) ++ t156).size + t157.size ≤ 9223372036854775807) = true := decide_eq_true c17
                  try have c17b2 : (9223372036854775807 < ((((((t151 ++ t152) ++ t153) ++ t154) ++ t155) ++ a0_4) ++ t156).size + t157.size) = False := eq_false (Nat.not_lt.2 c17)
                  try (have c17b3 := c17b2; simp only [ByteArray.size_append] at c17b3)
                  replace H := Option.bind_eq_some_iff.mp H
                  obtain ⟨t158, A180, H⟩ := H
                  replace H : (if (((((((t151 ++ t152) ++ t153) ++ t154) ++ t155) ++ a0_4) ++ t156) ++ t157).size + t158.size ≤ 9223372036854775807 then (if ((((((((t151 ++ t152) ++ t153) ++ t154) ++ t155) ++ a0_4) ++ t156) ++ t157) ++ t158).size + a0_7.size ≤ 9223372036854775807 then ((vitrineref20_bytes.f k (l0_8.length : Int) 2).bind fun t159 => (if (((((((((t151 ++ t152) ++ t153) ++ t154) ++ t155) ++ a0_4) ++ t156) ++ t157) ++ t158) ++ a0_7).size + t159.size ≤ 9223372036854775807 then (vitrineref20_Encode.l0 k ((((((((((t151 ++ t152) ++ t153) ++ t154) ++ t155) ++ a0_4) ++ t156) ++ t157) ++ t158) ++ a0_7) ++ t159) 0 a0_0 a0_1 a0_2 a0_3 a0_4 a0_5 a0_6 a0_7 l0_8) else (none))) else (none)) else (none)) = some (r1, r2) := H
                  have A18 := Aside0.mk A180
                  clear A180
                  by_cases c19 : (((((((t151 ++ t152) ++ t153) ++ t154) ++ t155) ++ a0_4) ++ t156) ++ t157).size + t158.size ≤ 9223372036854775807
                  · rw [if_pos c19] at H
                    have c19b0 := eq_true c19
                    have c19b1 : decide ((((((((t151 ++ t152) ++ t153) ++ t154) ++ t155) ++ a0_4) ++ t156) ++ t157).size + t158.size ≤ 9223372036854775807) = true := decide_eq_true c19
                    try have c19b2 : (9223372036854775807 < (((((((t151 ++ t152) ++ t153) ++ t154) ++ t155) ++ a0_4) ++ t156) ++ t157).size + t158.size) = False := eq_false (Nat.not_lt.2 c19)
                    try (have c19b3 := c19b2; simp only [ByteArray.size_append] at c19b3)
                    by_cases c20 : ((((((((t151 ++ t152) ++ t153) ++ t154) ++ t155) ++ a0_4) ++ t156) ++ t157) ++ t158).size + a0_7.size ≤ 9223372036854775807
                    · rw [if_pos c20] at H
                      have c20b0 := eq_true c20
                      have c20b1 : decide (((((((((t151 ++ t152) ++ t153) ++ t154) ++ t155) ++ a0_4) ++ t156) ++ t157) ++ t158).size + a0_7.size ≤ 9223372036854775807) = true := decide_eq_true c20
                      try have c20b2 : (9223372036854775807 < ((((((((t151 ++ t152) ++ t153) ++ t154) ++ t155) ++ a0_4) ++ t156) ++ t157) ++ t158).size + a0_7.size) = False := eq_false (Nat.not_lt.2 c20)
                      try (have c20b3 := c20b2; simp only [ByteArray.size_append] at c20b3)
                      replace H := Option.bind_eq_some_iff.mp H
                      obtain ⟨t159, A210, H⟩ := H
                      replace H : (if (((((((((t151 ++ t152) ++ t153) ++ t154) ++ t155) ++ a0_4) ++ t156) ++ t157) ++ t158) ++ a0_7).size + t159.size ≤ 9223372036854775807 then (vitrineref20_Encode.l0 k ((((((((((t151 ++ t152) ++ t153) ++ t154) ++ t155) ++ a0_4) ++ t156) ++ t157) ++ t158) ++ a0_7) ++ t159) 0 a0_0 a0_1 a0_2 a0_3 a0_4 a0_5 a0_6 a0_7 l0_8) else (none)) = some (r1, r2) := H
                      have A21 := Aside0.mk A210
                      clear A210
                      by_cases c22 : (((((((((t151 ++ t152) ++ t153) ++ t154) ++ t155) ++ a0_4) ++ t156) ++ t157) ++ t158) ++ a0_7).size + t159.size ≤ 9223372036854775807
                      · rw [if_pos c22] at H
                        have c22b0 := eq_true c22
                        have c22b1 : decide ((((((((((t151 ++ t152) ++ t153) ++ t154) ++ t155) ++ a0_4) ++ t156) ++ t157) ++ t158) ++ a0_7).size + t159.size ≤ 9223372036854775807) = true := decide_eq_true c22
                        try have c22b2 : (9223372036854775807 < (((((((((t151 ++ t152) ++ t153) ++ t154) ++ t155) ++ a0_4) ++ t156) ++ t157) ++ t158) ++ a0_7).size + t159.size) = False := eq_false (Nat.not_lt.2 c22)
                        try (have c22b3 := c22b2; simp only [ByteArray.size_append] at c22b3)
                        have H' := Aside0.mk H
                        clear H
                        go_enter Try.func12, Try.ntmps12
                        try go_wp2_with (first | ((with_reducible refine gate_dst (N := 1) rfl ?_); refine box_event ?hg (N := 1) ?hd (cs := #[.int .i64 a0_0, .int .i64 a0_1, .int .i64 a0_2, .int .i64 a0_3, .string a0_4, .int .i64 a0_5, .int .i64 a0_6, .string a0_7, .slice A0_8 l0_8.length c0_8]) (t := 26) ?hr ?_; (case hd => rfl); (case hg => rfl); (case hr => first | (go_simp; done) | (go_simp; rfl)); intro gb149 hg w23 hbox hb; have n0_ := Aside0.mk (below_step (by repeat (first | (with_reducible first | exact HB.out | apply below_alloc | apply pw_below_drewN | apply below_drew1) | exact HB.out)) hb); have n1_ := Aside0.mk (hbox); have n2_ := Aside0.mk ((by rw [hg]; exact (below_size (by repeat (first | (with_reducible first | exact HB.out | apply below_alloc | apply pw_below_drewN | apply below_drew1) | exact HB.out))) : w.heap.size ≤ gb149)); have n3_ := Aside0.mk ((by rw [hg]; exact (below_size (by repeat (first | (with_reducible first | exact HB.out | apply below_alloc | apply pw_below_drewN | apply below_drew1) | exact HB.out))) : w.heap.size ≤ gb149)); clear HB; have HB := n0_; have BK149 := n1_; have GW149 := n2_; have GE149 := n3_; clear n0_ n1_ n2_ n3_; clear hb hbox hg; have hcz24_0 : w23.cell? ⟨gb149, 0, none⟩ = some (.int .i64 a0_0) := (blk_cell BK149.out 0).trans rfl; have hcz24_1 : w23.cell? ⟨gb149, 1, none⟩ = some (.int .i64 a0_1) := (blk_cell BK149.out 1).trans rfl; have hcz24_2 : w23.cell? ⟨gb149, 2, none⟩ = some (.int .i64 a0_2) := (blk_cell BK149.out 2).trans rfl; have hcz24_3 : w23.cell? ⟨gb149, 3, none⟩ = some (.int .i64 a0_3) := (blk_cell BK149.out 3).trans rfl; have hcz24_4 : w23.cell? ⟨gb149, 4, none⟩ = some (.string a0_4) := (blk_cell BK149.out 4).trans rfl; have hcz24_5 : w23.cell? ⟨gb149, 5, none⟩ = some (.int .i64 a0_5) := (blk_cell BK149.out 5).trans rfl; have hcz24_6 : w23.cell? ⟨gb149, 6, none⟩ = some (.int .i64 a0_6) := (blk_cell BK149.out 6).trans rfl; have hcz24_7 : w23.cell? ⟨gb149, 7, none⟩ = some (.string a0_7) := (blk_cell BK149.out 7).trans rfl; have hcz24_8 : w23.cell? ⟨gb149, 8, none⟩ = some (.slice A0_8 l0_8.length c0_8) := (blk_cell BK149.out 8).trans rfl; have hfz24_0 := blk_frozen BK149.out 0; have hfz24_1 := blk_frozen BK149.out 1; have hfz24_2 := blk_frozen BK149.out 2; have hfz24_3 := blk_frozen BK149.out 3; have hfz24_4 := blk_frozen BK149.out 4; have hfz24_5 := blk_frozen BK149.out 5; have hfz24_6 := blk_frozen BK149.out 6; have hfz24_7 := blk_frozen BK149.out 7; have hfz24_8 := blk_frozen BK149.out 8) | ((with_reducible refine gate_callee (f := 22) rfl ?_); refine goesL_ (some 7) rfl rfl Try.func22 (by kernel_rfl) rfl #[.agg #[.int .i64 a0_0, .int .i64 a0_1, .int .i64 a0_2, .int .i64 a0_3, .string a0_4, .int .i64 a0_5, .int .i64 a0_6, .string a0_7, .slice A0_8 l0_8.length c0_8]] rfl (by (try simp only [List.map_toArray, List.map_cons, List.map_nil]); first | done | rfl | (simp only [List.length_drop, List.length_take]; rfl) | (simp only [ByteArray.size_extract, Nat.min_self]; done) | (simp only [ByteArray.size_extract, Nat.min_self]; rfl)) ?_; (with_reducible refine (vitrineref20_Right.calls k a0_0 a0_1 a0_2 a0_3 a0_4 a0_5 a0_6 a0_7 _ _ l0_8 true _ ?side1 ?side2 A2.out).mono ?_); (case side1 => repeat (first | exact (Kd.C_below HR0_8.out HB.out) | (with_reducible refine Kd.C_alloc ?_ _) | (with_reducible refine Kd.C_drewN ?_ _) | (with_reducible refine Kd.C_drew ?_))); (case side2 => exact HC0_8.out); rintro e w25 ⟨rfl, hb⟩; refine ⟨_, rfl, ?_⟩; have n0_ := Aside0.mk (blk_below (g := gb149) (o := .cells #[.int .i64 a0_0, .int .i64 a0_1, .int .i64 a0_2, .int .i64 a0_3, .string a0_4, .int .i64 a0_5, .int .i64 a0_6, .string a0_7, .slice A0_8 l0_8.length c0_8] 26 (0, 0)) (by (with_reducible repeat (first | refine blk_drewN ?_ _ | refine blk_drew ?_ | refine blk_alloc ?_ _)); exact BK149.out) hb); have n1_ := Aside0.mk (below_step (by repeat (first | (with_reducible first | exact HB.out | apply below_alloc | apply pw_below_drewN | apply below_drew1 | refine below_set ?_ GE149.out) | exact HB.out)) hb); clear BK149; clear HB; have BK149 := n0_; have HB := n1_; clear n0_ n1_; (try clear hb); (try clear hb2); (try clear hk); (try clear hi)))
                        have n0_ := Aside0.mk (blk_drew BK149.out)
                        have n1_ := Aside0.mk (below_drew1 HB.out)
                        clear BK149
                        clear HB
                        have BK149 := n0_
                        have HB := n1_
                        clear n0_ n1_
                        refine start_ (n := 47) (S := fun w' => w'.cell? ⟨gb149, 0, none⟩ = some (.int .i64 a0_0) ∧ w'.cell? ⟨gb149, 1, none⟩ = some (.int .i64 a0_1) ∧ w'.cell? ⟨gb149, 2, none⟩ = some (.int .i64 a0_2) ∧ w'.cell? ⟨gb149, 3, none⟩ = some (.int .i64 a0_3) ∧ w'.cell? ⟨gb149, 4, none⟩ = some (.string a0_4) ∧ w'.cell? ⟨gb149, 5, none⟩ = some (.int .i64 a0_5) ∧ w'.cell? ⟨gb149, 6, none⟩ = some (.int .i64 a0_6) ∧ w'.cell? ⟨gb149, 7, none⟩ = some (.string a0_7) ∧ w'.cell? ⟨gb149, 8, none⟩ = some (.slice A0_8 l0_8.length c0_8)) (ds := []) #[false, false, false, false, false, false, false, false, false, false, false, false, false, false, false, false, false, false, false, false, false, false, false, false, false, false, false, false, false, false, false, false, false, false, false, false, false, false, false, false, false, false, false, false, false, false, false] (by kernel_rfl) rfl rfl ⟨(blk_cell BK149.out 0).trans rfl, (blk_cell BK149.out 1).trans rfl, (blk_cell BK149.out 2).trans rfl, (blk_cell BK149.out 3).trans rfl, (blk_cell BK149.out 4).trans rfl, (blk_cell BK149.out 5).trans rfl, (blk_cell BK149.out 6).trans rfl, (blk_cell BK149.out 7).trans rfl, (blk_cell BK149.out 8).trans rfl⟩ (fun hHeld => ?_); refine with_tabW vitrineref20_Encode.tab3 vitrineref20_Encode.bits3 (fun HT_ HW_ => ?_)
                        generalize w25.drew = w26 at BK149 HB hHeld ⊢
                        refine pure_ (i := 0) (N := some 9) (v := ?_) (a' := ?_) #[true, false, false, false, false, false, false, false, false, false, false, false, false, false, false, false, false, false, false, false, false, false, false, false, false, false, false, false, false, false, false, false, false, false, false, false, false, false, false, false, false, false, false, false, false, false, false] rfl rfl (any_of HT_.out (by kernel_rfl)) (fun _ _ _ h => h) (Or.inl ⟨by rfl, ?_⟩) ?_ ?_
                        rotate_left
                        · intro w'
                          go_simp
                          with_reducible rfl
                        rotate_left
                        · simp only [Act.put, List.setIfInBounds_toArray, List.set_cons_zero, List.set_cons_succ, i64_w, i32_w]
                          rfl
                        refine pure_ (i := 3) (N := some 12) (v := ?_) (a' := ?_) #[true, false, false, true, false, false, false, false, false, false, false, false, false, false, false, false, false, false, false, false, false, false, false, false, false, false, false, false, false, false, false, false, false, false, false, false, false, false, false, false, false, false, false, false, false, false, false] rfl rfl (any_of HT_.out (by kernel_rfl)) (fun _ _ _ h => h) (Or.inl ⟨by rfl, ?_⟩) ?_ ?_
                        rotate_left
                        · intro w'
                          go_simp
                          with_reducible rfl
                        rotate_left
                        · simp only [Act.put, List.setIfInBounds_toArray, List.set_cons_zero, List.set_cons_succ, i64_w, i32_w]
                          rfl
                        refine pure_ (i := 7) (N := some 16) (v := ?_) (a' := ?_) #[true, false, false, true, false, false, false, true, false, false, false, false, false, false, false, false, false, false, false, false, false, false, false, false, false, false, false, false, false, false, false, false, false, false, false, false, false, false, false, false, false, false, false, false, false, false, false] rfl rfl (any_of HT_.out (by kernel_rfl)) (fun _ _ _ h => h) (Or.inl ⟨by rfl, ?_⟩) ?_ ?_
                        rotate_left
                        · intro w'
                          go_simp
                          with_reducible rfl
                        rotate_left
                        · simp only [Act.put, List.setIfInBounds_toArray, List.set_cons_zero, List.set_cons_succ, i64_w, i32_w]
                          rfl
                        refine pure_ (i := 11) (N := some 20) (v := ?_) (a' := ?_) #[true, false, false, true, false, false, false, true, false, false, false, true, false, false, false, false, false, false, false, false, false, false, false, false, false, false, false, false, false, false, false, false, false, false, false, false, false, false, false, false, false, false, false, false, false, false, false] rfl rfl (any_of HT_.out (by kernel_rfl)) (fun _ _ _ h => h) (Or.inl ⟨by rfl, ?_⟩) ?_ ?_
                        rotate_left
                        · intro w'
                          go_simp
                          with_reducible rfl
                        rotate_left
                        · simp only [Act.put, List.setIfInBounds_toArray, List.set_cons_zero, List.set_cons_succ, i64_w, i32_w]
                          rfl
                        refine pure_ (i := 15) (N := some 24) (v := ?_) (a' := ?_) #[true, false, false, true, false, false, false, true, false, false, false, true, false, false, false, true, false, false, false, false, false, false, false, false, false, false, false, false, false, false, false, false, false, false, false, false, false, false, false, false, false, false, false, false, false, false, false] rfl rfl (any_of HT_.out (by kernel_rfl)) (fun _ _ _ h => h) (Or.inl ⟨by rfl, ?_⟩) ?_ ?_
                        rotate_left
                        · intro w'
                          go_simp
                          with_reducible rfl
                        rotate_left
                        · simp only [Act.put, List.setIfInBounds_toArray, List.set_cons_zero, List.set_cons_succ, i64_w, i32_w]
                          rfl
                        refine pure_ (i := 20) (N := some 29) (v := ?_) (a' := ?_) #[true, false, false, true, false, false, false, true, false, false, false, true, false, false, false, true, false, false, false, false, true, false, false, false, false, false, false, false, false, false, false, false, false, false, false, false, false, false, false, false, false, false, false, false, false, false, false] rfl rfl (any_of HT_.out (by kernel_rfl)) (fun _ _ _ h => h) (Or.inl ⟨by rfl, ?_⟩) ?_ ?_
                        rotate_left
                        · intro w'
                          go_simp
                          with_reducible rfl
                        rotate_left
                        · simp only [Act.put, List.setIfInBounds_toArray, List.set_cons_zero, List.set_cons_succ, i64_w, i32_w]
                          rfl
                        refine pure_ (i := 23) (N := some 32) (v := ?_) (a' := ?_) #[true, false, false, true, false, false, false, true, false, false, false, true, false, false, false, true, false, false, false, false, true, false, false, true, false, false, false, false, false, false, false, false, false, false, false, false, false, false, false, false, false, false, false, false, false, false, false] rfl rfl (any_of HT_.out (by kernel_rfl)) (fun _ _ _ h => h) (Or.inl ⟨by rfl, ?_⟩) ?_ ?_
                        rotate_left
                        · intro w'
                          go_simp
                          with_reducible rfl
                        rotate_left
                        · simp only [Act.put, List.setIfInBounds_toArray, List.set_cons_zero, List.set_cons_succ, i64_w, i32_w]
                          rfl
                        refine pure_ (i := 24) (N := some 33) (v := ?_) (a' := ?_) #[true, false, false, true, false, false, false, true, false, false, false, true, false, false, false, true, false, false, false, false, true, false, false, true, true, false, false, false, false, false, false, false, false, false, false, false, false, false, false, false, false, false, false, false, false, false, false] rfl rfl (any_of HT_.out (by kernel_rfl)) (fun _ _ _ h => h) (Or.inl ⟨by rfl, ?_⟩) ?_ ?_
                        rotate_left
                        · intro w'
                          go_simp
                          with_reducible rfl
                        rotate_left
                        · simp only [Act.put, List.setIfInBounds_toArray, List.set_cons_zero, List.set_cons_succ, i64_w, i32_w]
                          rfl
                        refine pure_ (i := 28) (N := some 37) (v := ?_) (a' := ?_) #[true, false, false, true, false, false, false, true, false, false, false, true, false, false, false, true, false, false, false, false, true, false, false, true, true, false, false, false, true, false, false, false, false, false, false, false, false, false, false, false, false, false, false, false, false, false, false] rfl rfl (any_of HT_.out (by kernel_rfl)) (fun _ _ _ h => h) (Or.inl ⟨by rfl, ?_⟩) ?_ ?_
                        rotate_left
                        · intro w'
                          go_simp
                          with_reducible rfl
                        rotate_left
                        · simp only [Act.put, List.setIfInBounds_toArray, List.set_cons_zero, List.set_cons_succ, i64_w, i32_w]
                          rfl
                        refine pure_ (i := 29) (N := some 38) (v := ?_) (a' := ?_) #[true, false, false, true, false, false, false, true, false, false, false, true, false, false, false, true, false, false, false, false, true, false, false, true, true, false, false, false, true, true, false, false, false, false, false, false, false, false, false, false, false, false, false, false, false, false, false] rfl rfl (any_of HT_.out (by kernel_rfl)) (fun _ _ _ h => h) (Or.inl ⟨by rfl, ?_⟩) ?_ ?_
                        rotate_left
                        · intro w'
                          go_simp
                          with_reducible rfl
                        rotate_left
                        · simp only [Act.put, List.setIfInBounds_toArray, List.set_cons_zero, List.set_cons_succ, i64_w, i32_w]
                          rfl
                        refine pure_ (i := 33) (N := some 42) (v := ?_) (a' := ?_) #[true, false, false, true, false, false, false, true, false, false, false, true, false, false, false, true, false, false, false, false, true, false, false, true, true, false, false, false, true, true, false, false, false, true, false, false, false, false, false, false, false, false, false, false, false, false, false] rfl rfl (any_of HT_.out (by kernel_rfl)) (fun _ _ _ h => h) (Or.inl ⟨by rfl, ?_⟩) ?_ ?_
                        rotate_left
                        · intro w'
                          go_simp
                          with_reducible rfl
                        rotate_left
                        · simp only [Act.put, List.setIfInBounds_toArray, List.set_cons_zero, List.set_cons_succ, i64_w, i32_w]
                          rfl
                        refine pure_ (i := 38) (N := some 47) (v := ?_) (a' := ?_) #[true, false, false, true, false, false, false, true, false, false, false, true, false, false, false, true, false, false, false, false, true, false, false, true, true, false, false, false, true, true, false, false, false, true, false, false, false, false, true, false, false, false, false, false, false, false, false] rfl rfl (any_of HT_.out (by kernel_rfl)) (fun _ _ _ h => h) (Or.inl ⟨by rfl, ?_⟩) ?_ ?_
                        rotate_left
                        · intro w'
                          go_simp
                          with_reducible rfl
                        rotate_left
                        · simp only [Act.put, List.setIfInBounds_toArray, List.set_cons_zero, List.set_cons_succ, i64_w, i32_w]
                          rfl
                        refine pure_ (i := 41) (N := some 50) (v := ?_) (a' := ?_) #[true, false, false, true, false, false, false, true, false, false, false, true, false, false, false, true, false, false, false, false, true, false, false, true, true, false, false, false, true, true, false, false, false, true, false, false, false, false, true, false, false, true, false, false, false, false, false] rfl rfl (any_of HT_.out (by kernel_rfl)) (fun _ _ _ h => h) (Or.inl ⟨by rfl, ?_⟩) ?_ ?_
                        rotate_left
                        · intro w'
                          go_simp
                          with_reducible rfl
                        rotate_left
                        · simp only [Act.put, List.setIfInBounds_toArray, List.set_cons_zero, List.set_cons_succ, i64_w, i32_w]
                          rfl
                        refine take_ (i := 1) (N := some 10) (v := ?_) (a' := ?_) #[true, true, false, true, false, false, false, true, false, false, false, true, false, false, false, true, false, false, false, false, true, false, false, true, true, false, false, false, true, true, false, false, false, true, false, false, false, false, true, false, false, true, false, false, false, false, false] rfl rfl (take_ofW HT_.out HW_.out (by kernel_rfl)) (fun _ _ _ h => h) (Or.inl ⟨by rfl, ?_⟩) hHeld ?_ ?_
                        rotate_left
                        · rintro w' ⟨s0, s1, s2, s3, s4, s5, s6, s7, s8⟩
                          go_simp
                          with_reducible rfl
                        rotate_left
                        · simp only [Act.put, List.setIfInBounds_toArray, List.set_cons_zero, List.set_cons_succ, i64_w, i32_w]
                          rfl
                        refine take_ (i := 4) (N := some 13) (v := ?_) (a' := ?_) #[true, true, false, true, true, false, false, true, false, false, false, true, false, false, false, true, false, false, false, false, true, false, false, true, true, false, false, false, true, true, false, false, false, true, false, false, false, false, true, false, false, true, false, false, false, false, false] rfl rfl (take_ofW HT_.out HW_.out (by kernel_rfl)) (fun _ _ _ h => h) (Or.inl ⟨by rfl, ?_⟩) hHeld ?_ ?_
                        rotate_left
                        · rintro w' ⟨s0, s1, s2, s3, s4, s5, s6, s7, s8⟩
                          go_simp
                          with_reducible rfl
                        rotate_left
                        · simp only [Act.put, List.setIfInBounds_toArray, List.set_cons_zero, List.set_cons_succ, i64_w, i32_w]
                          rfl
                        refine take_ (i := 8) (N := some 17) (v := ?_) (a' := ?_) #[true, true, false, true, true, false, false, true, true, false, false, true, false, false, false, true, false, false, false, false, true, false, false, true, true, false, false, false, true, true, false, false, false, true, false, false, false, false, true, false, false, true, false, false, false, false, false] rfl rfl (take_ofW HT_.out HW_.out (by kernel_rfl)) (fun _ _ _ h => h) (Or.inl ⟨by rfl, ?_⟩) hHeld ?_ ?_
                        rotate_left
                        · rintro w' ⟨s0, s1, s2, s3, s4, s5, s6, s7, s8⟩
                          go_simp
                          with_reducible rfl
                        rotate_left
                        · simp only [Act.put, List.setIfInBounds_toArray, List.set_cons_zero, List.set_cons_succ, i64_w, i32_w]
                          rfl
                        refine take_ (i := 12) (N := some 21) (v := ?_) (a' := ?_) #[true, true, false, true, true, false, false, true, true, false, false, true, true, false, false, true, false, false, false, false, true, false, false, true, true, false, false, false, true, true, false, false, false, true, false, false, false, false, true, false, false, true, false, false, false, false, false] rfl rfl (take_ofW HT_.out HW_.out (by kernel_rfl)) (fun _ _ _ h => h) (Or.inl ⟨by rfl, ?_⟩) hHeld ?_ ?_
                        rotate_left
                        · rintro w' ⟨s0, s1, s2, s3, s4, s5, s6, s7, s8⟩
                          go_simp
                          with_reducible rfl
                        rotate_left
                        · simp only [Act.put, List.setIfInBounds_toArray, List.set_cons_zero, List.set_cons_succ, i64_w, i32_w]
                          rfl
                        refine take_ (i := 16) (N := some 25) (v := ?_) (a' := ?_) #[true, true, false, true, true, false, false, true, true, false, false, true, true, false, false, true, true, false, false, false, true, false, false, true, true, false, false, false, true, true, false, false, false, true, false, false, false, false, true, false, false, true, false, false, false, false, false] rfl rfl (take_ofW HT_.out HW_.out (by kernel_rfl)) (fun _ _ _ h => h) (Or.inl ⟨by rfl, ?_⟩) hHeld ?_ ?_
                        rotate_left
                        · rintro w' ⟨s0, s1, s2, s3, s4, s5, s6, s7, s8⟩
                          go_simp
                          with_reducible rfl
                        rotate_left
                        · simp only [Act.put, List.setIfInBounds_toArray, List.set_cons_zero, List.set_cons_succ, i64_w, i32_w]
                          rfl
                        refine pure_ (i := 17) (N := some 26) (v := ?_) (a' := ?_) #[true, true, false, true, true, false, false, true, true, false, false, true, true, false, false, true, true, true, false, false, true, false, false, true, true, false, false, false, true, true, false, false, false, true, false, false, false, false, true, false, false, true, false, false, false, false, false] rfl rfl (any_of HT_.out (by kernel_rfl)) (fun _ _ _ h => h) (Or.inl ⟨by rfl, ?_⟩) ?_ ?_
                        rotate_left
                        · intro w'
                          go_simp
                          with_reducible rfl
                        rotate_left
                        · simp only [Act.put, List.setIfInBounds_toArray, List.set_cons_zero, List.set_cons_succ, i64_w, i32_w]
                          rfl
                        refine take_ (i := 21) (N := some 30) (v := ?_) (a' := ?_) #[true, true, false, true, true, false, false, true, true, false, false, true, true, false, false, true, true, true, false, false, true, true, false, true, true, false, false, false, true, true, false, false, false, true, false, false, false, false, true, false, false, true, false, false, false, false, false] rfl rfl (take_ofW HT_.out HW_.out (by kernel_rfl)) (fun _ _ _ h => h) (Or.inl ⟨by rfl, ?_⟩) hHeld ?_ ?_
                        rotate_left
                        · rintro w' ⟨s0, s1, s2, s3, s4, s5, s6, s7, s8⟩
                          go_simp
                          with_reducible rfl
                        rotate_left
                        · simp only [Act.put, List.setIfInBounds_toArray, List.set_cons_zero, List.set_cons_succ, i64_w, i32_w]
                          rfl
                        refine take_ (i := 25) (N := some 34) (v := ?_) (a' := ?_) #[true, true, false, true, true, false, false, true, true, false, false, true, true, false, false, true, true, true, false, false, true, true, false, true, true, true, false, false, true, true, false, false, false, true, false, false, false, false, true, false, false, true, false, false, false, false, false] rfl rfl (take_ofW HT_.out HW_.out (by kernel_rfl)) (fun _ _ _ h => h) (Or.inl ⟨by rfl, ?_⟩) hHeld ?_ ?_
                        rotate_left
                        · rintro w' ⟨s0, s1, s2, s3, s4, s5, s6, s7, s8⟩
                          go_simp
                          with_reducible rfl
                        rotate_left
                        · simp only [Act.put, List.setIfInBounds_toArray, List.set_cons_zero, List.set_cons_succ, i64_w, i32_w]
                          rfl
                        refine take_ (i := 30) (N := some 39) (v := ?_) (a' := ?_) #[true, true, false, true, true, false, false, true, true, false, false, true, true, false, false, true, true, true, false, false, true, true, false, true, true, true, false, false, true, true, true, false, false, true, false, false, false, false, true, false, false, true, false, false, false, false, false] rfl rfl (take_ofW HT_.out HW_.out (by kernel_rfl)) (fun _ _ _ h => h) (Or.inl ⟨by rfl, ?_⟩) hHeld ?_ ?_
                        rotate_left
                        · rintro w' ⟨s0, s1, s2, s3, s4, s5, s6, s7, s8⟩
                          go_simp
                          with_reducible rfl
                        rotate_left
                        · simp only [Act.put, List.setIfInBounds_toArray, List.set_cons_zero, List.set_cons_succ, i64_w, i32_w]
                          rfl
                        refine take_ (i := 34) (N := some 43) (v := ?_) (a' := ?_) #[true, true, false, true, true, false, false, true, true, false, false, true, true, false, false, true, true, true, false, false, true, true, false, true, true, true, false, false, true, true, true, false, false, true, true, false, false, false, true, false, false, true, false, false, false, false, false] rfl rfl (take_ofW HT_.out HW_.out (by kernel_rfl)) (fun _ _ _ h => h) (Or.inl ⟨by rfl, ?_⟩) hHeld ?_ ?_
                        rotate_left
                        · rintro w' ⟨s0, s1, s2, s3, s4, s5, s6, s7, s8⟩
                          go_simp
                          with_reducible rfl
                        rotate_left
                        · simp only [Act.put, List.setIfInBounds_toArray, List.set_cons_zero, List.set_cons_succ, i64_w, i32_w]
                          rfl
                        refine pure_ (i := 35) (N := some 44) (v := ?_) (a' := ?_) #[true, true, false, true, true, false, false, true, true, false, false, true, true, false, false, true, true, true, false, false, true, true, false, true, true, true, false, false, true, true, true, false, false, true, true, true, false, false, true, false, false, true, false, false, false, false, false] rfl rfl (any_of HT_.out (by kernel_rfl)) (fun _ _ _ h => h) (Or.inl ⟨by rfl, ?_⟩) ?_ ?_
                        rotate_left
                        · intro w'
                          go_simp
                          with_reducible rfl
                        rotate_left
                        · simp only [Act.put, List.setIfInBounds_toArray, List.set_cons_zero, List.set_cons_succ, i64_w, i32_w]
                          rfl
                        refine take_ (i := 39) (N := some 48) (v := ?_) (a' := ?_) #[true, true, false, true, true, false, false, true, true, false, false, true, true, false, false, true, true, true, false, false, true, true, false, true, true, true, false, false, true, true, true, false, false, true, true, true, false, false, true, true, false, true, false, false, false, false, false] rfl rfl (take_ofW HT_.out HW_.out (by kernel_rfl)) (fun _ _ _ h => h) (Or.inl ⟨by rfl, ?_⟩) hHeld ?_ ?_
                        rotate_left
                        · rintro w' ⟨s0, s1, s2, s3, s4, s5, s6, s7, s8⟩
                          go_simp
                          with_reducible rfl
                        rotate_left
                        · simp only [Act.put, List.setIfInBounds_toArray, List.set_cons_zero, List.set_cons_succ, i64_w, i32_w]
                          rfl
                        refine take_ (i := 42) (N := some 51) (v := ?_) (a' := ?_) #[true, true, false, true, true, false, false, true, true, false, false, true, true, false, false, true, true, true, false, false, true, true, false, true, true, true, false, false, true, true, true, false, false, true, true, true, false, false, true, true, false, true, true, false, false, false, false] rfl rfl (take_ofW HT_.out HW_.out (by kernel_rfl)) (fun _ _ _ h => h) (Or.inl ⟨by rfl, ?_⟩) hHeld ?_ ?_
                        rotate_left
                        · rintro w' ⟨s0, s1, s2, s3, s4, s5, s6, s7, s8⟩
                          go_simp
                          with_reducible rfl
                        rotate_left
                        · simp only [Act.put, List.setIfInBounds_toArray, List.set_cons_zero, List.set_cons_succ, i64_w, i32_w]
                          rfl
                        refine pure_ (i := 43) (N := some 52) (v := ?_) (a' := ?_) #[true, true, false, true, true, false, false, true, true, false, false, true, true, false, false, true, true, true, false, false, true, true, false, true, true, true, false, false, true, true, true, false, false, true, true, true, false, false, true, true, false, true, true, true, false, false, false] rfl rfl (any_of HT_.out (by kernel_rfl)) (fun _ _ _ h => h) (Or.inl ⟨by rfl, ?_⟩) ?_ ?_
                        rotate_left
                        · intro w'
                          go_simp
                          with_reducible rfl
                        rotate_left
                        · simp only [Act.put, List.setIfInBounds_toArray, List.set_cons_zero, List.set_cons_succ, i64_w, i32_w]
                          rfl
                        refine one_ (i := 2) (N := some 11) #[true, true, true, true, true, false, false, true, true, false, false, true, true, false, false, true, true, true, false, false, true, true, false, true, true, true, false, false, true, true, true, false, false, true, true, true, false, false, true, true, false, true, true, true, false, false, false] rfl rfl (one_of HT_.out (by kernel_rfl)) (by decide) (fun K hK => ?_)
                        refine goes_ Try.func23 (by kernel_rfl) rfl #[.int .i64 a0_0, .int .i64 1] (by rfl) rfl rfl (by (try simp only [List.map_toArray, List.map_cons, List.map_nil]); first | done | rfl | (simp only [List.length_drop, List.length_take]; rfl) | (simp only [ByteArray.size_extract, Nat.min_self]; done) | (simp only [ByteArray.size_extract, Nat.min_self]; rfl)) ?_
                        with_reducible refine (vitrineref20_bytes.calls k a0_0 1 t151 _ A4.out).mono ?_
                        rintro e w27 ⟨rfl, hb⟩
                        refine ⟨_, rfl, ?_⟩
                        have n0_ := Aside0.mk (blk_below (g := gb149) (o := .cells #[.int .i64 a0_0, .int .i64 a0_1, .int .i64 a0_2, .int .i64 a0_3, .string a0_4, .int .i64 a0_5, .int .i64 a0_6, .string a0_7, .slice A0_8 l0_8.length c0_8] 26 (0, 0)) (by (with_reducible repeat (first | refine blk_drewN ?_ _ | refine blk_drew ?_ | refine blk_alloc ?_ _)); exact BK149.out) hb)
                        have n1_ := Aside0.mk (below_step (by repeat (first | (with_reducible first | exact HB.out | apply below_alloc | apply pw_below_drewN | apply below_drew1 | refine below_set ?_ GE149.out) | exact HB.out)) hb)
                        clear BK149
                        clear HB
                        have BK149 := n0_
                        have HB := n1_
                        clear n0_ n1_
                        (try clear hb)
                        (try clear hb2)
                        (try clear hk)
                        (try clear hi)
                        refine hK.out _ _ ⟨(blk_cell BK149.out 0).trans rfl, (blk_cell BK149.out 1).trans rfl, (blk_cell BK149.out 2).trans rfl, (blk_cell BK149.out 3).trans rfl, (blk_cell BK149.out 4).trans rfl, (blk_cell BK149.out 5).trans rfl, (blk_cell BK149.out 6).trans rfl, (blk_cell BK149.out 7).trans rfl, (blk_cell BK149.out 8).trans rfl⟩ (fun hHeld => ?_)
                        clear hK K
                        refine norm_ (a' := ?_) ?_ ?_
                        rotate_left
                        · show Act.put _ (some 11) _ = _
                          simp only [Act.put, List.setIfInBounds_toArray, List.set_cons_zero, List.set_cons_succ, i64_w, i32_w]
                          rfl
                        refine one_ (i := 5) (N := some 14) #[true, true, true, true, true, true, false, true, true, false, false, true, true, false, false, true, true, true, false, false, true, true, false, true, true, true, false, false, true, true, true, false, false, true, true, true, false, false, true, true, false, true, true, true, false, false, false] rfl rfl (one_of HT_.out (by kernel_rfl)) (by decide) (fun K hK => ?_)
                        refine goes_ Try.func23 (by kernel_rfl) rfl #[.int .i64 a0_1, .int .i64 2] (by rfl) rfl rfl (by (try simp only [List.map_toArray, List.map_cons, List.map_nil]); first | done | rfl | (simp only [List.length_drop, List.length_take]; rfl) | (simp only [ByteArray.size_extract, Nat.min_self]; done) | (simp only [ByteArray.size_extract, Nat.min_self]; rfl)) ?_
                        with_reducible refine (vitrineref20_bytes.calls k a0_1 2 t152 _ A5.out).mono ?_
                        rintro e w28 ⟨rfl, hb⟩
                        refine ⟨_, rfl, ?_⟩
                        have n0_ := Aside0.mk (blk_below (g := gb149) (o := .cells #[.int .i64 a0_0, .int .i64 a0_1, .int .i64 a0_2, .int .i64 a0_3, .string a0_4, .int .i64 a0_5, .int .i64 a0_6, .string a0_7, .slice A0_8 l0_8.length c0_8] 26 (0, 0)) (by (with_reducible repeat (first | refine blk_drewN ?_ _ | refine blk_drew ?_ | refine blk_alloc ?_ _)); exact BK149.out) hb)
                        have n1_ := Aside0.mk (below_step (by repeat (first | (with_reducible first | exact HB.out | apply below_alloc | apply pw_below_drewN | apply below_drew1 | refine below_set ?_ GE149.out) | exact HB.out)) hb)
                        clear BK149
                        clear HB
                        have BK149 := n0_
                        have HB := n1_
                        clear n0_ n1_
                        (try clear hb)
                        (try clear hb2)
                        (try clear hk)
                        (try clear hi)
                        refine hK.out _ _ ⟨(blk_cell BK149.out 0).trans rfl, (blk_cell BK149.out 1).trans rfl, (blk_cell BK149.out 2).trans rfl, (blk_cell BK149.out 3).trans rfl, (blk_cell BK149.out 4).trans rfl, (blk_cell BK149.out 5).trans rfl, (blk_cell BK149.out 6).trans rfl, (blk_cell BK149.out 7).trans rfl, (blk_cell BK149.out 8).trans rfl⟩ (fun hHeld => ?_)
                        clear hK K
                        refine norm_ (a' := ?_) ?_ ?_
                        rotate_left
                        · show Act.put _ (some 14) _ = _
                          simp only [Act.put, List.setIfInBounds_toArray, List.set_cons_zero, List.set_cons_succ, i64_w, i32_w]
                          rfl
                        refine pure_ (i := 6) (N := some 15) (v := ?_) (a' := ?_) #[true, true, true, true, true, true, true, true, true, false, false, true, true, false, false, true, true, true, false, false, true, true, false, true, true, true, false, false, true, true, true, false, false, true, true, true, false, false, true, true, false, true, true, true, false, false, false] rfl rfl (any_of HT_.out (by kernel_rfl)) (fun _ _ _ h => h) (Or.inl ⟨by rfl, ?_⟩) ?_ ?_
                        rotate_left
                        · intro w'
                          go_simp
                          with_reducible rfl
                        rotate_left
                        · simp only [Act.put, List.setIfInBounds_toArray, List.set_cons_zero, List.set_cons_succ, i64_w, i32_w]
                          rfl
                        refine one_ (i := 9) (N := some 18) #[true, true, true, true, true, true, true, true, true, true, false, true, true, false, false, true, true, true, false, false, true, true, false, true, true, true, false, false, true, true, true, false, false, true, true, true, false, false, true, true, false, true, true, true, false, false, false] rfl rfl (one_of HT_.out (by kernel_rfl)) (by decide) (fun K hK => ?_)
                        refine goes_ Try.func23 (by kernel_rfl) rfl #[.int .i64 a0_2, .int .i64 2] (by rfl) rfl rfl (by (try simp only [List.map_toArray, List.map_cons, List.map_nil]); first | done | rfl | (simp only [List.length_drop, List.length_take]; rfl) | (simp only [ByteArray.size_extract, Nat.min_self]; done) | (simp only [ByteArray.size_extract, Nat.min_self]; rfl)) ?_
                        with_reducible refine (vitrineref20_bytes.calls k a0_2 2 t153 _ A7.out).mono ?_
                        rintro e w29 ⟨rfl, hb⟩
                        refine ⟨_, rfl, ?_⟩
                        have n0_ := Aside0.mk (blk_below (g := gb149) (o := .cells #[.int .i64 a0_0, .int .i64 a0_1, .int .i64 a0_2, .int .i64 a0_3, .string a0_4, .int .i64 a0_5, .int .i64 a0_6, .string a0_7, .slice A0_8 l0_8.length c0_8] 26 (0, 0)) (by (with_reducible repeat (first | refine blk_drewN ?_ _ | refine blk_drew ?_ | refine blk_alloc ?_ _)); exact BK149.out) hb)
                        have n1_ := Aside0.mk (below_step (by repeat (first | (with_reducible first | exact HB.out | apply below_alloc | apply pw_below_drewN | apply below_drew1 | refine below_set ?_ GE149.out) | exact HB.out)) hb)
                        clear BK149
                        clear HB
                        have BK149 := n0_
                        have HB := n1_
                        clear n0_ n1_
                        (try clear hb)
                        (try clear hb2)
                        (try clear hk)
                        (try clear hi)
                        refine hK.out _ _ ⟨(blk_cell BK149.out 0).trans rfl, (blk_cell BK149.out 1).trans rfl, (blk_cell BK149.out 2).trans rfl, (blk_cell BK149.out 3).trans rfl, (blk_cell BK149.out 4).trans rfl, (blk_cell BK149.out 5).trans rfl, (blk_cell BK149.out 6).trans rfl, (blk_cell BK149.out 7).trans rfl, (blk_cell BK149.out 8).trans rfl⟩ (fun hHeld => ?_)
                        clear hK K
                        refine norm_ (a' := ?_) ?_ ?_
                        rotate_left
                        · show Act.put _ (some 18) _ = _
                          simp only [Act.put, List.setIfInBounds_toArray, List.set_cons_zero, List.set_cons_succ, i64_w, i32_w]
                          rfl
                        refine pure_ (i := 10) (N := some 19) (v := ?_) (a' := ?_) #[true, true, true, true, true, true, true, true, true, true, true, true, true, false, false, true, true, true, false, false, true, true, false, true, true, true, false, false, true, true, true, false, false, true, true, true, false, false, true, true, false, true, true, true, false, false, false] rfl rfl (any_of HT_.out (by kernel_rfl)) (fun _ _ _ h => h) (Or.inl ⟨by rfl, ?_⟩) ?_ ?_
                        rotate_left
                        · intro w'
                          go_simp
                          with_reducible rfl
                        rotate_left
                        · simp only [Act.put, List.setIfInBounds_toArray, List.set_cons_zero, List.set_cons_succ, i64_w, i32_w]
                          rfl
                        refine one_ (i := 13) (N := some 22) #[true, true, true, true, true, true, true, true, true, true, true, true, true, true, false, true, true, true, false, false, true, true, false, true, true, true, false, false, true, true, true, false, false, true, true, true, false, false, true, true, false, true, true, true, false, false, false] rfl rfl (one_of HT_.out (by kernel_rfl)) (by decide) (fun K hK => ?_)
                        refine goes_ Try.func23 (by kernel_rfl) rfl #[.int .i64 a0_3, .int .i64 8] (by rfl) rfl rfl (by (try simp only [List.map_toArray, List.map_cons, List.map_nil]); first | done | rfl | (simp only [List.length_drop, List.length_take]; rfl) | (simp only [ByteArray.size_extract, Nat.min_self]; done) | (simp only [ByteArray.size_extract, Nat.min_self]; rfl)) ?_
                        with_reducible refine (vitrineref20_bytes.calls k a0_3 8 t154 _ A9.out).mono ?_
                        rintro e w30 ⟨rfl, hb⟩
                        refine ⟨_, rfl, ?_⟩
                        have n0_ := Aside0.mk (blk_below (g := gb149) (o := .cells #[.int .i64 a0_0, .int .i64 a0_1, .int .i64 a0_2, .int .i64 a0_3, .string a0_4, .int .i64 a0_5, .int .i64 a0_6, .string a0_7, .slice A0_8 l0_8.length c0_8] 26 (0, 0)) (by (with_reducible repeat (first | refine blk_drewN ?_ _ | refine blk_drew ?_ | refine blk_alloc ?_ _)); exact BK149.out) hb)
                        have n1_ := Aside0.mk (below_step (by repeat (first | (with_reducible first | exact HB.out | apply below_alloc | apply pw_below_drewN | apply below_drew1 | refine below_set ?_ GE149.out) | exact HB.out)) hb)
                        clear BK149
                        clear HB
                        have BK149 := n0_
                        have HB := n1_
                        clear n0_ n1_
                        (try clear hb)
                        (try clear hb2)
                        (try clear hk)
                        (try clear hi)
                        refine hK.out _ _ ⟨(blk_cell BK149.out 0).trans rfl, (blk_cell BK149.out 1).trans rfl, (blk_cell BK149.out 2).trans rfl, (blk_cell BK149.out 3).trans rfl, (blk_cell BK149.out 4).trans rfl, (blk_cell BK149.out 5).trans rfl, (blk_cell BK149.out 6).trans rfl, (blk_cell BK149.out 7).trans rfl, (blk_cell BK149.out 8).trans rfl⟩ (fun hHeld => ?_)
                        clear hK K
                        refine norm_ (a' := ?_) ?_ ?_
                        rotate_left
                        · show Act.put _ (some 22) _ = _
                          simp only [Act.put, List.setIfInBounds_toArray, List.set_cons_zero, List.set_cons_succ, i64_w, i32_w]
                          rfl
                        refine pure_ (i := 14) (N := some 23) (v := ?_) (a' := ?_) #[true, true, true, true, true, true, true, true, true, true, true, true, true, true, true, true, true, true, false, false, true, true, false, true, true, true, false, false, true, true, true, false, false, true, true, true, false, false, true, true, false, true, true, true, false, false, false] rfl rfl (any_of HT_.out (by kernel_rfl)) (fun _ _ _ h => h) (Or.inl ⟨by rfl, ?_⟩) ?_ ?_
                        rotate_left
                        · intro w'
                          go_simp
                          with_reducible rfl
                        rotate_left
                        · simp only [Act.put, List.setIfInBounds_toArray, List.set_cons_zero, List.set_cons_succ, i64_w, i32_w]
                          rfl
                        refine one_ (i := 18) (N := some 27) #[true, true, true, true, true, true, true, true, true, true, true, true, true, true, true, true, true, true, true, false, true, true, false, true, true, true, false, false, true, true, true, false, false, true, true, true, false, false, true, true, false, true, true, true, false, false, false] rfl rfl (one_of HT_.out (by kernel_rfl)) (by decide) (fun K hK => ?_)
                        refine goes_ Try.func23 (by kernel_rfl) rfl #[.int .i64 (a0_4.size : Int), .int .i64 1] (by rfl) rfl rfl (by (try simp only [List.map_toArray, List.map_cons, List.map_nil]); first | done | rfl | (simp only [List.length_drop, List.length_take]; rfl) | (simp only [ByteArray.size_extract, Nat.min_self]; done) | (simp only [ByteArray.size_extract, Nat.min_self]; rfl)) ?_
                        with_reducible refine (vitrineref20_bytes.calls k (a0_4.size : Int) 1 t155 _ A11.out).mono ?_
                        rintro e w31 ⟨rfl, hb⟩
                        refine ⟨_, rfl, ?_⟩
                        have n0_ := Aside0.mk (blk_below (g := gb149) (o := .cells #[.int .i64 a0_0, .int .i64 a0_1, .int .i64 a0_2, .int .i64 a0_3, .string a0_4, .int .i64 a0_5, .int .i64 a0_6, .string a0_7, .slice A0_8 l0_8.length c0_8] 26 (0, 0)) (by (with_reducible repeat (first | refine blk_drewN ?_ _ | refine blk_drew ?_ | refine blk_alloc ?_ _)); exact BK149.out) hb)
                        have n1_ := Aside0.mk (below_step (by repeat (first | (with_reducible first | exact HB.out | apply below_alloc | apply pw_below_drewN | apply below_drew1 | refine below_set ?_ GE149.out) | exact HB.out)) hb)
                        clear BK149
                        clear HB
                        have BK149 := n0_
                        have HB := n1_
                        clear n0_ n1_
                        (try clear hb)
                        (try clear hb2)
                        (try clear hk)
                        (try clear hi)
                        refine hK.out _ _ ⟨(blk_cell BK149.out 0).trans rfl, (blk_cell BK149.out 1).trans rfl, (blk_cell BK149.out 2).trans rfl, (blk_cell BK149.out 3).trans rfl, (blk_cell BK149.out 4).trans rfl, (blk_cell BK149.out 5).trans rfl, (blk_cell BK149.out 6).trans rfl, (blk_cell BK149.out 7).trans rfl, (blk_cell BK149.out 8).trans rfl⟩ (fun hHeld => ?_)
                        clear hK K
                        refine norm_ (a' := ?_) ?_ ?_
                        rotate_left
                        · show Act.put _ (some 27) _ = _
                          simp only [Act.put, List.setIfInBounds_toArray, List.set_cons_zero, List.set_cons_succ, i64_w, i32_w]
                          rfl
                        refine pure_ (i := 19) (N := some 28) (v := ?_) (a' := ?_) #[true, true, true, true, true, true, true, true, true, true, true, true, true, true, true, true, true, true, true, true, true, true, false, true, true, true, false, false, true, true, true, false, false, true, true, true, false, false, true, true, false, true, true, true, false, false, false] rfl rfl (any_of HT_.out (by kernel_rfl)) (fun _ _ _ h => h) (Or.inl ⟨by rfl, ?_⟩) ?_ ?_
                        rotate_left
                        · intro w'
                          go_simp
                          with_reducible rfl
                        rotate_left
                        · simp only [Act.put, List.setIfInBounds_toArray, List.set_cons_zero, List.set_cons_succ, i64_w, i32_w]
                          rfl
                        refine pure_ (i := 22) (N := some 31) (v := ?_) (a' := ?_) #[true, true, true, true, true, true, true, true, true, true, true, true, true, true, true, true, true, true, true, true, true, true, true, true, true, true, false, false, true, true, true, false, false, true, true, true, false, false, true, true, false, true, true, true, false, false, false] rfl rfl (any_of HT_.out (by kernel_rfl)) (fun _ _ _ h => h) (Or.inl ⟨by rfl, ?_⟩) ?_ ?_
                        rotate_left
                        · intro w'
                          go_simp
                          with_reducible rfl
                        rotate_left
                        · simp only [Act.put, List.setIfInBounds_toArray, List.set_cons_zero, List.set_cons_succ, i64_w, i32_w]
                          rfl
                        refine one_ (i := 26) (N := some 35) #[true, true, true, true, true, true, true, true, true, true, true, true, true, true, true, true, true, true, true, true, true, true, true, true, true, true, true, false, true, true, true, false, false, true, true, true, false, false, true, true, false, true, true, true, false, false, false] rfl rfl (one_of HT_.out (by kernel_rfl)) (by decide) (fun K hK => ?_)
                        refine goes_ Try.func23 (by kernel_rfl) rfl #[.int .i64 a0_5, .int .i64 8] (by rfl) rfl rfl (by (try simp only [List.map_toArray, List.map_cons, List.map_nil]); first | done | rfl | (simp only [List.length_drop, List.length_take]; rfl) | (simp only [ByteArray.size_extract, Nat.min_self]; done) | (simp only [ByteArray.size_extract, Nat.min_self]; rfl)) ?_
                        with_reducible refine (vitrineref20_bytes.calls k a0_5 8 t156 _ A14.out).mono ?_
                        rintro e w32 ⟨rfl, hb⟩
                        refine ⟨_, rfl, ?_⟩
                        have n0_ := Aside0.mk (blk_below (g := gb149) (o := .cells #[.int .i64 a0_0, .int .i64 a0_1, .int .i64 a0_2, .int .i64 a0_3, .string a0_4, .int .i64 a0_5, .int .i64 a0_6, .string a0_7, .slice A0_8 l0_8.length c0_8] 26 (0, 0)) (by (with_reducible repeat (first | refine blk_drewN ?_ _ | refine blk_drew ?_ | refine blk_alloc ?_ _)); exact BK149.out) hb)
                        have n1_ := Aside0.mk (below_step (by repeat (first | (with_reducible first | exact HB.out | apply below_alloc | apply pw_below_drewN | apply below_drew1 | refine below_set ?_ GE149.out) | exact HB.out)) hb)
                        clear BK149
                        clear HB
                        have BK149 := n0_
                        have HB := n1_
                        clear n0_ n1_
                        (try clear hb)
                        (try clear hb2)
                        (try clear hk)
                        (try clear hi)
                        refine hK.out _ _ ⟨(blk_cell BK149.out 0).trans rfl, (blk_cell BK149.out 1).trans rfl, (blk_cell BK149.out 2).trans rfl, (blk_cell BK149.out 3).trans rfl, (blk_cell BK149.out 4).trans rfl, (blk_cell BK149.out 5).trans rfl, (blk_cell BK149.out 6).trans rfl, (blk_cell BK149.out 7).trans rfl, (blk_cell BK149.out 8).trans rfl⟩ (fun hHeld => ?_)
                        clear hK K
                        refine norm_ (a' := ?_) ?_ ?_
                        rotate_left
                        · show Act.put _ (some 35) _ = _
                          simp only [Act.put, List.setIfInBounds_toArray, List.set_cons_zero, List.set_cons_succ, i64_w, i32_w]
                          rfl
                        refine pure_ (i := 27) (N := some 36) (v := ?_) (a' := ?_) #[true, true, true, true, true, true, true, true, true, true, true, true, true, true, true, true, true, true, true, true, true, true, true, true, true, true, true, true, true, true, true, false, false, true, true, true, false, false, true, true, false, true, true, true, false, false, false] rfl rfl (any_of HT_.out (by kernel_rfl)) (fun _ _ _ h => h) (Or.inl ⟨by rfl, ?_⟩) ?_ ?_
                        rotate_left
                        · intro w'
                          go_simp
                          with_reducible rfl
                        rotate_left
                        · simp only [Act.put, List.setIfInBounds_toArray, List.set_cons_zero, List.set_cons_succ, i64_w, i32_w]
                          rfl
                        refine one_ (i := 31) (N := some 40) #[true, true, true, true, true, true, true, true, true, true, true, true, true, true, true, true, true, true, true, true, true, true, true, true, true, true, true, true, true, true, true, true, false, true, true, true, false, false, true, true, false, true, true, true, false, false, false] rfl rfl (one_of HT_.out (by kernel_rfl)) (by decide) (fun K hK => ?_)
                        refine goes_ Try.func23 (by kernel_rfl) rfl #[.int .i64 a0_6, .int .i64 2] (by rfl) rfl rfl (by (try simp only [List.map_toArray, List.map_cons, List.map_nil]); first | done | rfl | (simp only [List.length_drop, List.length_take]; rfl) | (simp only [ByteArray.size_extract, Nat.min_self]; done) | (simp only [ByteArray.size_extract, Nat.min_self]; rfl)) ?_
                        with_reducible refine (vitrineref20_bytes.calls k a0_6 2 t157 _ A16.out).mono ?_
                        rintro e w33 ⟨rfl, hb⟩
                        refine ⟨_, rfl, ?_⟩
                        have n0_ := Aside0.mk (blk_below (g := gb149) (o := .cells #[.int .i64 a0_0, .int .i64 a0_1, .int .i64 a0_2, .int .i64 a0_3, .string a0_4, .int .i64 a0_5, .int .i64 a0_6, .string a0_7, .slice A0_8 l0_8.length c0_8] 26 (0, 0)) (by (with_reducible repeat (first | refine blk_drewN ?_ _ | refine blk_drew ?_ | refine blk_alloc ?_ _)); exact BK149.out) hb)
                        have n1_ := Aside0.mk (below_step (by repeat (first | (with_reducible first | exact HB.out | apply below_alloc | apply pw_below_drewN | apply below_drew1 | refine below_set ?_ GE149.out) | exact HB.out)) hb)
                        clear BK149
                        clear HB
                        have BK149 := n0_
                        have HB := n1_
                        clear n0_ n1_
                        (try clear hb)
                        (try clear hb2)
                        (try clear hk)
                        (try clear hi)
                        refine hK.out _ _ ⟨(blk_cell BK149.out 0).trans rfl, (blk_cell BK149.out 1).trans rfl, (blk_cell BK149.out 2).trans rfl, (blk_cell BK149.out 3).trans rfl, (blk_cell BK149.out 4).trans rfl, (blk_cell BK149.out 5).trans rfl, (blk_cell BK149.out 6).trans rfl, (blk_cell BK149.out 7).trans rfl, (blk_cell BK149.out 8).trans rfl⟩ (fun hHeld => ?_)
                        clear hK K
                        refine norm_ (a' := ?_) ?_ ?_
                        rotate_left
                        · show Act.put _ (some 40) _ = _
                          simp only [Act.put, List.setIfInBounds_toArray, List.set_cons_zero, List.set_cons_succ, i64_w, i32_w]
                          rfl
                        refine pure_ (i := 32) (N := some 41) (v := ?_) (a' := ?_) #[true, true, true, true, true, true, true, true, true, true, true, true, true, true, true, true, true, true, true, true, true, true, true, true, true, true, true, true, true, true, true, true, true, true, true, true, false, false, true, true, false, true, true, true, false, false, false] rfl rfl (any_of HT_.out (by kernel_rfl)) (fun _ _ _ h => h) (Or.inl ⟨by rfl, ?_⟩) ?_ ?_
                        rotate_left
                        · intro w'
                          go_simp
                          with_reducible rfl
                        rotate_left
                        · simp only [Act.put, List.setIfInBounds_toArray, List.set_cons_zero, List.set_cons_succ, i64_w, i32_w]
                          rfl
                        refine one_ (i := 36) (N := some 45) #[true, true, true, true, true, true, true, true, true, true, true, true, true, true, true, true, true, true, true, true, true, true, true, true, true, true, true, true, true, true, true, true, true, true, true, true, true, false, true, true, false, true, true, true, false, false, false] rfl rfl (one_of HT_.out (by kernel_rfl)) (by decide) (fun K hK => ?_)
                        refine goes_ Try.func23 (by kernel_rfl) rfl #[.int .i64 (a0_7.size : Int), .int .i64 4] (by rfl) rfl rfl (by (try simp only [List.map_toArray, List.map_cons, List.map_nil]); first | done | rfl | (simp only [List.length_drop, List.length_take]; rfl) | (simp only [ByteArray.size_extract, Nat.min_self]; done) | (simp only [ByteArray.size_extract, Nat.min_self]; rfl)) ?_
                        with_reducible refine (vitrineref20_bytes.calls k (a0_7.size : Int) 4 t158 _ A18.out).mono ?_
                        rintro e w34 ⟨rfl, hb⟩
                        refine ⟨_, rfl, ?_⟩
                        have n0_ := Aside0.mk (blk_below (g := gb149) (o := .cells #[.int .i64 a0_0, .int .i64 a0_1, .int .i64 a0_2, .int .i64 a0_3, .string a0_4, .int .i64 a0_5, .int .i64 a0_6, .string a0_7, .slice A0_8 l0_8.length c0_8] 26 (0, 0)) (by (with_reducible repeat (first | refine blk_drewN ?_ _ | refine blk_drew ?_ | refine blk_alloc ?_ _)); exact BK149.out) hb)
                        have n1_ := Aside0.mk (below_step (by repeat (first | (with_reducible first | exact HB.out | apply below_alloc | apply pw_below_drewN | apply below_drew1 | refine below_set ?_ GE149.out) | exact HB.out)) hb)
                        clear BK149
                        clear HB
                        have BK149 := n0_
                        have HB := n1_
                        clear n0_ n1_
                        (try clear hb)
                        (try clear hb2)
                        (try clear hk)
                        (try clear hi)
                        refine hK.out _ _ ⟨(blk_cell BK149.out 0).trans rfl, (blk_cell BK149.out 1).trans rfl, (blk_cell BK149.out 2).trans rfl, (blk_cell BK149.out 3).trans rfl, (blk_cell BK149.out 4).trans rfl, (blk_cell BK149.out 5).trans rfl, (blk_cell BK149.out 6).trans rfl, (blk_cell BK149.out 7).trans rfl, (blk_cell BK149.out 8).trans rfl⟩ (fun hHeld => ?_)
                        clear hK K
                        refine norm_ (a' := ?_) ?_ ?_
                        rotate_left
                        · show Act.put _ (some 45) _ = _
                          simp only [Act.put, List.setIfInBounds_toArray, List.set_cons_zero, List.set_cons_succ, i64_w, i32_w]
                          rfl
                        refine pure_ (i := 37) (N := some 46) (v := ?_) (a' := ?_) #[true, true, true, true, true, true, true, true, true, true, true, true, true, true, true, true, true, true, true, true, true, true, true, true, true, true, true, true, true, true, true, true, true, true, true, true, true, true, true, true, false, true, true, true, false, false, false] rfl rfl (any_of HT_.out (by kernel_rfl)) (fun _ _ _ h => h) (Or.inl ⟨by rfl, ?_⟩) ?_ ?_
                        rotate_left
                        · intro w'
                          go_simp
                          with_reducible rfl
                        rotate_left
                        · simp only [Act.put, List.setIfInBounds_toArray, List.set_cons_zero, List.set_cons_succ, i64_w, i32_w]
                          rfl
                        refine pure_ (i := 40) (N := some 49) (v := ?_) (a' := ?_) #[true, true, true, true, true, true, true, true, true, true, true, true, true, true, true, true, true, true, true, true, true, true, true, true, true, true, true, true, true, true, true, true, true, true, true, true, true, true, true, true, true, true, true, true, false, false, false] rfl rfl (any_of HT_.out (by kernel_rfl)) (fun _ _ _ h => h) (Or.inl ⟨by rfl, ?_⟩) ?_ ?_
                        rotate_left
                        · intro w'
                          go_simp
                          with_reducible rfl
                        rotate_left
                        · simp only [Act.put, List.setIfInBounds_toArray, List.set_cons_zero, List.set_cons_succ, i64_w, i32_w]
                          rfl
                        refine one_ (i := 44) (N := some 53) #[true, true, true, true, true, true, true, true, true, true, true, true, true, true, true, true, true, true, true, true, true, true, true, true, true, true, true, true, true, true, true, true, true, true, true, true, true, true, true, true, true, true, true, true, true, false, false] rfl rfl (one_of HT_.out (by kernel_rfl)) (by decide) (fun K hK => ?_)
                        refine goes_ Try.func23 (by kernel_rfl) rfl #[.int .i64 (l0_8.length : Int), .int .i64 2] (by rfl) rfl rfl (by (try simp only [List.map_toArray, List.map_cons, List.map_nil]); first | done | rfl | (simp only [List.length_drop, List.length_take]; rfl) | (simp only [ByteArray.size_extract, Nat.min_self]; done) | (simp only [ByteArray.size_extract, Nat.min_self]; rfl)) ?_
                        with_reducible refine (vitrineref20_bytes.calls k (l0_8.length : Int) 2 t159 _ A21.out).mono ?_
                        rintro e w35 ⟨rfl, hb⟩
                        refine ⟨_, rfl, ?_⟩
                        have n0_ := Aside0.mk (blk_below (g := gb149) (o := .cells #[.int .i64 a0_0, .int .i64 a0_1, .int .i64 a0_2, .int .i64 a0_3, .string a0_4, .int .i64 a0_5, .int .i64 a0_6, .string a0_7, .slice A0_8 l0_8.length c0_8] 26 (0, 0)) (by (with_reducible repeat (first | refine blk_drewN ?_ _ | refine blk_drew ?_ | refine blk_alloc ?_ _)); exact BK149.out) hb)
                        have n1_ := Aside0.mk (below_step (by repeat (first | (with_reducible first | exact HB.out | apply below_alloc | apply pw_below_drewN | apply below_drew1 | refine below_set ?_ GE149.out) | exact HB.out)) hb)
                        clear BK149
                        clear HB
                        have BK149 := n0_
                        have HB := n1_
                        clear n0_ n1_
                        (try clear hb)
                        (try clear hb2)
                        (try clear hk)
                        (try clear hi)
                        refine hK.out _ _ ⟨(blk_cell BK149.out 0).trans rfl, (blk_cell BK149.out 1).trans rfl, (blk_cell BK149.out 2).trans rfl, (blk_cell BK149.out 3).trans rfl, (blk_cell BK149.out 4).trans rfl, (blk_cell BK149.out 5).trans rfl, (blk_cell BK149.out 6).trans rfl, (blk_cell BK149.out 7).trans rfl, (blk_cell BK149.out 8).trans rfl⟩ (fun hHeld => ?_)
                        clear hK K
                        refine norm_ (a' := ?_) ?_ ?_
                        rotate_left
                        · show Act.put _ (some 53) _ = _
                          simp only [Act.put, List.setIfInBounds_toArray, List.set_cons_zero, List.set_cons_succ, i64_w, i32_w]
                          rfl
                        refine pure_ (i := 45) (N := some 54) (v := ?_) (a' := ?_) #[true, true, true, true, true, true, true, true, true, true, true, true, true, true, true, true, true, true, true, true, true, true, true, true, true, true, true, true, true, true, true, true, true, true, true, true, true, true, true, true, true, true, true, true, true, true, false] rfl rfl (any_of HT_.out (by kernel_rfl)) (fun _ _ _ h => h) (Or.inl ⟨by rfl, ?_⟩) ?_ ?_
                        rotate_left
                        · intro w'
                          go_simp
                          with_reducible rfl
                        rotate_left
                        · simp only [Act.put, List.setIfInBounds_toArray, List.set_cons_zero, List.set_cons_succ, i64_w, i32_w]
                          rfl
                        refine pure_ (i := 46) (N := some 4) (v := ?_) (a' := ?_) #[true, true, true, true, true, true, true, true, true, true, true, true, true, true, true, true, true, true, true, true, true, true, true, true, true, true, true, true, true, true, true, true, true, true, true, true, true, true, true, true, true, true, true, true, true, true, true] rfl rfl (any_of HT_.out (by kernel_rfl)) (fun _ _ _ h => h) (Or.inl ⟨by rfl, ?_⟩) ?_ ?_
                        rotate_left
                        · intro w'
                          go_simp
                          with_reducible rfl
                        rotate_left
                        · simp only [Act.put, List.setIfInBounds_toArray, List.set_cons_zero, List.set_cons_succ, i64_w, i32_w]
                          rfl
                        refine done_ (done_of HT_.out (by kernel_rfl)) ?_
                        try go_wp2
                        go_loopg [4, 5] k (fun kq v4 v5 w' => ∃ (x4_1 : ByteArray) (x5_1 : Int), v4 = .string x4_1 ∧ v5 = .int .i64 x5_1 ∧ Aside0 (vitrineref20_Encode.l0 kq x4_1 x5_1 a0_0 a0_1 a0_2 a0_3 a0_4 a0_5 a0_6 a0_7 l0_8 = some (r1, r2)) ∧ Aside0 (kq ≤ k) ∧ Aside0 (w'.heap[gb149]? = some (.cells #[.int .i64 a0_0, .int .i64 a0_1, .int .i64 a0_2, .int .i64 a0_3, .string a0_4, .int .i64 a0_5, .int .i64 a0_6, .string a0_7, (.slice A0_8 l0_8.length c0_8)] 26 (0, 0))) ∧ Aside0 (Below w.heap.size w w'))
                        case atStart => exact ⟨((((((((((t151 ++ t152) ++ t153) ++ t154) ++ t155) ++ a0_4) ++ t156) ++ t157) ++ t158) ++ a0_7) ++ t159), (0), (by first | rfl | (simp; done) | (simp [*]; done)), (by first | rfl | (simp; done) | (simp [*]; done)), H', ⟨Nat.le_refl _⟩, ⟨by (with_reducible repeat (first | refine blk_drewN ?_ _ | refine blk_drew ?_ | refine blk_alloc ?_ _)); exact BK149.out⟩, ⟨by repeat (first | (with_reducible first | exact HB.out | apply below_alloc | apply pw_below_drewN | apply below_drew1 | refine below_set ?_ GE149.out) | exact HB.out)⟩⟩
                        case round =>
                          clear H'
                          try clear c1
                          try clear c2
                          try clear p2
                          try clear c10
                          try clear c10b1
                          try clear c10b2
                          try clear c12
                          try clear c12b0
                          try clear c12b1
                          try clear c12b2
                          try clear c13
                          try clear c13b0
                          try clear c13b1
                          try clear c13b2
                          try clear c15
                          try clear c15b0
                          try clear c15b1
                          try clear c15b2
                          try clear c17
                          try clear c17b0
                          try clear c17b1
                          try clear c17b2
                          try clear c19
                          try clear c19b0
                          try clear c19b1
                          try clear c19b2
                          try clear c20
                          try clear c20b0
                          try clear c20b1
                          try clear c20b2
                          try clear c22
                          try clear c22b0
                          try clear c22b1
                          try clear c22b2
                          try clear c23
                          try clear hcz24_0
                          try clear hcz24_1
                          try clear hcz24_2
                          try clear hcz24_3
                          try clear hcz24_4
                          try clear hcz24_5
                          try clear hcz24_6
                          try clear hcz24_7
                          try clear hcz24_8
                          try clear hfz24_0
                          try clear hfz24_1
                          try clear hfz24_2
                          try clear hfz24_3
                          try clear hfz24_4
                          try clear hfz24_5
                          try clear hfz24_6
                          try clear hfz24_7
                          try clear hfz24_8
                          obtain ⟨x4_1, x5_1, rfl, rfl, HA, HK1, BK149, HB⟩ := hrel
                          cases gk with
                          | zero => exact absurd HA.out (by simp [vitrineref20_Encode.l0])
                          | succ k1 =>
                            have H := HA.out
                            clear HA
                            simp only [vitrineref20_Encode.l0] at H
                            by_cases c36 : x5_1 < (l0_8.length : Int)
                            · rw [if_pos c36] at H
                              have c36b0 : decide (x5_1 < (l0_8.length : Int)) = true := decide_eq_true c36
                              clear c36
                              by_cases c37 : 0 ≤ x5_1
                              · rw [if_pos c37] at H
                                have c37b0 : decide (0 ≤ x5_1) = true := decide_eq_true c37
                                clear c37
                                replace H := Option.bind_eq_some_iff.mp H
                                obtain ⟨t161, A380, H⟩ := H
                                replace H : (if x4_1.size + t161.size ≤ 9223372036854775807 then (if (x4_1 ++ t161).size + (rdOf ByteArray.empty l0_8 x5_1).size ≤ 9223372036854775807 then (vitrineref20_Encode.l0 k1 ((x4_1 ++ t161) ++ (rdOf ByteArray.empty l0_8 x5_1)) (wrap64 (x5_1 + 1)) a0_0 a0_1 a0_2 a0_3 a0_4 a0_5 a0_6 a0_7 l0_8) else (none)) else (none)) = some (r1, r2) := H
                                have A38 := Aside0.mk A380
                                clear A380
                                by_cases c39 : x4_1.size + t161.size ≤ 9223372036854775807
                                · rw [if_pos c39] at H
                                  have c39b0 := eq_true c39
                                  have c39b1 : decide (x4_1.size + t161.size ≤ 9223372036854775807) = true := decide_eq_true c39
                                  try have c39b2 : (9223372036854775807 < x4_1.size + t161.size) = False := eq_false (Nat.not_lt.2 c39)
                                  by_cases c40 : (x4_1 ++ t161).size + (rdOf ByteArray.empty l0_8 x5_1).size ≤ 9223372036854775807
                                  · rw [if_pos c40] at H
                                    have c40b0 := eq_true c40
                                    have c40b1 : decide ((x4_1 ++ t161).size + (rdOf ByteArray.empty l0_8 x5_1).size ≤ 9223372036854775807) = true := decide_eq_true c40
                                    try have c40b2 : (9223372036854775807 < (x4_1 ++ t161).size + (rdOf ByteArray.empty l0_8 x5_1).size) = False := eq_false (Nat.not_lt.2 c40)
                                    try (have c40b3 := c40b2; simp only [ByteArray.size_append] at c40b3)
                                    have H' := Aside0.mk H
                                    clear H
                                    have hcz41_0 : wr.cell? ⟨gb149, 0, none⟩ = some (.int .i64 a0_0) := (blk_cell BK149.out 0).trans rfl
                                    have hcz41_1 : wr.cell? ⟨gb149, 1, none⟩ = some (.int .i64 a0_1) := (blk_cell BK149.out 1).trans rfl
                                    have hcz41_2 : wr.cell? ⟨gb149, 2, none⟩ = some (.int .i64 a0_2) := (blk_cell BK149.out 2).trans rfl
                                    have hcz41_3 : wr.cell? ⟨gb149, 3, none⟩ = some (.int .i64 a0_3) := (blk_cell BK149.out 3).trans rfl
                                    have hcz41_4 : wr.cell? ⟨gb149, 4, none⟩ = some (.string a0_4) := (blk_cell BK149.out 4).trans rfl
                                    have hcz41_5 : wr.cell? ⟨gb149, 5, none⟩ = some (.int .i64 a0_5) := (blk_cell BK149.out 5).trans rfl
                                    have hcz41_6 : wr.cell? ⟨gb149, 6, none⟩ = some (.int .i64 a0_6) := (blk_cell BK149.out 6).trans rfl
                                    have hcz41_7 : wr.cell? ⟨gb149, 7, none⟩ = some (.string a0_7) := (blk_cell BK149.out 7).trans rfl
                                    have hcz41_8 : wr.cell? ⟨gb149, 8, none⟩ = some (.slice A0_8 l0_8.length c0_8) := (blk_cell BK149.out 8).trans rfl
                                    have hfz41_0 := blk_frozen BK149.out 0
                                    have hfz41_1 := blk_frozen BK149.out 1
                                    have hfz41_2 := blk_frozen BK149.out 2
                                    have hfz41_3 := blk_frozen BK149.out 3
                                    have hfz41_4 := blk_frozen BK149.out 4
                                    have hfz41_5 := blk_frozen BK149.out 5
                                    have hfz41_6 := blk_frozen BK149.out 6
                                    have hfz41_7 := blk_frozen BK149.out 7
                                    have hfz41_8 := blk_frozen BK149.out 8
                                    try go_wp2
                                    have n0_ := Aside0.mk (blk_drew BK149.out)
                                    have n1_ := Aside0.mk (below_drew1 HB.out)
                                    clear BK149
                                    clear HB
                                    have BK149 := n0_
                                    have HB := n1_
                                    clear n0_ n1_
                                    have p160 : 0 ≤ (x5_1 : Int) := of_decide_eq_true (by first | (with_reducible assumption) | assumption)
                                    have q160 : x5_1 < (l0_8.length : Int) := of_decide_eq_true (by first | (with_reducible assumption) | assumption)
                                    obtain ⟨ad160, e160, hx160_0⟩ := Kd.at_string HR0_8.out x5_1 p160 q160
                                    have hw160_0 := hx160_0
                                    cases e160
                                    replace hx160_0 := (HB.out.cell (World.block_lt_of_cell? w _ hx160_0)).trans hx160_0
                                    replace p160 := eq_true p160
                                    replace q160 := eq_true q160
                                    have p162 : 0 ≤ (x5_1 : Int) := of_decide_eq_true (by first | (with_reducible assumption) | assumption)
                                    have q162 : x5_1 < (l0_8.length : Int) := of_decide_eq_true (by first | (with_reducible assumption) | assumption)
                                    obtain ⟨ad162, e162, hx162_0⟩ := Kd.at_string HR0_8.out x5_1 p162 q162
                                    have hw162_0 := hx162_0
                                    obtain rfl : ad160 = ad162 := (by injection e162)
                                    replace hx162_0 := (HB.out.cell (World.block_lt_of_cell? w _ hx162_0)).trans hx162_0
                                    replace p162 := eq_true p162
                                    replace q162 := eq_true q162
                                    refine start_ (n := 16) (S := fun w' => w'.cell? ⟨gb149, 0, none⟩ = some (.int .i64 a0_0) ∧ w'.cell? ⟨gb149, 1, none⟩ = some (.int .i64 a0_1) ∧ w'.cell? ⟨gb149, 2, none⟩ = some (.int .i64 a0_2) ∧ w'.cell? ⟨gb149, 3, none⟩ = some (.int .i64 a0_3) ∧ w'.cell? ⟨gb149, 4, none⟩ = some (.string a0_4) ∧ w'.cell? ⟨gb149, 5, none⟩ = some (.int .i64 a0_5) ∧ w'.cell? ⟨gb149, 6, none⟩ = some (.int .i64 a0_6) ∧ w'.cell? ⟨gb149, 7, none⟩ = some (.string a0_7) ∧ w'.cell? ⟨gb149, 8, none⟩ = some (.slice (some ad160) l0_8.length c0_8) ∧ w'.cell? (ad160.add (x5_1).toNat) = some (.string (rdOf ByteArray.empty l0_8 x5_1)) ∧ w'.cell? (ad160.add (x5_1).toNat) = some (.string (rdOf ByteArray.empty l0_8 x5_1))) (ds := []) #[false, false, false, false, false, false, false, false, false, false, false, false, false, false, false, false] (by kernel_rfl) rfl rfl ⟨(blk_cell BK149.out 0).trans rfl, (blk_cell BK149.out 1).trans rfl, (blk_cell BK149.out 2).trans rfl, (blk_cell BK149.out 3).trans rfl, (blk_cell BK149.out 4).trans rfl, (blk_cell BK149.out 5).trans rfl, (blk_cell BK149.out 6).trans rfl, (blk_cell BK149.out 7).trans rfl, (blk_cell BK149.out 8).trans rfl, ((HB.out.cell (World.block_lt_of_cell? w _ hw160_0)).trans hw160_0), ((HB.out.cell (World.block_lt_of_cell? w _ hw162_0)).trans hw162_0)⟩ (fun hHeld => ?_); refine with_tabW vitrineref20_Encode.tab7 vitrineref20_Encode.bits7 (fun HT_ HW_ => ?_)
                                    generalize wr.drew = w42 at BK149 HB hx160_0 hx162_0 hHeld ⊢
                                    refine pure_ (i := 0) (N := some 62) (v := ?_) (a' := ?_) #[true, false, false, false, false, false, false, false, false, false, false, false, false, false, false, false] rfl rfl (any_of HT_.out (by kernel_rfl)) (fun _ _ _ h => h) (Or.inl ⟨by rfl, ?_⟩) ?_ ?_
                                    rotate_left
                                    · intro w'
                                      go_simp
                                      with_reducible rfl
                                    rotate_left
                                    · simp only [Act.put, List.setIfInBounds_toArray, List.set_cons_zero, List.set_cons_succ, i64_w, i32_w]
                                      rfl
                                    refine pure_ (i := 1) (N := some 63) (v := ?_) (a' := ?_) #[true, true, false, false, false, false, false, false, false, false, false, false, false, false, false, false] rfl rfl (any_of HT_.out (by kernel_rfl)) (fun _ _ _ h => h) (Or.inl ⟨by rfl, ?_⟩) ?_ ?_
                                    rotate_left
                                    · intro w'
                                      go_simp
                                      with_reducible rfl
                                    rotate_left
                                    · simp only [Act.put, List.setIfInBounds_toArray, List.set_cons_zero, List.set_cons_succ, i64_w, i32_w]
                                      rfl
                                    refine pure_ (i := 3) (N := some 65) (v := ?_) (a' := ?_) #[true, true, false, true, false, false, false, false, false, false, false, false, false, false, false, false] rfl rfl (any_of HT_.out (by kernel_rfl)) (fun _ _ _ h => h) (Or.inl ⟨by rfl, ?_⟩) ?_ ?_
                                    rotate_left
                                    · intro w'
                                      go_simp
                                      with_reducible rfl
                                    rotate_left
                                    · simp only [Act.put, List.setIfInBounds_toArray, List.set_cons_zero, List.set_cons_succ, i64_w, i32_w]
                                      rfl
                                    refine pure_ (i := 9) (N := some 71) (v := ?_) (a' := ?_) #[true, true, false, true, false, false, false, false, false, true, false, false, false, false, false, false] rfl rfl (any_of HT_.out (by kernel_rfl)) (fun _ _ _ h => h) (Or.inl ⟨by rfl, ?_⟩) ?_ ?_
                                    rotate_left
                                    · intro w'
                                      go_simp
                                      with_reducible rfl
                                    rotate_left
                                    · simp only [Act.put, List.setIfInBounds_toArray, List.set_cons_zero, List.set_cons_succ, i64_w, i32_w]
                                      rfl
                                    refine pure_ (i := 11) (N := some 73) (v := ?_) (a' := ?_) #[true, true, false, true, false, false, false, false, false, true, false, true, false, false, false, false] rfl rfl (any_of HT_.out (by kernel_rfl)) (fun _ _ _ h => h) (Or.inl ⟨by rfl, ?_⟩) ?_ ?_
                                    rotate_left
                                    · intro w'
                                      go_simp
                                      with_reducible rfl
                                    rotate_left
                                    · simp only [Act.put, List.setIfInBounds_toArray, List.set_cons_zero, List.set_cons_succ, i64_w, i32_w]
                                      rfl
                                    refine take_ (i := 2) (N := some 64) (v := ?_) (a' := ?_) #[true, true, true, true, false, false, false, false, false, true, false, true, false, false, false, false] rfl rfl (take_ofW HT_.out HW_.out (by kernel_rfl)) (fun _ _ _ h => h) (Or.inl ⟨by rfl, ?_⟩) hHeld ?_ ?_
                                    rotate_left
                                    · rintro w' ⟨s0, s1, s2, s3, s4, s5, s6, s7, s8, s9, s10⟩
                                      go_simp
                                      with_reducible rfl
                                    rotate_left
                                    · simp only [Act.put, List.setIfInBounds_toArray, List.set_cons_zero, List.set_cons_succ, i64_w, i32_w]
                                      rfl
                                    refine pure_ (i := 4) (N := some 66) (v := ?_) (a' := ?_) #[true, true, true, true, true, false, false, false, false, true, false, true, false, false, false, false] rfl rfl (any_of HT_.out (by kernel_rfl)) (fun _ _ _ h => h) (Or.inl ⟨by rfl, ?_⟩) ?_ ?_
                                    rotate_left
                                    · intro w'
                                      go_simp
                                      with_reducible rfl
                                    rotate_left
                                    · simp only [Act.put, List.setIfInBounds_toArray, List.set_cons_zero, List.set_cons_succ, i64_w, i32_w]
                                      rfl
                                    refine take_ (i := 5) (N := some 67) (v := ?_) (a' := ?_) #[true, true, true, true, true, true, false, false, false, true, false, true, false, false, false, false] rfl rfl (take_ofW HT_.out HW_.out (by kernel_rfl)) (fun _ _ _ h => h) (Or.inl ⟨by rfl, ?_⟩) hHeld ?_ ?_
                                    rotate_left
                                    · rintro w' ⟨s0, s1, s2, s3, s4, s5, s6, s7, s8, s9, s10⟩
                                      go_simp
                                      with_reducible rfl
                                    rotate_left
                                    · simp only [Act.put, List.setIfInBounds_toArray, List.set_cons_zero, List.set_cons_succ, i64_w, i32_w]
                                      rfl
                                    refine pure_ (i := 6) (N := some 68) (v := ?_) (a' := ?_) #[true, true, true, true, true, true, true, false, false, true, false, true, false, false, false, false] rfl rfl (any_of HT_.out (by kernel_rfl)) (fun _ _ _ h => h) (Or.inl ⟨by rfl, ?_⟩) ?_ ?_
                                    rotate_left
                                    · intro w'
                                      go_simp
                                      with_reducible rfl
                                    rotate_left
                                    · simp only [Act.put, List.setIfInBounds_toArray, List.set_cons_zero, List.set_cons_succ, i64_w, i32_w]
                                      rfl
                                    refine take_ (i := 10) (N := some 72) (v := ?_) (a' := ?_) #[true, true, true, true, true, true, true, false, false, true, true, true, false, false, false, false] rfl rfl (take_ofW HT_.out HW_.out (by kernel_rfl)) (fun _ _ _ h => h) (Or.inl ⟨by rfl, ?_⟩) hHeld ?_ ?_
                                    rotate_left
                                    · rintro w' ⟨s0, s1, s2, s3, s4, s5, s6, s7, s8, s9, s10⟩
                                      go_simp
                                      with_reducible rfl
                                    rotate_left
                                    · simp only [Act.put, List.setIfInBounds_toArray, List.set_cons_zero, List.set_cons_succ, i64_w, i32_w]
                                      rfl
                                    refine pure_ (i := 12) (N := some 74) (v := ?_) (a' := ?_) #[true, true, true, true, true, true, true, false, false, true, true, true, true, false, false, false] rfl rfl (any_of HT_.out (by kernel_rfl)) (fun _ _ _ h => h) (Or.inl ⟨by rfl, ?_⟩) ?_ ?_
                                    rotate_left
                                    · intro w'
                                      go_simp
                                      with_reducible rfl
                                    rotate_left
                                    · simp only [Act.put, List.setIfInBounds_toArray, List.set_cons_zero, List.set_cons_succ, i64_w, i32_w]
                                      rfl
                                    refine take_ (i := 13) (N := some 75) (v := ?_) (a' := ?_) #[true, true, true, true, true, true, true, false, false, true, true, true, true, true, false, false] rfl rfl (take_ofW HT_.out HW_.out (by kernel_rfl)) (fun _ _ _ h => h) (Or.inl ⟨by rfl, ?_⟩) hHeld ?_ ?_
                                    rotate_left
                                    · rintro w' ⟨s0, s1, s2, s3, s4, s5, s6, s7, s8, s9, s10⟩
                                      go_simp
                                      with_reducible rfl
                                    rotate_left
                                    · simp only [Act.put, List.setIfInBounds_toArray, List.set_cons_zero, List.set_cons_succ, i64_w, i32_w]
                                      rfl
                                    refine one_ (i := 7) (N := some 69) #[true, true, true, true, true, true, true, true, false, true, true, true, true, true, false, false] rfl rfl (one_of HT_.out (by kernel_rfl)) (by decide) (fun K hK => ?_)
                                    refine goes_ Try.func23 (by kernel_rfl) rfl #[.int .i64 ((rdOf ByteArray.empty l0_8 x5_1).size : Int), .int .i64 4] (by rfl) rfl rfl (by (try simp only [List.map_toArray, List.map_cons, List.map_nil]); first | done | rfl | (simp only [List.length_drop, List.length_take]; rfl) | (simp only [ByteArray.size_extract, Nat.min_self]; done) | (simp only [ByteArray.size_extract, Nat.min_self]; rfl)) ?_
                                    with_reducible refine (vitrineref20_bytes.calls k1 ((rdOf ByteArray.empty l0_8 x5_1).size : Int) 4 t161 _ A38.out).mono ?_
                                    rintro e w43 ⟨rfl, hb⟩
                                    refine ⟨_, rfl, ?_⟩
                                    have n0_ := Aside0.mk (blk_below (g := gb149) (o := .cells #[.int .i64 a0_0, .int .i64 a0_1, .int .i64 a0_2, .int .i64 a0_3, .string a0_4, .int .i64 a0_5, .int .i64 a0_6, .string a0_7, .slice (some ad160) l0_8.length c0_8] 26 (0, 0)) (by (with_reducible repeat (first | refine blk_drewN ?_ _ | refine blk_drew ?_ | refine blk_alloc ?_ _)); exact BK149.out) hb)
                                    have n1_ := Aside0.mk (below_step (by repeat (first | (with_reducible first | exact HB.out | apply below_alloc | apply pw_below_drewN | apply below_drew1 | refine below_set ?_ GE149.out) | exact HB.out)) hb)
                                    clear BK149
                                    clear HB
                                    have BK149 := n0_
                                    have HB := n1_
                                    clear n0_ n1_
                                    (try clear hb)
                                    (try clear hb2)
                                    (try clear hk)
                                    (try clear hi)
                                    refine hK.out _ _ ⟨(blk_cell BK149.out 0).trans rfl, (blk_cell BK149.out 1).trans rfl, (blk_cell BK149.out 2).trans rfl, (blk_cell BK149.out 3).trans rfl, (blk_cell BK149.out 4).trans rfl, (blk_cell BK149.out 5).trans rfl, (blk_cell BK149.out 6).trans rfl, (blk_cell BK149.out 7).trans rfl, (blk_cell BK149.out 8).trans rfl, ((HB.out.cell (World.block_lt_of_cell? w _ hw160_0)).trans hw160_0), ((HB.out.cell (World.block_lt_of_cell? w _ hw162_0)).trans hw162_0)⟩ (fun hHeld => ?_)
                                    clear hK K
                                    refine norm_ (a' := ?_) ?_ ?_
                                    rotate_left
                                    · show Act.put _ (some 69) _ = _
                                      simp only [Act.put, List.setIfInBounds_toArray, List.set_cons_zero, List.set_cons_succ, i64_w, i32_w]
                                      rfl
                                    refine pure_ (i := 8) (N := some 70) (v := ?_) (a' := ?_) #[true, true, true, true, true, true, true, true, true, true, true, true, true, true, false, false] rfl rfl (any_of HT_.out (by kernel_rfl)) (fun _ _ _ h => h) (Or.inl ⟨by rfl, ?_⟩) ?_ ?_
                                    rotate_left
                                    · intro w'
                                      go_simp
                                      with_reducible rfl
                                    rotate_left
                                    · simp only [Act.put, List.setIfInBounds_toArray, List.set_cons_zero, List.set_cons_succ, i64_w, i32_w]
                                      rfl
                                    refine pure_ (i := 14) (N := some 76) (v := ?_) (a' := ?_) #[true, true, true, true, true, true, true, true, true, true, true, true, true, true, true, false] rfl rfl (any_of HT_.out (by kernel_rfl)) (fun _ _ _ h => h) (Or.inl ⟨by rfl, ?_⟩) ?_ ?_
                                    rotate_left
                                    · intro w'
                                      go_simp
                                      with_reducible rfl
                                    rotate_left
                                    · simp only [Act.put, List.setIfInBounds_toArray, List.set_cons_zero, List.set_cons_succ, i64_w, i32_w]
                                      rfl
                                    refine pure_ (i := 15) (N := some 4) (v := ?_) (a' := ?_) #[true, true, true, true, true, true, true, true, true, true, true, true, true, true, true, true] rfl rfl (any_of HT_.out (by kernel_rfl)) (fun _ _ _ h => h) (Or.inl ⟨by rfl, ?_⟩) ?_ ?_
                                    rotate_left
                                    · intro w'
                                      go_simp
                                      with_reducible rfl
                                    rotate_left
                                    · simp only [Act.put, List.setIfInBounds_toArray, List.set_cons_zero, List.set_cons_succ, i64_w, i32_w]
                                      rfl
                                    refine done_ (done_of HT_.out (by kernel_rfl)) ?_
                                    try go_wp2
                                    go_roundg k1
                                    case measure => have := HK1.out; omega
                                    case rel => exact ⟨((x4_1 ++ t161) ++ (rdOf ByteArray.empty l0_8 x5_1)), (wrap64 (x5_1 + 1)), (by first | rfl | (simp; done) | (simp [*]; done)), (by first | rfl | (simp; done) | (simp [*]; done)), H', ⟨by have := HK1.out; omega⟩, ⟨by (with_reducible repeat (first | refine blk_drewN ?_ _ | refine blk_drew ?_ | refine blk_alloc ?_ _)); exact BK149.out⟩, ⟨by repeat (first | (with_reducible first | exact HB.out | apply below_alloc | apply pw_below_drewN | apply below_drew1 | refine below_set ?_ GE149.out) | exact HB.out)⟩⟩
                                  · rw [if_neg c40] at H
                                    exact absurd H (by simp)
                                · rw [if_neg c39] at H
                                  exact absurd H (by simp)
                              · rw [if_neg c37] at H
                                exact absurd H (by simp)
                            · rw [if_neg c36] at H
                              have c36b0 : decide (x5_1 < (l0_8.length : Int)) = false := decide_eq_false c36
                              clear c36
                              replace H := Option.bind_eq_some_iff.mp H
                              obtain ⟨t163, A440, H⟩ := H
                              replace H : ((vitrineref20_bytes.f k1 t163 4).bind fun t164 => (if t164.size + x4_1.size ≤ 9223372036854775807 then (some (t164 ++ x4_1, 0)) else (none))) = some (r1, r2) := H
                              have A44 := Aside0.mk A440
                              clear A440
                              replace H := Option.bind_eq_some_iff.mp H
                              obtain ⟨t164, A450, H⟩ := H
                              replace H : (if t164.size + x4_1.size ≤ 9223372036854775807 then (some (t164 ++ x4_1, 0)) else (none)) = some (r1, r2) := H
                              have A45 := Aside0.mk A450
                              clear A450
                              by_cases c46 : t164.size + x4_1.size ≤ 9223372036854775807
                              · rw [if_pos c46] at H
                                have c46b0 := eq_true c46
                                have c46b1 : decide (t164.size + x4_1.size ≤ 9223372036854775807) = true := decide_eq_true c46
                                try have c46b2 : (9223372036854775807 < t164.size + x4_1.size) = False := eq_false (Nat.not_lt.2 c46)
                                simp only [Option.some.injEq, Prod.mk.injEq] at H
                                obtain ⟨rfl, rfl⟩ := H
                                have hcz47_0 : wr.cell? ⟨gb149, 0, none⟩ = some (.int .i64 a0_0) := (blk_cell BK149.out 0).trans rfl
                                have hcz47_1 : wr.cell? ⟨gb149, 1, none⟩ = some (.int .i64 a0_1) := (blk_cell BK149.out 1).trans rfl
                                have hcz47_2 : wr.cell? ⟨gb149, 2, none⟩ = some (.int .i64 a0_2) := (blk_cell BK149.out 2).trans rfl
                                have hcz47_3 : wr.cell? ⟨gb149, 3, none⟩ = some (.int .i64 a0_3) := (blk_cell BK149.out 3).trans rfl
                                have hcz47_4 : wr.cell? ⟨gb149, 4, none⟩ = some (.string a0_4) := (blk_cell BK149.out 4).trans rfl
                                have hcz47_5 : wr.cell? ⟨gb149, 5, none⟩ = some (.int .i64 a0_5) := (blk_cell BK149.out 5).trans rfl
                                have hcz47_6 : wr.cell? ⟨gb149, 6, none⟩ = some (.int .i64 a0_6) := (blk_cell BK149.out 6).trans rfl
                                have hcz47_7 : wr.cell? ⟨gb149, 7, none⟩ = some (.string a0_7) := (blk_cell BK149.out 7).trans rfl
                                have hcz47_8 : wr.cell? ⟨gb149, 8, none⟩ = some (.slice A0_8 l0_8.length c0_8) := (blk_cell BK149.out 8).trans rfl
                                have hfz47_0 := blk_frozen BK149.out 0
                                have hfz47_1 := blk_frozen BK149.out 1
                                have hfz47_2 := blk_frozen BK149.out 2
                                have hfz47_3 := blk_frozen BK149.out 3
                                have hfz47_4 := blk_frozen BK149.out 4
                                have hfz47_5 := blk_frozen BK149.out 5
                                have hfz47_6 := blk_frozen BK149.out 6
                                have hfz47_7 := blk_frozen BK149.out 7
                                have hfz47_8 := blk_frozen BK149.out 8
                                go_wp2_with (first | ((with_reducible refine gate_callee (f := 24) rfl ?_); refine goesL_ (some 78) rfl rfl Try.func24 (by kernel_rfl) rfl #[.string x4_1] rfl (by (try simp only [List.map_toArray, List.map_cons, List.map_nil]); first | done | rfl | (simp only [List.length_drop, List.length_take]; rfl) | (simp only [ByteArray.size_extract, Nat.min_self]; done) | (simp only [ByteArray.size_extract, Nat.min_self]; rfl)) ?_; (with_reducible refine (vitrineref01_Crc.calls k1 x4_1 t163 _ A44.out).mono ?_); rintro e w' ⟨rfl, ⟨nd, rfl⟩⟩; refine ⟨_, rfl, ?_⟩) | ((with_reducible refine gate_callee (f := 23) rfl ?_); refine goesL_ (some 79) rfl rfl Try.func23 (by kernel_rfl) rfl #[.int .i64 t163, .int .i64 4] rfl (by (try simp only [List.map_toArray, List.map_cons, List.map_nil]); first | done | rfl | (simp only [List.length_drop, List.length_take]; rfl) | (simp only [ByteArray.size_extract, Nat.min_self]; done) | (simp only [ByteArray.size_extract, Nat.min_self]; rfl)) ?_; (with_reducible refine (vitrineref20_bytes.calls k1 t163 4 t164 _ A45.out).mono ?_); rintro e w48 ⟨rfl, hb⟩; refine ⟨_, rfl, ?_⟩; have n0_ := Aside0.mk (blk_below (g := gb149) (o := .cells #[.int .i64 a0_0, .int .i64 a0_1, .int .i64 a0_2, .int .i64 a0_3, .string a0_4, .int .i64 a0_5, .int .i64 a0_6, .string a0_7, .slice A0_8 l0_8.length c0_8] 26 (0, 0)) (by (with_reducible repeat (first | refine blk_drewN ?_ _ | refine blk_drew ?_ | refine blk_alloc ?_ _)); exact BK149.out) hb); have n1_ := Aside0.mk (below_step (by repeat (first | (with_reducible first | exact HB.out | apply below_alloc | apply pw_below_drewN | apply below_drew1 | refine below_set ?_ GE149.out) | exact HB.out)) hb); clear BK149; clear HB; have BK149 := n0_; have HB := n1_; clear n0_ n1_; (try clear hb); (try clear hb2); (try clear hk); (try clear hi)))
                                go_ret2
                                exact ⟨by first | rfl | (simp [errW_none, errW_some] <;> rfl) | (simp [*, errW_none, errW_some] <;> rfl), by repeat (first | (with_reducible first | exact HB.out | apply below_alloc | apply pw_below_drewN | apply below_drew1 | refine below_set ?_ GE149.out) | exact HB.out)⟩
                              · rw [if_neg c46] at H
                                exact absurd H (by simp)
                      · rw [if_neg c22] at H
                        exact absurd H (by simp)
                    · rw [if_neg c20] at H
                      exact absurd H (by simp)
                  · rw [if_neg c19] at H
                    exact absurd H (by simp)
                · rw [if_neg c17] at H
                  exact absurd H (by simp)
              · rw [if_neg c15] at H
                exact absurd H (by simp)
            · rw [if_neg c13] at H
              exact absurd H (by simp)
          · rw [if_neg c12] at H
            exact absurd H (by simp)
        · rw [if_neg c10] at H
          exact absurd H (by simp)
      · rw [if_neg c8] at H
        exact absurd H (by simp)
    · rw [if_neg c6] at H
      exact absurd H (by simp)
  · replace c3 := Bool.eq_false_iff.mpr c3
    subst c3
    have H1 : (some ((⟨#[]⟩ : ByteArray), 60)) = some (r1, r2) := by rw [if_neg (show ¬ (false = true) by decide)] at H; exact H
    clear H
    have H := H1
    clear H1
    simp only [Option.some.injEq, Prod.mk.injEq] at H
    obtain ⟨rfl, rfl⟩ := H
    go_enter Try.func12, Try.ntmps12
    go_wp2_with (first | ((with_reducible refine gate_dst (N := 1) rfl ?_); refine box_event ?hg (N := 1) ?hd (cs := #[.int .i64 a0_0, .int .i64 a0_1, .int .i64 a0_2, .int .i64 a0_3, .string a0_4, .int .i64 a0_5, .int .i64 a0_6, .string a0_7, .slice A0_8 l0_8.length c0_8]) (t := 26) ?hr ?_; (case hd => rfl); (case hg => rfl); (case hr => first | (go_simp; done) | (go_simp; rfl)); intro gb149 hg w49 hbox hb; have n0_ := Aside0.mk (below_step (by repeat (first | (with_reducible first | exact HB.out | apply below_alloc | apply pw_below_drewN | apply below_drew1) | exact HB.out)) hb); have n1_ := Aside0.mk (hbox); have n2_ := Aside0.mk ((by rw [hg]; exact (below_size (by repeat (first | (with_reducible first | exact HB.out | apply below_alloc | apply pw_below_drewN | apply below_drew1) | exact HB.out))) : w.heap.size ≤ gb149)); have n3_ := Aside0.mk ((by rw [hg]; exact (below_size (by repeat (first | (with_reducible first | exact HB.out | apply below_alloc | apply pw_below_drewN | apply below_drew1) | exact HB.out))) : w.heap.size ≤ gb149)); clear HB; have HB := n0_; have BK149 := n1_; have GW149 := n2_; have GE149 := n3_; clear n0_ n1_ n2_ n3_; clear hb hbox hg; have hcz50_0 : w49.cell? ⟨gb149, 0, none⟩ = some (.int .i64 a0_0) := (blk_cell BK149.out 0).trans rfl; have hcz50_1 : w49.cell? ⟨gb149, 1, none⟩ = some (.int .i64 a0_1) := (blk_cell BK149.out 1).trans rfl; have hcz50_2 : w49.cell? ⟨gb149, 2, none⟩ = some (.int .i64 a0_2) := (blk_cell BK149.out 2).trans rfl; have hcz50_3 : w49.cell? ⟨gb149, 3, none⟩ = some (.int .i64 a0_3) := (blk_cell BK149.out 3).trans rfl; have hcz50_4 : w49.cell? ⟨gb149, 4, none⟩ = some (.string a0_4) := (blk_cell BK149.out 4).trans rfl; have hcz50_5 : w49.cell? ⟨gb149, 5, none⟩ = some (.int .i64 a0_5) := (blk_cell BK149.out 5).trans rfl; have hcz50_6 : w49.cell? ⟨gb149, 6, none⟩ = some (.int .i64 a0_6) := (blk_cell BK149.out 6).trans rfl; have hcz50_7 : w49.cell? ⟨gb149, 7, none⟩ = some (.string a0_7) := (blk_cell BK149.out 7).trans rfl; have hcz50_8 : w49.cell? ⟨gb149, 8, none⟩ = some (.slice A0_8 l0_8.length c0_8) := (blk_cell BK149.out 8).trans rfl; have hfz50_0 := blk_frozen BK149.out 0; have hfz50_1 := blk_frozen BK149.out 1; have hfz50_2 := blk_frozen BK149.out 2; have hfz50_3 := blk_frozen BK149.out 3; have hfz50_4 := blk_frozen BK149.out 4; have hfz50_5 := blk_frozen BK149.out 5; have hfz50_6 := blk_frozen BK149.out 6; have hfz50_7 := blk_frozen BK149.out 7; have hfz50_8 := blk_frozen BK149.out 8) | ((with_reducible refine gate_callee (f := 22) rfl ?_); refine goesL_ (some 7) rfl rfl Try.func22 (by kernel_rfl) rfl #[.agg #[.int .i64 a0_0, .int .i64 a0_1, .int .i64 a0_2, .int .i64 a0_3, .string a0_4, .int .i64 a0_5, .int .i64 a0_6, .string a0_7, .slice A0_8 l0_8.length c0_8]] rfl (by (try simp only [List.map_toArray, List.map_cons, List.map_nil]); first | done | rfl | (simp only [List.length_drop, List.length_take]; rfl) | (simp only [ByteArray.size_extract, Nat.min_self]; done) | (simp only [ByteArray.size_extract, Nat.min_self]; rfl)) ?_; (with_reducible refine (vitrineref20_Right.calls k a0_0 a0_1 a0_2 a0_3 a0_4 a0_5 a0_6 a0_7 _ _ l0_8 false _ ?side1 ?side2 A2.out).mono ?_); (case side1 => repeat (first | exact (Kd.C_below HR0_8.out HB.out) | (with_reducible refine Kd.C_alloc ?_ _) | (with_reducible refine Kd.C_drewN ?_ _) | (with_reducible refine Kd.C_drew ?_))); (case side2 => exact HC0_8.out); rintro e w51 ⟨rfl, hb⟩; refine ⟨_, rfl, ?_⟩; have n0_ := Aside0.mk (blk_below (g := gb149) (o := .cells #[.int .i64 a0_0, .int .i64 a0_1, .int .i64 a0_2, .int .i64 a0_3, .string a0_4, .int .i64 a0_5, .int .i64 a0_6, .string a0_7, .slice A0_8 l0_8.length c0_8] 26 (0, 0)) (by (with_reducible repeat (first | refine blk_drewN ?_ _ | refine blk_drew ?_ | refine blk_alloc ?_ _)); exact BK149.out) hb); have n1_ := Aside0.mk (below_step (by repeat (first | (with_reducible first | exact HB.out | apply below_alloc | apply pw_below_drewN | apply below_drew1 | refine below_set ?_ GE149.out) | exact HB.out)) hb); clear BK149; clear HB; have BK149 := n0_; have HB := n1_; clear n0_ n1_; (try clear hb); (try clear hb2); (try clear hk); (try clear hi)))
    go_ret2
    exact ⟨by first | rfl | (simp [errW_none, errW_some] <;> rfl) | (simp [*, errW_none, errW_some] <;> rfl), by repeat (first | (with_reducible first | exact HB.out | apply below_alloc | apply pw_below_drewN | apply below_drew1 | refine below_set ?_ GE149.out) | exact HB.out)⟩

end Go.Proofs.Ytnimhhhbefpifaa.PL20
