/- Printed for this claim by a program of this session over the kit's print program: the Go functions as Lean functions, and proofs that the calls come to these answers. No conditions. -/
import Derived.Test.YtpccfanjdbenlaaPM11x0
import Derived.Test.YtpccfanjdbenlaaPM11x3
import Derived.Test.YtpccfanjdbenlaaPM11x15
import Derived.Test.YtpccfanjdbenlaaPM11x17
import Derived.Test.YtpccfanjdbenlaaPM11x18
namespace Go.Proofs.Ytpccfanjdbenlaa.PM11
open Go.RowKit Go.Proofs.YtpccfanjdbenlaaW.PrintWords Go.Proofs.YtpccfanjdbenlaaW.PrintLast Go.Proofs.YtpccfanjdbenlaaW.PrintMore
attribute [local go_sem] max2_int min2_int max_two min_two max_three min_three max_four min_four   -- for this text's walks alone
set_option linter.unusedVariables false
set_option linter.unusedSimpArgs false

/-! ### vitrineref11_Pixel: function 20 -/
mutual
def vitrineref11_Pixel.j0 : Nat → List Int → Bool → Int → Int → Int → Int → Int → ByteArray → ByteArray → Bool → Option (ByteArray × Int)
  | 0, _, _, _, _, _, _, _, _, _, _ => none
  | k + 1, x1, x28, x239000, x239001, x239002, x239003, x239004, x239005, x239006, x239007 => if x28 = true then (some ((⟨#[]⟩ : ByteArray), 1)) else (vitrineref11_Pixel.l0 k x1 ([] : List ByteArray) 0 x239000 x239001 x239002 x239003 x239004 x239005 x239006 x239007)
def vitrineref11_Pixel.l0 : Nat → List Int → List ByteArray → Int → Int → Int → Int → Int → Int → ByteArray → ByteArray → Bool → Option (ByteArray × Int)
  | 0, _, _, _, _, _, _, _, _, _, _, _ => none
  | k + 1, x1, x6, x7, x239000, x239001, x239002, x239003, x239004, x239005, x239006, x239007 => if x7 < (x1.length : Int) then (if 0 ≤ x7 then (if (rd x1 x7) < 0 then (vitrineref11_Pixel.j2 k x1 x6 x7 true x239000 x239001 x239002 x239003 x239004 x239005 x239006 x239007) else (if 0 ≤ x239002 then (vitrineref11_Pixel.j2 k x1 x6 x7 (decide ((rd x1 x7) ≥ (shl .i64 1 x239002))) x239000 x239001 x239002 x239003 x239004 x239005 x239006 x239007) else (none))) else (none)) else ((vitrineref11_two.f 65535).bind fun t249 => (if x239003 = 0 then ((vitrineref11_same.f k x239000 x239001 x239002 x239003 x239004 x239005 x239006 x239007 x1).bind fun t250 => (vitrineref11_Pixel.j3 k x1 x6 t249 t250 x239000 x239001 x239002 x239003 x239004 x239005 x239006 x239007)) else (if x239003 = 2 then ((vitrineref11_same.f k x239000 x239001 x239002 x239003 x239004 x239005 x239006 x239007 x1).bind fun t251 => (vitrineref11_Pixel.j3 k x1 x6 t249 t251 x239000 x239001 x239002 x239003 x239004 x239005 x239006 x239007)) else (vitrineref11_Pixel.j3 k x1 x6 t249 false x239000 x239001 x239002 x239003 x239004 x239005 x239006 x239007))))
def vitrineref11_Pixel.j2 : Nat → List Int → List ByteArray → Int → Bool → Int → Int → Int → Int → Int → ByteArray → ByteArray → Bool → Option (ByteArray × Int)
  | 0, _, _, _, _, _, _, _, _, _, _, _, _ => none
  | k + 1, x1, x6, x7, x50, x239000, x239001, x239002, x239003, x239004, x239005, x239006, x239007 => if x50 = true then (some ((⟨#[]⟩ : ByteArray), 1)) else (if 0 ≤ x7 then (if x7 < (x1.length : Int) then ((vitrineref11_Wide.f (rd x1 x7) x239002).bind fun t244 => ((vitrineref11_two.f t244).bind fun t245 => (if x6.length < 8796093022208 then (vitrineref11_Pixel.l0 k x1 (x6 ++ [t245]) (wrap64 (x7 + 1)) x239000 x239001 x239002 x239003 x239004 x239005 x239006 x239007) else (none)))) else (none)) else (none))
def vitrineref11_Pixel.j3 : Nat → List Int → List ByteArray → ByteArray → Bool → Int → Int → Int → Int → Int → ByteArray → ByteArray → Bool → Option (ByteArray × Int)
  | 0, _, _, _, _, _, _, _, _, _, _, _, _ => none
  | k + 1, x1, x6, x8, x78, x239000, x239001, x239002, x239003, x239004, x239005, x239006, x239007 => if x78 = true then ((vitrineref11_two.f 0).bind fun t252 => (vitrineref11_Pixel.j4 k x1 x6 t252 x239000 x239001 x239002 x239003 x239004 x239005 x239006 x239007)) else (vitrineref11_Pixel.j4 k x1 x6 x8 x239000 x239001 x239002 x239003 x239004 x239005 x239006 x239007)
def vitrineref11_Pixel.j4 : Nat → List Int → List ByteArray → ByteArray → Int → Int → Int → Int → Int → ByteArray → ByteArray → Bool → Option (ByteArray × Int)
  | 0, _, _, _, _, _, _, _, _, _, _, _ => none
  | k + 1, x1, x6, x8, x239000, x239001, x239002, x239003, x239004, x239005, x239006, x239007 => if x239003 = 0 then (if 0 < (x6.length : Int) then (if (rdOf ByteArray.empty x6 0).size + (rdOf ByteArray.empty x6 0).size ≤ 9223372036854775807 then (if ((rdOf ByteArray.empty x6 0) ++ (rdOf ByteArray.empty x6 0)).size + (rdOf ByteArray.empty x6 0).size ≤ 9223372036854775807 then (if (((rdOf ByteArray.empty x6 0) ++ (rdOf ByteArray.empty x6 0)) ++ (rdOf ByteArray.empty x6 0)).size + x8.size ≤ 9223372036854775807 then (some ((((rdOf ByteArray.empty x6 0) ++ (rdOf ByteArray.empty x6 0)) ++ (rdOf ByteArray.empty x6 0)) ++ x8, 0)) else (none)) else (none)) else (none)) else (none)) else (if x239003 = 2 then (if 0 < (x6.length : Int) then (if 1 < (x6.length : Int) then (if (rdOf ByteArray.empty x6 0).size + (rdOf ByteArray.empty x6 1).size ≤ 9223372036854775807 then (if 2 < (x6.length : Int) then (if ((rdOf ByteArray.empty x6 0) ++ (rdOf ByteArray.empty x6 1)).size + (rdOf ByteArray.empty x6 2).size ≤ 9223372036854775807 then (if (((rdOf ByteArray.empty x6 0) ++ (rdOf ByteArray.empty x6 1)) ++ (rdOf ByteArray.empty x6 2)).size + x8.size ≤ 9223372036854775807 then (some ((((rdOf ByteArray.empty x6 0) ++ (rdOf ByteArray.empty x6 1)) ++ (rdOf ByteArray.empty x6 2)) ++ x8, 0)) else (none)) else (none)) else (none)) else (none)) else (none)) else (none)) else (if x239003 = 4 then (if 0 < (x6.length : Int) then (if (rdOf ByteArray.empty x6 0).size + (rdOf ByteArray.empty x6 0).size ≤ 9223372036854775807 then (if ((rdOf ByteArray.empty x6 0) ++ (rdOf ByteArray.empty x6 0)).size + (rdOf ByteArray.empty x6 0).size ≤ 9223372036854775807 then (if 1 < (x6.length : Int) then (if (((rdOf ByteArray.empty x6 0) ++ (rdOf ByteArray.empty x6 0)) ++ (rdOf ByteArray.empty x6 0)).size + (rdOf ByteArray.empty x6 1).size ≤ 9223372036854775807 then (some ((((rdOf ByteArray.empty x6 0) ++ (rdOf ByteArray.empty x6 0)) ++ (rdOf ByteArray.empty x6 0)) ++ (rdOf ByteArray.empty x6 1), 0)) else (none)) else (none)) else (none)) else (none)) else (none)) else (if x239003 = 6 then (if 0 < (x6.length : Int) then (if 1 < (x6.length : Int) then (if (rdOf ByteArray.empty x6 0).size + (rdOf ByteArray.empty x6 1).size ≤ 9223372036854775807 then (if 2 < (x6.length : Int) then (if ((rdOf ByteArray.empty x6 0) ++ (rdOf ByteArray.empty x6 1)).size + (rdOf ByteArray.empty x6 2).size ≤ 9223372036854775807 then (if 3 < (x6.length : Int) then (if (((rdOf ByteArray.empty x6 0) ++ (rdOf ByteArray.empty x6 1)) ++ (rdOf ByteArray.empty x6 2)).size + (rdOf ByteArray.empty x6 3).size ≤ 9223372036854775807 then (some ((((rdOf ByteArray.empty x6 0) ++ (rdOf ByteArray.empty x6 1)) ++ (rdOf ByteArray.empty x6 2)) ++ (rdOf ByteArray.empty x6 3), 0)) else (none)) else (none)) else (none)) else (none)) else (none)) else (none)) else (none)) else (if 0 < (x1.length : Int) then (if (wrap64 ((wrap64 (3 * (rd x1 0))) + 3)) > (x239005.size : Int) then (some ((⟨#[]⟩ : ByteArray), 29)) else (if x239007 = true then (vitrineref11_Pixel.j5 k x8 (rd x1 0) (decide ((rd x1 0) < (x239006.size : Int))) x239000 x239001 x239002 x239003 x239004 x239005 x239006 x239007) else (vitrineref11_Pixel.j5 k x8 (rd x1 0) false x239000 x239001 x239002 x239003 x239004 x239005 x239006 x239007))) else (none)))))
def vitrineref11_Pixel.j5 : Nat → ByteArray → Int → Bool → Int → Int → Int → Int → Int → ByteArray → ByteArray → Bool → Option (ByteArray × Int)
  | 0, _, _, _, _, _, _, _, _, _, _, _ => none
  | k + 1, x8, x9, x165, x239000, x239001, x239002, x239003, x239004, x239005, x239006, x239007 => if x165 = true then (if 0 ≤ x9 then (if x9 < (x239006.size : Int) then ((vitrineref11_two.f (wrap64 (257 * (wrap64 (bt x239006 x9))))).bind fun t268 => (vitrineref11_Pixel.j6 k t268 x9 x239000 x239001 x239002 x239003 x239004 x239005 x239006 x239007)) else (none)) else (none)) else (vitrineref11_Pixel.j6 k x8 x9 x239000 x239001 x239002 x239003 x239004 x239005 x239006 x239007)
def vitrineref11_Pixel.j6 : Nat → ByteArray → Int → Int → Int → Int → Int → Int → ByteArray → ByteArray → Bool → Option (ByteArray × Int)
  | 0, _, _, _, _, _, _, _, _, _, _ => none
  | k + 1, x8, x9, x239000, x239001, x239002, x239003, x239004, x239005, x239006, x239007 => if 0 ≤ (wrap64 (3 * x9)) then (if (wrap64 (3 * x9)) < (x239005.size : Int) then ((vitrineref11_two.f (wrap64 (257 * (wrap64 (bt x239005 (wrap64 (3 * x9))))))).bind fun t269 => (if 0 ≤ (wrap64 ((wrap64 (3 * x9)) + 1)) then (if (wrap64 ((wrap64 (3 * x9)) + 1)) < (x239005.size : Int) then ((vitrineref11_two.f (wrap64 (257 * (wrap64 (bt x239005 (wrap64 ((wrap64 (3 * x9)) + 1))))))).bind fun t270 => (if t269.size + t270.size ≤ 9223372036854775807 then (if 0 ≤ (wrap64 ((wrap64 (3 * x9)) + 2)) then (if (wrap64 ((wrap64 (3 * x9)) + 2)) < (x239005.size : Int) then ((vitrineref11_two.f (wrap64 (257 * (wrap64 (bt x239005 (wrap64 ((wrap64 (3 * x9)) + 2))))))).bind fun t271 => (if (t269 ++ t270).size + t271.size ≤ 9223372036854775807 then (if ((t269 ++ t270) ++ t271).size + x8.size ≤ 9223372036854775807 then (some (((t269 ++ t270) ++ t271) ++ x8, 0)) else (none)) else (none))) else (none)) else (none)) else (none))) else (none)) else (none))) else (none)) else (none)
end
def vitrineref11_Pixel.f (k : Nat) (a0_0 : Int) (a0_1 : Int) (a0_2 : Int) (a0_3 : Int) (a0_4 : Int) (a0_5 : ByteArray) (a0_6 : ByteArray) (a0_7 : Bool) (l1 : List Int) : Option (ByteArray × Int) := (vitrineref08_Samples.f k a0_3).bind fun t239 => (if (l1.length : Int) = t239 then (if (l1.length : Int) = 0 then (vitrineref11_Pixel.j0 k l1 true a0_0 a0_1 a0_2 a0_3 a0_4 a0_5 a0_6 a0_7) else ((vitrineref11_Depth.f a0_2).bind fun t240 => (vitrineref11_Pixel.j0 k l1 (!t240) a0_0 a0_1 a0_2 a0_3 a0_4 a0_5 a0_6 a0_7))) else (vitrineref11_Pixel.j0 k l1 true a0_0 a0_1 a0_2 a0_3 a0_4 a0_5 a0_6 a0_7))
theorem vitrineref11_Pixel.mono_l : ∀ k, (∀ y0 y1 y2 y3 y4 y5 y6 y7 y8 y9, LeO (vitrineref11_Pixel.j0 k y0 y1 y2 y3 y4 y5 y6 y7 y8 y9) (vitrineref11_Pixel.j0 (k + 1) y0 y1 y2 y3 y4 y5 y6 y7 y8 y9)) ∧ (∀ y0 y1 y2 y3 y4 y5 y6 y7 y8 y9 y10, LeO (vitrineref11_Pixel.l0 k y0 y1 y2 y3 y4 y5 y6 y7 y8 y9 y10) (vitrineref11_Pixel.l0 (k + 1) y0 y1 y2 y3 y4 y5 y6 y7 y8 y9 y10)) ∧ (∀ y0 y1 y2 y3 y4 y5 y6 y7 y8 y9 y10 y11, LeO (vitrineref11_Pixel.j2 k y0 y1 y2 y3 y4 y5 y6 y7 y8 y9 y10 y11) (vitrineref11_Pixel.j2 (k + 1) y0 y1 y2 y3 y4 y5 y6 y7 y8 y9 y10 y11)) ∧ (∀ y0 y1 y2 y3 y4 y5 y6 y7 y8 y9 y10 y11, LeO (vitrineref11_Pixel.j3 k y0 y1 y2 y3 y4 y5 y6 y7 y8 y9 y10 y11) (vitrineref11_Pixel.j3 (k + 1) y0 y1 y2 y3 y4 y5 y6 y7 y8 y9 y10 y11)) ∧ (∀ y0 y1 y2 y3 y4 y5 y6 y7 y8 y9 y10, LeO (vitrineref11_Pixel.j4 k y0 y1 y2 y3 y4 y5 y6 y7 y8 y9 y10) (vitrineref11_Pixel.j4 (k + 1) y0 y1 y2 y3 y4 y5 y6 y7 y8 y9 y10)) ∧ (∀ y0 y1 y2 y3 y4 y5 y6 y7 y8 y9 y10, LeO (vitrineref11_Pixel.j5 k y0 y1 y2 y3 y4 y5 y6 y7 y8 y9 y10) (vitrineref11_Pixel.j5 (k + 1) y0 y1 y2 y3 y4 y5 y6 y7 y8 y9 y10)) ∧ (∀ y0 y1 y2 y3 y4 y5 y6 y7 y8 y9, LeO (vitrineref11_Pixel.j6 k y0 y1 y2 y3 y4 y5 y6 y7 y8 y9) (vitrineref11_Pixel.j6 (k + 1) y0 y1 y2 y3 y4 y5 y6 y7 y8 y9))
  | 0 => ⟨fun _ _ _ _ _ _ _ _ _ _ r h => by simp [vitrineref11_Pixel.j0] at h, fun _ _ _ _ _ _ _ _ _ _ _ r h => by simp [vitrineref11_Pixel.l0] at h, fun _ _ _ _ _ _ _ _ _ _ _ _ r h => by simp [vitrineref11_Pixel.j2] at h, fun _ _ _ _ _ _ _ _ _ _ _ _ r h => by simp [vitrineref11_Pixel.j3] at h, fun _ _ _ _ _ _ _ _ _ _ _ r h => by simp [vitrineref11_Pixel.j4] at h, fun _ _ _ _ _ _ _ _ _ _ _ r h => by simp [vitrineref11_Pixel.j5] at h, fun _ _ _ _ _ _ _ _ _ _ r h => by simp [vitrineref11_Pixel.j6] at h⟩
  | k + 1 => by
    obtain ⟨ih0, ih1, ih2, ih3, ih4, ih5, ih6⟩ := vitrineref11_Pixel.mono_l k
    refine ⟨?_, ?_, ?_, ?_, ?_, ?_, ?_⟩
    · intro y0 y1 y2 y3 y4 y5 y6 y7 y8 y9
      unfold vitrineref11_Pixel.j0
      repeat' first
      | (with_reducible exact ih0 _ _ _ _ _ _ _ _ _ _)
      | (with_reducible exact ih1 _ _ _ _ _ _ _ _ _ _ _)
      | (with_reducible exact ih2 _ _ _ _ _ _ _ _ _ _ _ _)
      | (with_reducible exact ih3 _ _ _ _ _ _ _ _ _ _ _ _)
      | (with_reducible exact ih4 _ _ _ _ _ _ _ _ _ _ _)
      | (with_reducible exact ih5 _ _ _ _ _ _ _ _ _ _ _)
      | (with_reducible exact ih6 _ _ _ _ _ _ _ _ _ _)
      | (with_reducible exact vitrineref08_Samples.mono _ _)
      | (with_reducible exact vitrineref11_same.mono _ _ _ _ _ _ _ _ _ _)
      | (with_reducible exact LeO.refl _)
      | (with_reducible exact LeO.none _)
      | (with_reducible refine LeO.ite ?_ ?_)
      | (with_reducible refine LeO.bind ?_ (fun _ => ?_))
      | exact ih0 _ _ _ _ _ _ _ _ _ _
      | exact ih1 _ _ _ _ _ _ _ _ _ _ _
      | exact ih2 _ _ _ _ _ _ _ _ _ _ _ _
      | exact ih3 _ _ _ _ _ _ _ _ _ _ _ _
      | exact ih4 _ _ _ _ _ _ _ _ _ _ _
      | exact ih5 _ _ _ _ _ _ _ _ _ _ _
      | exact ih6 _ _ _ _ _ _ _ _ _ _
      | exact vitrineref08_Samples.mono _ _
      | exact vitrineref11_same.mono _ _ _ _ _ _ _ _ _ _
      | exact LeO.none _
      | refine LeO.ite ?_ ?_
      | refine LeO.bind ?_ (fun _ => ?_)
    · intro y0 y1 y2 y3 y4 y5 y6 y7 y8 y9 y10
      unfold vitrineref11_Pixel.l0
      repeat' first
      | (with_reducible exact ih0 _ _ _ _ _ _ _ _ _ _)
      | (with_reducible exact ih1 _ _ _ _ _ _ _ _ _ _ _)
      | (with_reducible exact ih2 _ _ _ _ _ _ _ _ _ _ _ _)
      | (with_reducible exact ih3 _ _ _ _ _ _ _ _ _ _ _ _)
      | (with_reducible exact ih4 _ _ _ _ _ _ _ _ _ _ _)
      | (with_reducible exact ih5 _ _ _ _ _ _ _ _ _ _ _)
      | (with_reducible exact ih6 _ _ _ _ _ _ _ _ _ _)
      | (with_reducible exact vitrineref08_Samples.mono _ _)
      | (with_reducible exact vitrineref11_same.mono _ _ _ _ _ _ _ _ _ _)
      | (with_reducible exact LeO.refl _)
      | (with_reducible exact LeO.none _)
      | (with_reducible refine LeO.ite ?_ ?_)
      | (with_reducible refine LeO.bind ?_ (fun _ => ?_))
      | exact ih0 _ _ _ _ _ _ _ _ _ _
      | exact ih1 _ _ _ _ _ _ _ _ _ _ _
      | exact ih2 _ _ _ _ _ _ _ _ _ _ _ _
      | exact ih3 _ _ _ _ _ _ _ _ _ _ _ _
      | exact ih4 _ _ _ _ _ _ _ _ _ _ _
      | exact ih5 _ _ _ _ _ _ _ _ _ _ _
      | exact ih6 _ _ _ _ _ _ _ _ _ _
      | exact vitrineref08_Samples.mono _ _
      | exact vitrineref11_same.mono _ _ _ _ _ _ _ _ _ _
      | exact LeO.none _
      | refine LeO.ite ?_ ?_
      | refine LeO.bind ?_ (fun _ => ?_)
    · intro y0 y1 y2 y3 y4 y5 y6 y7 y8 y9 y10 y11
      unfold vitrineref11_Pixel.j2
      repeat' first
      | (with_reducible exact ih0 _ _ _ _ _ _ _ _ _ _)
      | (with_reducible exact ih1 _ _ _ _ _ _ _ _ _ _ _)
      | (with_reducible exact ih2 _ _ _ _ _ _ _ _ _ _ _ _)
      | (with_reducible exact ih3 _ _ _ _ _ _ _ _ _ _ _ _)
      | (with_reducible exact ih4 _ _ _ _ _ _ _ _ _ _ _)
      | (with_reducible exact ih5 _ _ _ _ _ _ _ _ _ _ _)
      | (with_reducible exact ih6 _ _ _ _ _ _ _ _ _ _)
      | (with_reducible exact vitrineref08_Samples.mono _ _)
      | (with_reducible exact vitrineref11_same.mono _ _ _ _ _ _ _ _ _ _)
      | (with_reducible exact LeO.refl _)
      | (with_reducible exact LeO.none _)
      | (with_reducible refine LeO.ite ?_ ?_)
      | (with_reducible refine LeO.bind ?_ (fun _ => ?_))
      | exact ih0 _ _ _ _ _ _ _ _ _ _
      | exact ih1 _ _ _ _ _ _ _ _ _ _ _
      | exact ih2 _ _ _ _ _ _ _ _ _ _ _ _
      | exact ih3 _ _ _ _ _ _ _ _ _ _ _ _
      | exact ih4 _ _ _ _ _ _ _ _ _ _ _
      | exact ih5 _ _ _ _ _ _ _ _ _ _ _
      | exact ih6 _ _ _ _ _ _ _ _ _ _
      | exact vitrineref08_Samples.mono _ _
      | exact vitrineref11_same.mono _ _ _ _ _ _ _ _ _ _
      | exact LeO.none _
      | refine LeO.ite ?_ ?_
      | refine LeO.bind ?_ (fun _ => ?_)
    · intro y0 y1 y2 y3 y4 y5 y6 y7 y8 y9 y10 y11
      unfold vitrineref11_Pixel.j3
      repeat' first
      | (with_reducible exact ih0 _ _ _ _ _ _ _ _ _ _)
      | (with_reducible exact ih1 _ _ _ _ _ _ _ _ _ _ _)
      | (with_reducible exact ih2 _ _ _ _ _ _ _ _ _ _ _ _)
      | (with_reducible exact ih3 _ _ _ _ _ _ _ _ _ _ _ _)
      | (with_reducible exact ih4 _ _ _ _ _ _ _ _ _ _ _)
      | (with_reducible exact ih5 _ _ _ _ _ _ _ _ _ _ _)
      | (with_reducible exact ih6 _ _ _ _ _ _ _ _ _ _)
      | (with_reducible exact vitrineref08_Samples.mono _ _)
      | (with_reducible exact vitrineref11_same.mono _ _ _ _ _ _ _ _ _ _)
      | (with_reducible exact LeO.refl _)
      | (with_reducible exact LeO.none _)
      | (with_reducible refine LeO.ite ?_ ?_)
      | (with_reducible refine LeO.bind ?_ (fun _ => ?_))
      | exact ih0 _ _ _ _ _ _ _ _ _ _
      | exact ih1 _ _ _ _ _ _ _ _ _ _ _
      | exact ih2 _ _ _ _ _ _ _ _ _ _ _ _
      | exact ih3 _ _ _ _ _ _ _ _ _ _ _ _
      | exact ih4 _ _ _ _ _ _ _ _ _ _ _
      | exact ih5 _ _ _ _ _ _ _ _ _ _ _
      | exact ih6 _ _ _ _ _ _ _ _ _ _
      | exact vitrineref08_Samples.mono _ _
      | exact vitrineref11_same.mono _ _ _ _ _ _ _ _ _ _
      | exact LeO.none _
      | refine LeO.ite ?_ ?_
      | refine LeO.bind ?_ (fun _ => ?_)
    · intro y0 y1 y2 y3 y4 y5 y6 y7 y8 y9 y10
      unfold vitrineref11_Pixel.j4
      repeat' first
      | (with_reducible exact ih0 _ _ _ _ _ _ _ _ _ _)
      | (with_reducible exact ih1 _ _ _ _ _ _ _ _ _ _ _)
      | (with_reducible exact ih2 _ _ _ _ _ _ _ _ _ _ _ _)
      | (with_reducible exact ih3 _ _ _ _ _ _ _ _ _ _ _ _)
      | (with_reducible exact ih4 _ _ _ _ _ _ _ _ _ _ _)
      | (with_reducible exact ih5 _ _ _ _ _ _ _ _ _ _ _)
      | (with_reducible exact ih6 _ _ _ _ _ _ _ _ _ _)
      | (with_reducible exact vitrineref08_Samples.mono _ _)
      | (with_reducible exact vitrineref11_same.mono _ _ _ _ _ _ _ _ _ _)
      | (with_reducible exact LeO.refl _)
      | (with_reducible exact LeO.none _)
      | (with_reducible refine LeO.ite ?_ ?_)
      | (with_reducible refine LeO.bind ?_ (fun _ => ?_))
      | exact ih0 _ _ _ _ _ _ _ _ _ _
      | exact ih1 _ _ _ _ _ _ _ _ _ _ _
      | exact ih2 _ _ _ _ _ _ _ _ _ _ _ _
      | exact ih3 _ _ _ _ _ _ _ _ _ _ _ _
      | exact ih4 _ _ _ _ _ _ _ _ _ _ _
      | exact ih5 _ _ _ _ _ _ _ _ _ _ _
      | exact ih6 _ _ _ _ _ _ _ _ _ _
      | exact vitrineref08_Samples.mono _ _
      | exact vitrineref11_same.mono _ _ _ _ _ _ _ _ _ _
      | exact LeO.none _
      | refine LeO.ite ?_ ?_
      | refine LeO.bind ?_ (fun _ => ?_)
    · intro y0 y1 y2 y3 y4 y5 y6 y7 y8 y9 y10
      unfold vitrineref11_Pixel.j5
      repeat' first
      | (with_reducible exact ih0 _ _ _ _ _ _ _ _ _ _)
      | (with_reducible exact ih1 _ _ _ _ _ _ _ _ _ _ _)
      | (with_reducible exact ih2 _ _ _ _ _ _ _ _ _ _ _ _)
      | (with_reducible exact ih3 _ _ _ _ _ _ _ _ _ _ _ _)
      | (with_reducible exact ih4 _ _ _ _ _ _ _ _ _ _ _)
      | (with_reducible exact ih5 _ _ _ _ _ _ _ _ _ _ _)
      | (with_reducible exact ih6 _ _ _ _ _ _ _ _ _ _)
      | (with_reducible exact vitrineref08_Samples.mono _ _)
      | (with_reducible exact vitrineref11_same.mono _ _ _ _ _ _ _ _ _ _)
      | (with_reducible exact LeO.refl _)
      | (with_reducible exact LeO.none _)
      | (with_reducible refine LeO.ite ?_ ?_)
      | (with_reducible refine LeO.bind ?_ (fun _ => ?_))
      | exact ih0 _ _ _ _ _ _ _ _ _ _
      | exact ih1 _ _ _ _ _ _ _ _ _ _ _
      | exact ih2 _ _ _ _ _ _ _ _ _ _ _ _
      | exact ih3 _ _ _ _ _ _ _ _ _ _ _ _
      | exact ih4 _ _ _ _ _ _ _ _ _ _ _
      | exact ih5 _ _ _ _ _ _ _ _ _ _ _
      | exact ih6 _ _ _ _ _ _ _ _ _ _
      | exact vitrineref08_Samples.mono _ _
      | exact vitrineref11_same.mono _ _ _ _ _ _ _ _ _ _
      | exact LeO.none _
      | refine LeO.ite ?_ ?_
      | refine LeO.bind ?_ (fun _ => ?_)
    · intro y0 y1 y2 y3 y4 y5 y6 y7 y8 y9
      unfold vitrineref11_Pixel.j6
      repeat' first
      | (with_reducible exact ih0 _ _ _ _ _ _ _ _ _ _)
      | (with_reducible exact ih1 _ _ _ _ _ _ _ _ _ _ _)
      | (with_reducible exact ih2 _ _ _ _ _ _ _ _ _ _ _ _)
      | (with_reducible exact ih3 _ _ _ _ _ _ _ _ _ _ _ _)
      | (with_reducible exact ih4 _ _ _ _ _ _ _ _ _ _ _)
      | (with_reducible exact ih5 _ _ _ _ _ _ _ _ _ _ _)
      | (with_reducible exact ih6 _ _ _ _ _ _ _ _ _ _)
      | (with_reducible exact vitrineref08_Samples.mono _ _)
      | (with_reducible exact vitrineref11_same.mono _ _ _ _ _ _ _ _ _ _)
      | (with_reducible exact LeO.refl _)
      | (with_reducible exact LeO.none _)
      | (with_reducible refine LeO.ite ?_ ?_)
      | (with_reducible refine LeO.bind ?_ (fun _ => ?_))
      | exact ih0 _ _ _ _ _ _ _ _ _ _
      | exact ih1 _ _ _ _ _ _ _ _ _ _ _
      | exact ih2 _ _ _ _ _ _ _ _ _ _ _ _
      | exact ih3 _ _ _ _ _ _ _ _ _ _ _ _
      | exact ih4 _ _ _ _ _ _ _ _ _ _ _
      | exact ih5 _ _ _ _ _ _ _ _ _ _ _
      | exact ih6 _ _ _ _ _ _ _ _ _ _
      | exact vitrineref08_Samples.mono _ _
      | exact vitrineref11_same.mono _ _ _ _ _ _ _ _ _ _
      | exact LeO.none _
      | refine LeO.ite ?_ ?_
      | refine LeO.bind ?_ (fun _ => ?_)
theorem vitrineref11_Pixel.mono : ∀ a0 a1 a2 a3 a4 a5 a6 a7 a8 k, LeO (vitrineref11_Pixel.f k a0 a1 a2 a3 a4 a5 a6 a7 a8) (vitrineref11_Pixel.f (k + 1) a0 a1 a2 a3 a4 a5 a6 a7 a8) := by
  intro a0 a1 a2 a3 a4 a5 a6 a7 a8 k
  obtain ⟨ih0, ih1, ih2, ih3, ih4, ih5, ih6⟩ := vitrineref11_Pixel.mono_l k
  unfold vitrineref11_Pixel.f
  repeat' first
      | (with_reducible exact ih0 _ _ _ _ _ _ _ _ _ _)
      | (with_reducible exact ih1 _ _ _ _ _ _ _ _ _ _ _)
      | (with_reducible exact ih2 _ _ _ _ _ _ _ _ _ _ _ _)
      | (with_reducible exact ih3 _ _ _ _ _ _ _ _ _ _ _ _)
      | (with_reducible exact ih4 _ _ _ _ _ _ _ _ _ _ _)
      | (with_reducible exact ih5 _ _ _ _ _ _ _ _ _ _ _)
      | (with_reducible exact ih6 _ _ _ _ _ _ _ _ _ _)
      | (with_reducible exact vitrineref08_Samples.mono _ _)
      | (with_reducible exact vitrineref11_same.mono _ _ _ _ _ _ _ _ _ _)
      | (with_reducible exact LeO.refl _)
      | (with_reducible exact LeO.none _)
      | (with_reducible refine LeO.ite ?_ ?_)
      | (with_reducible refine LeO.bind ?_ (fun _ => ?_))
      | exact ih0 _ _ _ _ _ _ _ _ _ _
      | exact ih1 _ _ _ _ _ _ _ _ _ _ _
      | exact ih2 _ _ _ _ _ _ _ _ _ _ _ _
      | exact ih3 _ _ _ _ _ _ _ _ _ _ _ _
      | exact ih4 _ _ _ _ _ _ _ _ _ _ _
      | exact ih5 _ _ _ _ _ _ _ _ _ _ _
      | exact ih6 _ _ _ _ _ _ _ _ _ _
      | exact vitrineref08_Samples.mono _ _
      | exact vitrineref11_same.mono _ _ _ _ _ _ _ _ _ _
      | exact LeO.none _
      | refine LeO.ite ?_ ?_
      | refine LeO.bind ?_ (fun _ => ?_)
def vitrineref11_Pixel.T7 : Bool × List (List Nat × List Nat) := (true, [([], []), ([], []), ([0, 1], [0, 1]), ([2], [2]), ([3], [3]), ([4], [4]), ([5], [5]), ([5], [5]), ([6, 7, 5], [5, 6, 7]), ([8, 5], [5, 8]), ([5], [5]), ([10, 5], [5, 10]), ([11, 5], [5, 11]), ([12, 5], [5, 12]), ([9, 13, 5], [5, 9, 13]), ([5, 14], [5, 14])])
def vitrineref11_Pixel.B7 : List Nat := [0, 0, 3, 7, 15, 31, 63, 63, 255, 511, 63, 1087, 3135, 7231, 16383, 32767]
theorem vitrineref11_Pixel.tab7 : rtab .any (opsOf Try.f20 7) = vitrineref11_Pixel.T7 := by kernel_rfl
theorem vitrineref11_Pixel.bits7 : waitsOk vitrineref11_Pixel.T7.2 vitrineref11_Pixel.B7 = true := by kernel_rfl
def vitrineref11_Pixel.T9 : Bool × List (List Nat × List Nat) := (true, [([], []), ([], []), ([], []), ([1, 2], [1, 2]), ([3], [3]), ([], []), ([5], [5]), ([6], [6]), ([4, 7], [4, 7]), ([8, 8], [8]), ([9], [9]), ([0, 10, 9], [0, 10]), ([11, 11, 0, 1, 2, 3, 4, 5, 6, 7, 8, 9, 10, 11], [0, 11])])
def vitrineref11_Pixel.B9 : List Nat := [0, 0, 0, 6, 14, 0, 32, 96, 254, 510, 1022, 2047, 4095]
theorem vitrineref11_Pixel.tab9 : rtab .any (opsOf Try.f20 9) = vitrineref11_Pixel.T9 := by kernel_rfl
theorem vitrineref11_Pixel.bits9 : waitsOk vitrineref11_Pixel.T9.2 vitrineref11_Pixel.B9 = true := by kernel_rfl
def vitrineref11_Pixel.T15 : Bool × List (List Nat × List Nat) := (true, [([], []), ([0], [0]), ([1], [1]), ([], []), ([3], [3]), ([4], [4]), ([2, 5], [2, 5]), ([], []), ([7], [7]), ([8], [8]), ([6, 9], [6, 9]), ([], []), ([10, 11], [10, 11]), ([12, 0, 1, 2, 3, 4, 5, 6, 7, 8, 9, 10, 11, 12], [12]), ([13, 0, 1, 2, 3, 4, 5, 6, 7, 8, 9, 10, 11, 12, 13], [])])
def vitrineref11_Pixel.B15 : List Nat := [0, 1, 3, 0, 8, 24, 63, 0, 128, 384, 1023, 0, 4095, 8191, 16383]
theorem vitrineref11_Pixel.tab15 : rtab .any (opsOf Try.f20 15) = vitrineref11_Pixel.T15 := by kernel_rfl
theorem vitrineref11_Pixel.bits15 : waitsOk vitrineref11_Pixel.T15.2 vitrineref11_Pixel.B15 = true := by kernel_rfl
def vitrineref11_Pixel.T17 : Bool × List (List Nat × List Nat) := (true, [([], []), ([0], [0]), ([1], [1]), ([], []), ([3], [3]), ([4], [4]), ([2, 5], [2, 5]), ([], []), ([7], [7]), ([8], [8]), ([6, 9], [6, 9]), ([], []), ([10, 11], [10, 11]), ([12, 0, 1, 2, 3, 4, 5, 6, 7, 8, 9, 10, 11, 12], [12]), ([13, 0, 1, 2, 3, 4, 5, 6, 7, 8, 9, 10, 11, 12, 13], [])])
def vitrineref11_Pixel.B17 : List Nat := [0, 1, 3, 0, 8, 24, 63, 0, 128, 384, 1023, 0, 4095, 8191, 16383]
theorem vitrineref11_Pixel.tab17 : rtab .any (opsOf Try.f20 17) = vitrineref11_Pixel.T17 := by kernel_rfl
theorem vitrineref11_Pixel.bits17 : waitsOk vitrineref11_Pixel.T17.2 vitrineref11_Pixel.B17 = true := by kernel_rfl
def vitrineref11_Pixel.T19 : Bool × List (List Nat × List Nat) := (true, [([], []), ([0], [0]), ([1], [1]), ([], []), ([3], [3]), ([4], [4]), ([2, 5], [2, 5]), ([], []), ([7], [7]), ([8], [8]), ([6, 9], [6, 9]), ([], []), ([11], [11]), ([12], [12]), ([10, 13], [10, 13]), ([14, 0, 1, 2, 3, 4, 5, 6, 7, 8, 9, 10, 11, 12, 13, 14], [14]), ([15, 0, 1, 2, 3, 4, 5, 6, 7, 8, 9, 10, 11, 12, 13, 14, 15], [])])
def vitrineref11_Pixel.B19 : List Nat := [0, 1, 3, 0, 8, 24, 63, 0, 128, 384, 1023, 0, 2048, 6144, 16383, 32767, 65535]
theorem vitrineref11_Pixel.tab19 : rtab .any (opsOf Try.f20 19) = vitrineref11_Pixel.T19 := by kernel_rfl
theorem vitrineref11_Pixel.bits19 : waitsOk vitrineref11_Pixel.T19.2 vitrineref11_Pixel.B19 = true := by kernel_rfl
def vitrineref11_Pixel.T21 : Bool × List (List Nat × List Nat) := (true, [([], []), ([0], [0]), ([1], [1]), ([], []), ([3], [3]), ([4], [4]), ([2, 5], [2, 5]), ([], []), ([7], [7]), ([8], [8]), ([6, 9], [6, 9]), ([], []), ([11], [11]), ([12], [12]), ([10, 13], [10, 13]), ([14, 0, 1, 2, 3, 4, 5, 6, 7, 8, 9, 10, 11, 12, 13, 14], [14]), ([15, 0, 1, 2, 3, 4, 5, 6, 7, 8, 9, 10, 11, 12, 13, 14, 15], [])])
def vitrineref11_Pixel.B21 : List Nat := [0, 1, 3, 0, 8, 24, 63, 0, 128, 384, 1023, 0, 2048, 6144, 16383, 32767, 65535]
theorem vitrineref11_Pixel.tab21 : rtab .any (opsOf Try.f20 21) = vitrineref11_Pixel.T21 := by kernel_rfl
theorem vitrineref11_Pixel.bits21 : waitsOk vitrineref11_Pixel.T21.2 vitrineref11_Pixel.B21 = true := by kernel_rfl
def vitrineref11_Pixel.T27 : Bool × List (List Nat × List Nat) := (true, [([], []), ([0], [0]), ([], []), ([2], [2]), ([1, 3], [1, 3]), ([4], [4]), ([5], [5]), ([6], [6]), ([], []), ([8], [8]), ([], []), ([10], [10]), ([11], [11]), ([9, 12], [9, 12]), ([13], [13]), ([14], [14]), ([15, 7], [15]), ([7, 16], [7, 16]), ([], []), ([18], [18]), ([], []), ([20], [20]), ([21], [21]), ([19, 22], [19, 22]), ([23], [23]), ([24], [24]), ([25, 16], [25]), ([17, 26], [17, 26]), ([], []), ([27, 28], [27, 28]), ([29, 26, 0, 1, 2, 3, 4, 5, 6, 7, 8, 9, 10, 11, 12, 13, 14, 15, 16, 17, 18, 19, 20, 21, 22, 23, 24, 25, 26, 27, 28, 29], [29]), ([30, 0, 1, 2, 3, 4, 5, 6, 7, 8, 9, 10, 11, 12, 13, 14, 15, 16, 17, 18, 19, 20, 21, 22, 23, 24, 25, 26, 27, 28, 29, 30], [])])
def vitrineref11_Pixel.B27 : List Nat := [0, 1, 0, 4, 15, 31, 63, 127, 0, 256, 0, 1024, 3072, 7936, 16128, 32512, 65535, 131071, 0, 262144, 0, 1048576, 3145728, 8126464, 16515072, 33292288, 66977791, 134217727, 0, 536870911, 1073741823, 2147483647]
theorem vitrineref11_Pixel.tab27 : rtab .any (opsOf Try.f20 27) = vitrineref11_Pixel.T27 := by kernel_rfl
theorem vitrineref11_Pixel.bits27 : waitsOk vitrineref11_Pixel.T27.2 vitrineref11_Pixel.B27 = true := by kernel_rfl
set_option maxHeartbeats 8000000 in
set_option maxRecDepth 100000 in
theorem vitrineref11_Pixel.calls (k : Nat) (a0_0 : Int) (a0_1 : Int) (a0_2 : Int) (a0_3 : Int) (a0_4 : Int) (a0_5 : ByteArray) (a0_6 : ByteArray) (a0_7 : Bool) (A1 : Option Addr) (c1 : Nat) (l1 : List Int) (r1 : ByteArray) (r2 : Int) (w : World) (hr1 : Kd.C (Kd.int .i64) w A1 l1.length l1) (hc1 : l1.length ≤ c1) (h : vitrineref11_Pixel.f k a0_0 a0_1 a0_2 a0_3 a0_4 a0_5 a0_6 a0_7 l1 = some (r1, r2)) :
    Calls Try.prog 20 #[.agg #[.int .i64 a0_0, .int .i64 a0_1, .int .i64 a0_2, .int .i64 a0_3, .int .i64 a0_4, .string a0_5, .string a0_6, .bool a0_7], .slice A1 l1.length c1] w fun e w' => e = .returned (.tuple #[.string r1, .int .i64 r2]) ∧ Below w.heap.size w w' := by
 have hu38 := Try.underlying38
 have HR1 := Aside0.mk hr1
 have HC1 := Aside0.mk hc1
 clear hr1 hc1
 have HB := Aside0.mk (Below.refl w.heap.size w)
 have H : ((vitrineref08_Samples.f k a0_3).bind fun t239 => (if (l1.length : Int) = t239 then (if (l1.length : Int) = 0 then (vitrineref11_Pixel.j0 k l1 true a0_0 a0_1 a0_2 a0_3 a0_4 a0_5 a0_6 a0_7) else ((vitrineref11_Depth.f a0_2).bind fun t240 => (vitrineref11_Pixel.j0 k l1 (!t240) a0_0 a0_1 a0_2 a0_3 a0_4 a0_5 a0_6 a0_7))) else (vitrineref11_Pixel.j0 k l1 true a0_0 a0_1 a0_2 a0_3 a0_4 a0_5 a0_6 a0_7))) = some (r1, r2) := h
 clear h
 have HC3 := Aside0.mk H
 clear H
 go_enter Try.func20, Try.ntmps20
 go_upto_region 1 with (first | ((with_reducible refine gate_dst (N := 2) rfl ?_); (try (refine gate_guard (by rfl) ?_; dsimp only)); refine box_event ?hg (N := 2) ?hd (cs := #[.int .i64 a0_0, .int .i64 a0_1, .int .i64 a0_2, .int .i64 a0_3, .int .i64 a0_4, .string a0_5, .string a0_6, .bool a0_7]) (t := 38) ?hr ?_; (case hd => rfl); (case hg => rfl); (case hr => first | (go_simp; done) | (go_simp; rfl)); intro gb238 hg w4 hbox hb; have n0_ := Aside0.mk (below_step (by repeat (first | (with_reducible first | exact HB.out | apply below_alloc | apply pw_below_drewN | apply below_drew1) | exact HB.out)) hb); have n1_ := Aside0.mk (hbox); have n2_ := Aside0.mk ((by rw [hg]; exact (below_size (by repeat (first | (with_reducible first | exact HB.out | apply below_alloc | apply pw_below_drewN | apply below_drew1) | exact HB.out))) : w.heap.size ≤ gb238)); have n3_ := Aside0.mk ((by rw [hg]; exact (below_size (by repeat (first | (with_reducible first | exact HB.out | apply below_alloc | apply pw_below_drewN | apply below_drew1) | exact HB.out))) : w.heap.size ≤ gb238)); clear HB; have HB := n0_; have BK238 := n1_; have GW238 := n2_; have GE238 := n3_; clear n0_ n1_ n2_ n3_; clear hb hbox hg))
 (try simp only [Act.put, List.setIfInBounds_toArray, List.set_cons_zero, List.set_cons_succ])
 go_cut [28] (fun v28 wc => ∃ (kq : Nat) (x28_2 : Bool), v28 = .bool x28_2 ∧ Aside0 (vitrineref11_Pixel.j0 kq l1 x28_2 a0_0 a0_1 a0_2 a0_3 a0_4 a0_5 a0_6 a0_7 = some (r1, r2)) ∧ Aside0 (kq ≤ k) ∧ Aside0 (wc.heap[gb238]? = some (.cells #[.int .i64 a0_0, .int .i64 a0_1, .int .i64 a0_2, .int .i64 a0_3, .int .i64 a0_4, .string a0_5, .string a0_6, .bool a0_7] 38 (0, 0))) ∧ Aside0 (Below w.heap.size w wc))
 case first =>
  as_aux_lemma =>
  have H := HC3.out
  clear HC3
  replace H := Option.bind_eq_some_iff.mp H
  obtain ⟨t239, A50, H⟩ := H
  replace H : (if (l1.length : Int) = t239 then (if (l1.length : Int) = 0 then (vitrineref11_Pixel.j0 k l1 true a0_0 a0_1 a0_2 a0_3 a0_4 a0_5 a0_6 a0_7) else ((vitrineref11_Depth.f a0_2).bind fun t240 => (vitrineref11_Pixel.j0 k l1 (!t240) a0_0 a0_1 a0_2 a0_3 a0_4 a0_5 a0_6 a0_7))) else (vitrineref11_Pixel.j0 k l1 true a0_0 a0_1 a0_2 a0_3 a0_4 a0_5 a0_6 a0_7)) = some (r1, r2) := H
  have A5 := Aside0.mk A50
  clear A50
  by_cases c6 : (l1.length : Int) = t239
  ·
   as_aux_lemma =>
   rw [if_pos c6] at H
   have c6b0 : ((l1.length : Int) == t239) = true := beq_iff_eq.mpr c6
   have c6b1 : ((l1.length : Int) != t239) = false := bne_eq_false_iff_eq.mpr c6
   clear c6
   (first | rw [c6b0] | (simp only [i64_w, i32_w]; rw [c6b0]) | skip)
   by_cases c7 : (l1.length : Int) = 0
   ·
    as_aux_lemma =>
    rw [if_pos c7] at H
    have c7b0 : ((l1.length : Int) == 0) = true := beq_iff_eq.mpr c7
    have c7b1 : ((l1.length : Int) != 0) = false := bne_eq_false_iff_eq.mpr c7
    clear c7
    have H' := Aside0.mk H
    clear H
    have hcz8_0 : w4.cell? ⟨gb238, 0, none⟩ = some (.int .i64 a0_0) := (blk_cell BK238.out 0).trans rfl
    have hcz8_1 : w4.cell? ⟨gb238, 1, none⟩ = some (.int .i64 a0_1) := (blk_cell BK238.out 1).trans rfl
    have hcz8_2 : w4.cell? ⟨gb238, 2, none⟩ = some (.int .i64 a0_2) := (blk_cell BK238.out 2).trans rfl
    have hcz8_3 : w4.cell? ⟨gb238, 3, none⟩ = some (.int .i64 a0_3) := (blk_cell BK238.out 3).trans rfl
    have hcz8_4 : w4.cell? ⟨gb238, 4, none⟩ = some (.int .i64 a0_4) := (blk_cell BK238.out 4).trans rfl
    have hcz8_5 : w4.cell? ⟨gb238, 5, none⟩ = some (.string a0_5) := (blk_cell BK238.out 5).trans rfl
    have hcz8_6 : w4.cell? ⟨gb238, 6, none⟩ = some (.string a0_6) := (blk_cell BK238.out 6).trans rfl
    have hcz8_7 : w4.cell? ⟨gb238, 7, none⟩ = some (.bool a0_7) := (blk_cell BK238.out 7).trans rfl
    have hfz8_0 := blk_frozen BK238.out 0
    have hfz8_1 := blk_frozen BK238.out 1
    have hfz8_2 := blk_frozen BK238.out 2
    have hfz8_3 := blk_frozen BK238.out 3
    have hfz8_4 := blk_frozen BK238.out 4
    have hfz8_5 := blk_frozen BK238.out 5
    have hfz8_6 := blk_frozen BK238.out 6
    have hfz8_7 := blk_frozen BK238.out 7
    go_wp2_with (first | ((with_reducible refine gate_callee (f := 29) rfl ?_); refine goesL_ (some 15) rfl rfl Try.func29 (by kernel_rfl) rfl #[.int .i64 a0_3] rfl (by (try simp only [List.map_toArray, List.map_cons, List.map_nil]); first | done | rfl | (simp only [List.length_drop, List.length_take]; rfl)) ?_; (with_reducible refine (vitrineref08_Samples.calls k a0_3 t239 _ A5.out).mono ?_); rintro e w' ⟨rfl, ⟨nd, rfl⟩⟩; refine ⟨_, rfl, ?_⟩))
    go_meet
    case rel => exact ⟨_, (true), (by first | rfl | (simp; done) | (simp [*]; done)), H', ⟨by first | omega | exact Nat.le_refl _⟩, ⟨by (with_reducible repeat (first | refine blk_drewN ?_ _ | refine blk_drew ?_ | refine blk_alloc ?_ _)); exact BK238.out⟩, ⟨by repeat (first | (with_reducible first | exact HB.out | apply below_alloc | apply pw_below_drewN | apply below_drew1 | refine below_set ?_ GE238.out) | exact HB.out)⟩⟩
   ·
    as_aux_lemma =>
    rw [if_neg c7] at H
    have c7b0 : ((l1.length : Int) == 0) = false := beq_eq_false_iff_ne.mpr c7
    have c7b1 : ((l1.length : Int) != 0) = true := bne_iff_ne.mpr c7
    have c7b2 : ¬ (l1 = []) := fun h_ => c7 (by rw [h_]; rfl)
    replace H := Option.bind_eq_some_iff.mp H
    obtain ⟨t240, A90, H⟩ := H
    replace H : (vitrineref11_Pixel.j0 k l1 (!t240) a0_0 a0_1 a0_2 a0_3 a0_4 a0_5 a0_6 a0_7) = some (r1, r2) := H
    have A9 := Aside0.mk A90
    clear A90
    have H' := Aside0.mk H
    clear H
    have hcz10_0 : w4.cell? ⟨gb238, 0, none⟩ = some (.int .i64 a0_0) := (blk_cell BK238.out 0).trans rfl
    have hcz10_1 : w4.cell? ⟨gb238, 1, none⟩ = some (.int .i64 a0_1) := (blk_cell BK238.out 1).trans rfl
    have hcz10_2 : w4.cell? ⟨gb238, 2, none⟩ = some (.int .i64 a0_2) := (blk_cell BK238.out 2).trans rfl
    have hcz10_3 : w4.cell? ⟨gb238, 3, none⟩ = some (.int .i64 a0_3) := (blk_cell BK238.out 3).trans rfl
    have hcz10_4 : w4.cell? ⟨gb238, 4, none⟩ = some (.int .i64 a0_4) := (blk_cell BK238.out 4).trans rfl
    have hcz10_5 : w4.cell? ⟨gb238, 5, none⟩ = some (.string a0_5) := (blk_cell BK238.out 5).trans rfl
    have hcz10_6 : w4.cell? ⟨gb238, 6, none⟩ = some (.string a0_6) := (blk_cell BK238.out 6).trans rfl
    have hcz10_7 : w4.cell? ⟨gb238, 7, none⟩ = some (.bool a0_7) := (blk_cell BK238.out 7).trans rfl
    have hfz10_0 := blk_frozen BK238.out 0
    have hfz10_1 := blk_frozen BK238.out 1
    have hfz10_2 := blk_frozen BK238.out 2
    have hfz10_3 := blk_frozen BK238.out 3
    have hfz10_4 := blk_frozen BK238.out 4
    have hfz10_5 := blk_frozen BK238.out 5
    have hfz10_6 := blk_frozen BK238.out 6
    have hfz10_7 := blk_frozen BK238.out 7
    go_wp2_with (first | ((with_reducible refine gate_callee (f := 29) rfl ?_); refine goesL_ (some 15) rfl rfl Try.func29 (by kernel_rfl) rfl #[.int .i64 a0_3] rfl (by (try simp only [List.map_toArray, List.map_cons, List.map_nil]); first | done | rfl | (simp only [List.length_drop, List.length_take]; rfl)) ?_; (with_reducible refine (vitrineref08_Samples.calls k a0_3 t239 _ A5.out).mono ?_); rintro e w' ⟨rfl, ⟨nd, rfl⟩⟩; refine ⟨_, rfl, ?_⟩) | (go_at_call 22; (with_reducible refine (vitrineref11_Depth.calls a0_2 t240 _ A9.out).mono ?_); rintro e w' ⟨rfl, ⟨nd, rfl⟩⟩))
    go_meet
    case rel => exact ⟨_, (!t240), (by first | rfl | (simp; done) | (simp [*]; done)), H', ⟨by first | omega | exact Nat.le_refl _⟩, ⟨by (with_reducible repeat (first | refine blk_drewN ?_ _ | refine blk_drew ?_ | refine blk_alloc ?_ _)); exact BK238.out⟩, ⟨by repeat (first | (with_reducible first | exact HB.out | apply below_alloc | apply pw_below_drewN | apply below_drew1 | refine below_set ?_ GE238.out) | exact HB.out)⟩⟩
  ·
   as_aux_lemma =>
   rw [if_neg c6] at H
   have c6b0 : ((l1.length : Int) == t239) = false := beq_eq_false_iff_ne.mpr c6
   have c6b1 : ((l1.length : Int) != t239) = true := bne_iff_ne.mpr c6
   (first | rw [c6b0] | (simp only [i64_w, i32_w]; rw [c6b0]) | skip)
   have H' := Aside0.mk H
   clear H
   have hcz11_0 : w4.cell? ⟨gb238, 0, none⟩ = some (.int .i64 a0_0) := (blk_cell BK238.out 0).trans rfl
   have hcz11_1 : w4.cell? ⟨gb238, 1, none⟩ = some (.int .i64 a0_1) := (blk_cell BK238.out 1).trans rfl
   have hcz11_2 : w4.cell? ⟨gb238, 2, none⟩ = some (.int .i64 a0_2) := (blk_cell BK238.out 2).trans rfl
   have hcz11_3 : w4.cell? ⟨gb238, 3, none⟩ = some (.int .i64 a0_3) := (blk_cell BK238.out 3).trans rfl
   have hcz11_4 : w4.cell? ⟨gb238, 4, none⟩ = some (.int .i64 a0_4) := (blk_cell BK238.out 4).trans rfl
   have hcz11_5 : w4.cell? ⟨gb238, 5, none⟩ = some (.string a0_5) := (blk_cell BK238.out 5).trans rfl
   have hcz11_6 : w4.cell? ⟨gb238, 6, none⟩ = some (.string a0_6) := (blk_cell BK238.out 6).trans rfl
   have hcz11_7 : w4.cell? ⟨gb238, 7, none⟩ = some (.bool a0_7) := (blk_cell BK238.out 7).trans rfl
   have hfz11_0 := blk_frozen BK238.out 0
   have hfz11_1 := blk_frozen BK238.out 1
   have hfz11_2 := blk_frozen BK238.out 2
   have hfz11_3 := blk_frozen BK238.out 3
   have hfz11_4 := blk_frozen BK238.out 4
   have hfz11_5 := blk_frozen BK238.out 5
   have hfz11_6 := blk_frozen BK238.out 6
   have hfz11_7 := blk_frozen BK238.out 7
   go_wp2_with (first | ((with_reducible refine gate_callee (f := 29) rfl ?_); refine goesL_ (some 15) rfl rfl Try.func29 (by kernel_rfl) rfl #[.int .i64 a0_3] rfl (by (try simp only [List.map_toArray, List.map_cons, List.map_nil]); first | done | rfl | (simp only [List.length_drop, List.length_take]; rfl)) ?_; (with_reducible refine (vitrineref08_Samples.calls k a0_3 t239 _ A5.out).mono ?_); rintro e w' ⟨rfl, ⟨nd, rfl⟩⟩; refine ⟨_, rfl, ?_⟩))
   go_meet
   case rel => exact ⟨_, (true), (by first | rfl | (simp; done) | (simp [*]; done)), H', ⟨by first | omega | exact Nat.le_refl _⟩, ⟨by (with_reducible repeat (first | refine blk_drewN ?_ _ | refine blk_drew ?_ | refine blk_alloc ?_ _)); exact BK238.out⟩, ⟨by repeat (first | (with_reducible first | exact HB.out | apply below_alloc | apply pw_below_drewN | apply below_drew1 | refine below_set ?_ GE238.out) | exact HB.out)⟩⟩
 case rest =>
  as_aux_lemma =>
  clear HC3
  try clear c1
  try clear c2
  try clear p2
  try clear c6
  try clear c6b0
  try clear c6b1
  try clear c7
  try clear c7b0
  try clear c7b1
  try clear c7b2
  try clear hcz10_0
  try clear hcz10_1
  try clear hcz10_2
  try clear hcz10_3
  try clear hcz10_4
  try clear hcz10_5
  try clear hcz10_6
  try clear hcz10_7
  try clear hcz11_0
  try clear hcz11_1
  try clear hcz11_2
  try clear hcz11_3
  try clear hcz11_4
  try clear hcz11_5
  try clear hcz11_6
  try clear hcz11_7
  try clear hcz8_0
  try clear hcz8_1
  try clear hcz8_2
  try clear hcz8_3
  try clear hcz8_4
  try clear hcz8_5
  try clear hcz8_6
  try clear hcz8_7
  try clear hfz10_0
  try clear hfz10_1
  try clear hfz10_2
  try clear hfz10_3
  try clear hfz10_4
  try clear hfz10_5
  try clear hfz10_6
  try clear hfz10_7
  try clear hfz11_0
  try clear hfz11_1
  try clear hfz11_2
  try clear hfz11_3
  try clear hfz11_4
  try clear hfz11_5
  try clear hfz11_6
  try clear hfz11_7
  try clear hfz8_0
  try clear hfz8_1
  try clear hfz8_2
  try clear hfz8_3
  try clear hfz8_4
  try clear hfz8_5
  try clear hfz8_6
  try clear hfz8_7
  obtain ⟨kq, x28_2, rfl, HA, HJ2, BK238, HB⟩ := hcut
  cases kq with
  | zero => exact absurd HA.out (by simp [vitrineref11_Pixel.j0])
  | succ kj2 =>
   have H := HA.out
   clear HA
   simp only [vitrineref11_Pixel.j0] at H
   by_cases c12 : x28_2 = true
   ·
    subst c12
    have H1 : (some ((⟨#[]⟩ : ByteArray), 1)) = some (r1, r2) := by rw [if_pos rfl] at H; exact H
    clear H
    have H := H1
    clear H1
    simp only [Option.some.injEq, Prod.mk.injEq] at H
    obtain ⟨rfl, rfl⟩ := H
    go_wp2
    go_ret2
    exact ⟨by first | rfl | (simp [errW_none, errW_some] <;> rfl) | (simp [*, errW_none, errW_some] <;> rfl), by repeat (first | (with_reducible first | exact HB.out | apply below_alloc | apply pw_below_drewN | apply below_drew1 | refine below_set ?_ GE238.out) | exact HB.out)⟩
   ·
    replace c12 := Bool.eq_false_iff.mpr c12
    subst c12
    have H1 : (vitrineref11_Pixel.l0 kj2 l1 ([] : List ByteArray) 0 a0_0 a0_1 a0_2 a0_3 a0_4 a0_5 a0_6 a0_7) = some (r1, r2) := by rw [if_neg (show ¬ (false = true) by decide)] at H; exact H
    clear H
    have H := H1
    clear H1
    have H' := Aside0.mk H
    clear H
    go_wp2
    go_loopg [6, 7] kj2 (fun kq v6 v7 w' => ∃ (x6_2 : List ByteArray) (x7_2 : Int), v7 = .int .i64 x7_2 ∧ Aside0 (vitrineref11_Pixel.l0 kq l1 x6_2 x7_2 a0_0 a0_1 a0_2 a0_3 a0_4 a0_5 a0_6 a0_7 = some (r1, r2)) ∧ Aside0 (kq ≤ kj2) ∧ Aside0 (Kd.R Kd.string 9 w' w.heap.size (fun _ => True) v6 x6_2) ∧ Aside0 (w'.heap[gb238]? = some (.cells #[.int .i64 a0_0, .int .i64 a0_1, .int .i64 a0_2, .int .i64 a0_3, .int .i64 a0_4, .string a0_5, .string a0_6, .bool a0_7] 38 (0, 0))) ∧ Aside0 (Below w.heap.size w w'))
    case atStart => exact ⟨(([] : List ByteArray)), (0), (by first | rfl | (simp; done) | (simp [*]; done)), H', ⟨Nat.le_refl _⟩, ⟨by first | exact Kd.R_nil _ _ _ _ _ | exact Kd.N_nil _ _ _ _ _ | exact Kd.V_nil _ _ _ _ _ | exact Kd.Q_nil _ _ _ _ _ | exact Kd.S_nil _ _ _ _ _⟩, ⟨by (with_reducible repeat (first | refine blk_drewN ?_ _ | refine blk_drew ?_ | refine blk_alloc ?_ _)); exact BK238.out⟩, ⟨by repeat (first | (with_reducible first | exact HB.out | apply below_alloc | apply pw_below_drewN | apply below_drew1 | refine below_set ?_ GE238.out) | exact HB.out)⟩⟩
    case round =>
     clear H'
     try clear c1
     try clear c2
     try clear p2
     try clear c6
     try clear c6b0
     try clear c6b1
     try clear c7
     try clear c7b0
     try clear c7b1
     try clear c7b2
     try clear c12
     try clear hcz10_0
     try clear hcz10_1
     try clear hcz10_2
     try clear hcz10_3
     try clear hcz10_4
     try clear hcz10_5
     try clear hcz10_6
     try clear hcz10_7
     try clear hcz11_0
     try clear hcz11_1
     try clear hcz11_2
     try clear hcz11_3
     try clear hcz11_4
     try clear hcz11_5
     try clear hcz11_6
     try clear hcz11_7
     try clear hcz8_0
     try clear hcz8_1
     try clear hcz8_2
     try clear hcz8_3
     try clear hcz8_4
     try clear hcz8_5
     try clear hcz8_6
     try clear hcz8_7
     try clear hfz10_0
     try clear hfz10_1
     try clear hfz10_2
     try clear hfz10_3
     try clear hfz10_4
     try clear hfz10_5
     try clear hfz10_6
     try clear hfz10_7
     try clear hfz11_0
     try clear hfz11_1
     try clear hfz11_2
     try clear hfz11_3
     try clear hfz11_4
     try clear hfz11_5
     try clear hfz11_6
     try clear hfz11_7
     try clear hfz8_0
     try clear hfz8_1
     try clear hfz8_2
     try clear hfz8_3
     try clear hfz8_4
     try clear hfz8_5
     try clear hfz8_6
     try clear hfz8_7
     try clear p2
     obtain ⟨x6_2, x7_2, rfl, HA, HK2, HO_6, BK238, HB⟩ := hrel
     cases gk with
     | zero => exact absurd HA.out (by simp [vitrineref11_Pixel.l0])
     | succ k2 =>
      have H := HA.out
      clear HA
      simp only [vitrineref11_Pixel.l0] at H
      by_cases c13 : x7_2 < (l1.length : Int)
      ·
       as_aux_lemma =>
       rw [if_pos c13] at H
       have c13b0 : decide (x7_2 < (l1.length : Int)) = true := decide_eq_true c13
       clear c13
       have HC14 := Aside0.mk H
       clear H
       go_upto_region 7 with (fail)
       go_cut [50] (fun v50 wc => ∃ (kq : Nat) (x50_13 : Bool), v50 = .bool x50_13 ∧ Aside0 (vitrineref11_Pixel.j2 kq l1 x6_2 x7_2 x50_13 a0_0 a0_1 a0_2 a0_3 a0_4 a0_5 a0_6 a0_7 = some (r1, r2)) ∧ Aside0 (kq ≤ k2) ∧ Aside0 (Kd.R Kd.string 9 wc w.heap.size (fun _ => True) u6 x6_2) ∧ Aside0 (wc.heap[gb238]? = some (.cells #[.int .i64 a0_0, .int .i64 a0_1, .int .i64 a0_2, .int .i64 a0_3, .int .i64 a0_4, .string a0_5, .string a0_6, .bool a0_7] 38 (0, 0))) ∧ Aside0 (Below w.heap.size w wc))
       case first =>
        as_aux_lemma =>
        have H := HC14.out
        clear HC14
        by_cases c15 : 0 ≤ x7_2
        ·
         as_aux_lemma =>
         rw [if_pos c15] at H
         have c15b0 : decide (0 ≤ x7_2) = true := decide_eq_true c15
         clear c15
         (first | rw [c15b0] | (simp only [i64_w, i32_w]; rw [c15b0]) | skip)
         by_cases c16 : (rd l1 x7_2) < 0
         ·
          as_aux_lemma =>
          rw [if_pos c16] at H
          have c16b0 : decide ((rd l1 x7_2) < 0) = true := decide_eq_true c16
          clear c16
          have H' := Aside0.mk H
          clear H
          try go_wp2
          have n0_ := Aside0.mk (Kd.R_drew HO_6.out)
          have n1_ := Aside0.mk (blk_drew BK238.out)
          have n2_ := Aside0.mk (below_drew1 HB.out)
          clear HO_6
          clear BK238
          clear HB
          have HO_6 := n0_
          have BK238 := n1_
          have HB := n2_
          clear n0_ n1_ n2_
          have p241 : 0 ≤ (x7_2 : Int) := of_decide_eq_true (by first | (with_reducible assumption) | assumption)
          have q241 : x7_2 < (l1.length : Int) := of_decide_eq_true (by first | (with_reducible assumption) | assumption)
          obtain ⟨ad241, e241, hx241_0⟩ := Kd.at_int HR1.out x7_2 p241 q241
          have hw241_0 := hx241_0
          cases e241
          replace hx241_0 := (HB.out.cell (World.block_lt_of_cell? w _ hx241_0)).trans hx241_0
          replace p241 := eq_true p241
          replace q241 := eq_true q241
          refine start_ (n := 16) (S := fun w' => w'.cell? (ad241.add (x7_2).toNat) = some (.int .i64 (rd l1 x7_2))) (ds := []) #[false, false, false, false, false, false, false, false, false, false, false, false, false, false, false, false] (by kernel_rfl) rfl rfl (((HB.out.cell (World.block_lt_of_cell? w _ hw241_0)).trans hw241_0)) (fun hHeld => ?_); refine with_tabW vitrineref11_Pixel.tab7 vitrineref11_Pixel.bits7 (fun HT_ HW_ => ?_)
          generalize wr.drew = w17 at HO_6 BK238 HB hx241_0 hHeld ⊢
          refine pure_ (i := 0) (N := some 35) (v := ?_) (a' := ?_) #[true, false, false, false, false, false, false, false, false, false, false, false, false, false, false, false] rfl rfl (any_of HT_.out (by kernel_rfl)) (fun _ _ _ h => h) (Or.inl ⟨by rfl, ?_⟩) ?_ ?_
          rotate_left
          ·
           intro w'
           go_simp
           with_reducible rfl
          rotate_left
          ·
           simp only [Act.put, List.setIfInBounds_toArray, List.set_cons_zero, List.set_cons_succ, i64_w, i32_w]
           rfl
          refine pure_ (i := 1) (N := some 36) (v := ?_) (a' := ?_) #[true, true, false, false, false, false, false, false, false, false, false, false, false, false, false, false] rfl rfl (any_of HT_.out (by kernel_rfl)) (fun _ _ _ h => h) (Or.inl ⟨by rfl, ?_⟩) ?_ ?_
          rotate_left
          ·
           intro w'
           go_simp
           with_reducible rfl
          rotate_left
          ·
           simp only [Act.put, List.setIfInBounds_toArray, List.set_cons_zero, List.set_cons_succ, i64_w, i32_w]
           rfl
          refine pure_ (i := 2) (N := some 37) (v := ?_) (a' := ?_) #[true, true, true, false, false, false, false, false, false, false, false, false, false, false, false, false] rfl rfl (any_of HT_.out (by kernel_rfl)) (fun _ _ _ h => h) (Or.inl ⟨by rfl, ?_⟩) ?_ ?_
          rotate_left
          ·
           intro w'
           go_simp
           with_reducible rfl
          rotate_left
          ·
           simp only [Act.put, List.setIfInBounds_toArray, List.set_cons_zero, List.set_cons_succ, i64_w, i32_w]
           rfl
          refine take_ (i := 3) (N := some 38) (v := ?_) (a' := ?_) #[true, true, true, true, false, false, false, false, false, false, false, false, false, false, false, false] rfl rfl (take_ofW HT_.out HW_.out (by kernel_rfl)) (fun _ _ _ h => h) (Or.inl ⟨by rfl, ?_⟩) hHeld ?_ ?_
          rotate_left
          ·
           intro w' s0
           go_simp
           with_reducible rfl
          rotate_left
          ·
           simp only [Act.put, List.setIfInBounds_toArray, List.set_cons_zero, List.set_cons_succ, i64_w, i32_w]
           rfl
          refine pure_ (i := 4) (N := some 39) (v := ?_) (a' := ?_) #[true, true, true, true, true, false, false, false, false, false, false, false, false, false, false, false] rfl rfl (any_of HT_.out (by kernel_rfl)) (fun _ _ _ h => h) (Or.inl ⟨by rfl, ?_⟩) ?_ ?_
          rotate_left
          ·
           intro w'
           go_simp
           with_reducible rfl
          rotate_left
          ·
           simp only [Act.put, List.setIfInBounds_toArray, List.set_cons_zero, List.set_cons_succ, i64_w, i32_w]
           rfl
          refine pure_ (i := 5) (N := some 40) (v := ?_) (a' := ?_) #[true, true, true, true, true, true, false, false, false, false, false, false, false, false, false, false] rfl rfl (any_of HT_.out (by kernel_rfl)) (fun _ _ _ h => h) (Or.inl ⟨by rfl, ?_⟩) ?_ ?_
          rotate_left
          ·
           intro w'
           go_simp
           with_reducible rfl
          rotate_left
          ·
           simp only [Act.put, List.setIfInBounds_toArray, List.set_cons_zero, List.set_cons_succ, i64_w, i32_w]
           rfl
          refine pure_ (i := 6) (N := some 41) (v := undef) (a' := ?_) #[true, true, true, true, true, true, true, false, false, false, false, false, false, false, false, false] rfl rfl (any_of HT_.out (by kernel_rfl)) (fun _ _ _ h => h) (Or.inr ⟨by rfl, rfl⟩) ?_ ?_
          rotate_left
          ·
           simp only [Act.put, List.setIfInBounds_toArray, List.set_cons_zero, List.set_cons_succ, i64_w, i32_w]
           rfl
          refine pure_ (i := 7) (N := some 42) (v := undef) (a' := ?_) #[true, true, true, true, true, true, true, true, false, false, false, false, false, false, false, false] rfl rfl (any_of HT_.out (by kernel_rfl)) (fun _ _ _ h => h) (Or.inr ⟨by rfl, rfl⟩) ?_ ?_
          rotate_left
          ·
           simp only [Act.put, List.setIfInBounds_toArray, List.set_cons_zero, List.set_cons_succ, i64_w, i32_w]
           rfl
          refine pure_ (i := 8) (N := some 43) (v := undef) (a' := ?_) #[true, true, true, true, true, true, true, true, true, false, false, false, false, false, false, false] rfl rfl (any_of HT_.out (by kernel_rfl)) (fun _ _ _ h => h) (Or.inr ⟨by rfl, rfl⟩) ?_ ?_
          rotate_left
          ·
           simp only [Act.put, List.setIfInBounds_toArray, List.set_cons_zero, List.set_cons_succ, i64_w, i32_w]
           rfl
          refine pure_ (i := 9) (N := some 44) (v := undef) (a' := ?_) #[true, true, true, true, true, true, true, true, true, true, false, false, false, false, false, false] rfl rfl (any_of HT_.out (by kernel_rfl)) (fun _ _ _ h => h) (Or.inr ⟨by rfl, rfl⟩) ?_ ?_
          rotate_left
          ·
           simp only [Act.put, List.setIfInBounds_toArray, List.set_cons_zero, List.set_cons_succ, i64_w, i32_w]
           rfl
          refine pure_ (i := 10) (N := some 45) (v := undef) (a' := ?_) #[true, true, true, true, true, true, true, true, true, true, true, false, false, false, false, false] rfl rfl (any_of HT_.out (by kernel_rfl)) (fun _ _ _ h => h) (Or.inr ⟨by rfl, rfl⟩) ?_ ?_
          rotate_left
          ·
           simp only [Act.put, List.setIfInBounds_toArray, List.set_cons_zero, List.set_cons_succ, i64_w, i32_w]
           rfl
          refine pure_ (i := 11) (N := some 46) (v := undef) (a' := ?_) #[true, true, true, true, true, true, true, true, true, true, true, true, false, false, false, false] rfl rfl (any_of HT_.out (by kernel_rfl)) (fun _ _ _ h => h) (Or.inr ⟨by rfl, rfl⟩) ?_ ?_
          rotate_left
          ·
           simp only [Act.put, List.setIfInBounds_toArray, List.set_cons_zero, List.set_cons_succ, i64_w, i32_w]
           rfl
          refine pure_ (i := 12) (N := some 47) (v := undef) (a' := ?_) #[true, true, true, true, true, true, true, true, true, true, true, true, true, false, false, false] rfl rfl (any_of HT_.out (by kernel_rfl)) (fun _ _ _ h => h) (Or.inr ⟨by rfl, rfl⟩) ?_ ?_
          rotate_left
          ·
           simp only [Act.put, List.setIfInBounds_toArray, List.set_cons_zero, List.set_cons_succ, i64_w, i32_w]
           rfl
          refine pure_ (i := 13) (N := some 48) (v := undef) (a' := ?_) #[true, true, true, true, true, true, true, true, true, true, true, true, true, true, false, false] rfl rfl (any_of HT_.out (by kernel_rfl)) (fun _ _ _ h => h) (Or.inr ⟨by rfl, rfl⟩) ?_ ?_
          rotate_left
          ·
           simp only [Act.put, List.setIfInBounds_toArray, List.set_cons_zero, List.set_cons_succ, i64_w, i32_w]
           rfl
          refine pure_ (i := 14) (N := some 49) (v := undef) (a' := ?_) #[true, true, true, true, true, true, true, true, true, true, true, true, true, true, true, false] rfl rfl (any_of HT_.out (by kernel_rfl)) (fun _ _ _ h => h) (Or.inr ⟨by rfl, rfl⟩) ?_ ?_
          rotate_left
          ·
           simp only [Act.put, List.setIfInBounds_toArray, List.set_cons_zero, List.set_cons_succ, i64_w, i32_w]
           rfl
          refine pure_ (i := 15) (N := some 50) (v := ?_) (a' := ?_) #[true, true, true, true, true, true, true, true, true, true, true, true, true, true, true, true] rfl rfl (any_of HT_.out (by kernel_rfl)) (fun _ _ _ h => h) (Or.inl ⟨by rfl, ?_⟩) ?_ ?_
          rotate_left
          ·
           intro w'
           go_simp
           with_reducible rfl
          rotate_left
          ·
           simp only [Act.put, List.setIfInBounds_toArray, List.set_cons_zero, List.set_cons_succ, i64_w, i32_w]
           rfl
          refine done_ (done_of HT_.out (by kernel_rfl)) ?_
          try go_wp2
          go_meet
          case rel => exact ⟨_, (true), (by first | rfl | (simp; done) | (simp [*]; done)), H', ⟨by have := HJ2.out; have := HK2.out; first | omega | exact Nat.le_refl _⟩, ⟨by (with_reducible repeat (first | apply Kd.R_alloc | apply Kd.R_drewN | apply Kd.R_drew)); exact HO_6.out⟩, ⟨by (with_reducible repeat (first | refine blk_drewN ?_ _ | refine blk_drew ?_ | refine blk_alloc ?_ _)); exact BK238.out⟩, ⟨by repeat (first | (with_reducible first | exact HB.out | apply below_alloc | apply pw_below_drewN | apply below_drew1 | refine below_set ?_ GE238.out) | exact HB.out)⟩⟩
         ·
          as_aux_lemma =>
          rw [if_neg c16] at H
          have c16b0 : decide ((rd l1 x7_2) < 0) = false := decide_eq_false c16
          clear c16
          by_cases c18 : 0 ≤ a0_2
          ·
           as_aux_lemma =>
           rw [if_pos c18] at H
           have c18b0 := eq_true c18
           have c18b1 : decide (0 ≤ a0_2) = true := decide_eq_true c18
           clear c18
           obtain ⟨ji19, hji19⟩ : ∃ j_ : Int, (shl .i64 1 a0_2) = j_ := ⟨_, rfl⟩
           replace H : (vitrineref11_Pixel.j2 k2 l1 x6_2 x7_2 (decide ((rd l1 x7_2) ≥ (ji19))) a0_0 a0_1 a0_2 a0_3 a0_4 a0_5 a0_6 a0_7) = some (r1, r2) := by first | (rw [hji19] at H; exact H) | (simp only [hji19] at H ⊢; exact H)
           have hji19_ : (IntKind.i64.wrap (1 * 2 ^ min a0_2.toNat 64)) = ji19 := hji19
           have hji19z : a0_2 ≤ 64 → (IntKind.i64.wrap (1 * 2 ^ a0_2.toNat)) = ji19 := shl_small hji19
           have hji19u : (IntKind.i64.wrap (2 ^ min a0_2.toNat 64)) = ji19 := by have h_ := hji19_; rw [Int.one_mul] at h_; exact h_
           have hji19v : a0_2 ≤ 64 → (IntKind.i64.wrap (2 ^ a0_2.toNat)) = ji19 := fun hle_ => by have h_ := hji19z hle_; rw [Int.one_mul] at h_; exact h_
           have hji19y : (wrap64 (1 * 2 ^ min a0_2.toNat 64)) = ji19 := (i64_w _).symm.trans hji19_
           have hji19x : a0_2 ≤ 64 → (wrap64 (1 * 2 ^ a0_2.toNat)) = ji19 := fun h_ => (i64_w _).symm.trans (hji19z h_)
           have H' := Aside0.mk H
           clear H
           try go_wp2
           have n0_ := Aside0.mk (Kd.R_drew HO_6.out)
           have n1_ := Aside0.mk (blk_drew BK238.out)
           have n2_ := Aside0.mk (below_drew1 HB.out)
           clear HO_6
           clear BK238
           clear HB
           have HO_6 := n0_
           have BK238 := n1_
           have HB := n2_
           clear n0_ n1_ n2_
           have p241 : 0 ≤ (x7_2 : Int) := of_decide_eq_true (by first | (with_reducible assumption) | assumption)
           have q241 : x7_2 < (l1.length : Int) := of_decide_eq_true (by first | (with_reducible assumption) | assumption)
           obtain ⟨ad241, e241, hx241_0⟩ := Kd.at_int HR1.out x7_2 p241 q241
           have hw241_0 := hx241_0
           cases e241
           replace hx241_0 := (HB.out.cell (World.block_lt_of_cell? w _ hx241_0)).trans hx241_0
           replace p241 := eq_true p241
           replace q241 := eq_true q241
           have p242 : 0 ≤ (x7_2 : Int) := of_decide_eq_true (by first | (with_reducible assumption) | assumption)
           have q242 : x7_2 < (l1.length : Int) := of_decide_eq_true (by first | (with_reducible assumption) | assumption)
           obtain ⟨ad242, e242, hx242_0⟩ := Kd.at_int HR1.out x7_2 p242 q242
           have hw242_0 := hx242_0
           obtain rfl : ad241 = ad242 := (by injection e242)
           replace hx242_0 := (HB.out.cell (World.block_lt_of_cell? w _ hx242_0)).trans hx242_0
           replace p242 := eq_true p242
           replace q242 := eq_true q242
           refine start_ (n := 16) (S := fun w' => w'.cell? ⟨gb238, 0, none⟩ = some (.int .i64 a0_0) ∧ w'.cell? ⟨gb238, 1, none⟩ = some (.int .i64 a0_1) ∧ w'.cell? ⟨gb238, 2, none⟩ = some (.int .i64 a0_2) ∧ w'.cell? ⟨gb238, 3, none⟩ = some (.int .i64 a0_3) ∧ w'.cell? ⟨gb238, 4, none⟩ = some (.int .i64 a0_4) ∧ w'.cell? ⟨gb238, 5, none⟩ = some (.string a0_5) ∧ w'.cell? ⟨gb238, 6, none⟩ = some (.string a0_6) ∧ w'.cell? ⟨gb238, 7, none⟩ = some (.bool a0_7) ∧ w'.cell? (ad241.add (x7_2).toNat) = some (.int .i64 (rd l1 x7_2)) ∧ w'.cell? (ad241.add (x7_2).toNat) = some (.int .i64 (rd l1 x7_2))) (ds := []) #[false, false, false, false, false, false, false, false, false, false, false, false, false, false, false, false] (by kernel_rfl) rfl rfl ⟨(blk_cell BK238.out 0).trans rfl, (blk_cell BK238.out 1).trans rfl, (blk_cell BK238.out 2).trans rfl, (blk_cell BK238.out 3).trans rfl, (blk_cell BK238.out 4).trans rfl, (blk_cell BK238.out 5).trans rfl, (blk_cell BK238.out 6).trans rfl, (blk_cell BK238.out 7).trans rfl, ((HB.out.cell (World.block_lt_of_cell? w _ hw241_0)).trans hw241_0), ((HB.out.cell (World.block_lt_of_cell? w _ hw242_0)).trans hw242_0)⟩ (fun hHeld => ?_); refine with_tabW vitrineref11_Pixel.tab7 vitrineref11_Pixel.bits7 (fun HT_ HW_ => ?_)
           generalize wr.drew = w20 at HO_6 BK238 HB hx241_0 hx242_0 hHeld ⊢
           refine pure_ (i := 0) (N := some 35) (v := ?_) (a' := ?_) #[true, false, false, false, false, false, false, false, false, false, false, false, false, false, false, false] rfl rfl (any_of HT_.out (by kernel_rfl)) (fun _ _ _ h => h) (Or.inl ⟨by rfl, ?_⟩) ?_ ?_
           rotate_left
           ·
            intro w'
            go_simp
            with_reducible rfl
           rotate_left
           ·
            simp only [Act.put, List.setIfInBounds_toArray, List.set_cons_zero, List.set_cons_succ, i64_w, i32_w]
            rfl
           refine pure_ (i := 1) (N := some 36) (v := ?_) (a' := ?_) #[true, true, false, false, false, false, false, false, false, false, false, false, false, false, false, false] rfl rfl (any_of HT_.out (by kernel_rfl)) (fun _ _ _ h => h) (Or.inl ⟨by rfl, ?_⟩) ?_ ?_
           rotate_left
           ·
            intro w'
            go_simp
            with_reducible rfl
           rotate_left
           ·
            simp only [Act.put, List.setIfInBounds_toArray, List.set_cons_zero, List.set_cons_succ, i64_w, i32_w]
            rfl
           refine pure_ (i := 2) (N := some 37) (v := ?_) (a' := ?_) #[true, true, true, false, false, false, false, false, false, false, false, false, false, false, false, false] rfl rfl (any_of HT_.out (by kernel_rfl)) (fun _ _ _ h => h) (Or.inl ⟨by rfl, ?_⟩) ?_ ?_
           rotate_left
           ·
            intro w'
            go_simp
            with_reducible rfl
           rotate_left
           ·
            simp only [Act.put, List.setIfInBounds_toArray, List.set_cons_zero, List.set_cons_succ, i64_w, i32_w]
            rfl
           refine take_ (i := 3) (N := some 38) (v := ?_) (a' := ?_) #[true, true, true, true, false, false, false, false, false, false, false, false, false, false, false, false] rfl rfl (take_ofW HT_.out HW_.out (by kernel_rfl)) (fun _ _ _ h => h) (Or.inl ⟨by rfl, ?_⟩) hHeld ?_ ?_
           rotate_left
           ·
            rintro w' ⟨s0, s1, s2, s3, s4, s5, s6, s7, s8, s9⟩
            go_simp
            with_reducible rfl
           rotate_left
           ·
            simp only [Act.put, List.setIfInBounds_toArray, List.set_cons_zero, List.set_cons_succ, i64_w, i32_w]
            rfl
           refine pure_ (i := 4) (N := some 39) (v := ?_) (a' := ?_) #[true, true, true, true, true, false, false, false, false, false, false, false, false, false, false, false] rfl rfl (any_of HT_.out (by kernel_rfl)) (fun _ _ _ h => h) (Or.inl ⟨by rfl, ?_⟩) ?_ ?_
           rotate_left
           ·
            intro w'
            go_simp
            with_reducible rfl
           rotate_left
           ·
            simp only [Act.put, List.setIfInBounds_toArray, List.set_cons_zero, List.set_cons_succ, i64_w, i32_w]
            rfl
           refine pure_ (i := 5) (N := some 40) (v := ?_) (a' := ?_) #[true, true, true, true, true, true, false, false, false, false, false, false, false, false, false, false] rfl rfl (any_of HT_.out (by kernel_rfl)) (fun _ _ _ h => h) (Or.inl ⟨by rfl, ?_⟩) ?_ ?_
           rotate_left
           ·
            intro w'
            go_simp
            with_reducible rfl
           rotate_left
           ·
            simp only [Act.put, List.setIfInBounds_toArray, List.set_cons_zero, List.set_cons_succ, i64_w, i32_w]
            rfl
           refine pure_ (i := 6) (N := some 41) (v := ?_) (a' := ?_) #[true, true, true, true, true, true, true, false, false, false, false, false, false, false, false, false] rfl rfl (any_of HT_.out (by kernel_rfl)) (fun _ _ _ h => h) (Or.inl ⟨by rfl, ?_⟩) ?_ ?_
           rotate_left
           ·
            intro w'
            go_simp
            with_reducible rfl
           rotate_left
           ·
            simp only [Act.put, List.setIfInBounds_toArray, List.set_cons_zero, List.set_cons_succ, i64_w, i32_w]
            rfl
           refine pure_ (i := 7) (N := some 42) (v := ?_) (a' := ?_) #[true, true, true, true, true, true, true, true, false, false, false, false, false, false, false, false] rfl rfl (any_of HT_.out (by kernel_rfl)) (fun _ _ _ h => h) (Or.inl ⟨by rfl, ?_⟩) ?_ ?_
           rotate_left
           ·
            intro w'
            go_simp
            with_reducible rfl
           rotate_left
           ·
            simp only [Act.put, List.setIfInBounds_toArray, List.set_cons_zero, List.set_cons_succ, i64_w, i32_w]
            rfl
           refine pure_ (i := 8) (N := some 43) (v := ?_) (a' := ?_) #[true, true, true, true, true, true, true, true, true, false, false, false, false, false, false, false] rfl rfl (any_of HT_.out (by kernel_rfl)) (fun _ _ _ h => h) (Or.inl ⟨by rfl, ?_⟩) ?_ ?_
           rotate_left
           ·
            intro w'
            go_simp
            with_reducible rfl
           rotate_left
           ·
            simp only [Act.put, List.setIfInBounds_toArray, List.set_cons_zero, List.set_cons_succ, i64_w, i32_w]
            rfl
           refine pure_ (i := 10) (N := some 45) (v := ?_) (a' := ?_) #[true, true, true, true, true, true, true, true, true, false, true, false, false, false, false, false] rfl rfl (any_of HT_.out (by kernel_rfl)) (fun _ _ _ h => h) (Or.inl ⟨by rfl, ?_⟩) ?_ ?_
           rotate_left
           ·
            intro w'
            go_simp
            with_reducible rfl
           rotate_left
           ·
            simp only [Act.put, List.setIfInBounds_toArray, List.set_cons_zero, List.set_cons_succ, i64_w, i32_w]
            rfl
           refine pure_ (i := 11) (N := some 46) (v := ?_) (a' := ?_) #[true, true, true, true, true, true, true, true, true, false, true, true, false, false, false, false] rfl rfl (any_of HT_.out (by kernel_rfl)) (fun _ _ _ h => h) (Or.inl ⟨by rfl, ?_⟩) ?_ ?_
           rotate_left
           ·
            intro w'
            go_simp
            with_reducible rfl
           rotate_left
           ·
            simp only [Act.put, List.setIfInBounds_toArray, List.set_cons_zero, List.set_cons_succ, i64_w, i32_w]
            rfl
           refine take_ (i := 9) (N := some 44) (v := ?_) (a' := ?_) #[true, true, true, true, true, true, true, true, true, true, true, true, false, false, false, false] rfl rfl (take_ofW HT_.out HW_.out (by kernel_rfl)) (fun _ _ _ h => h) (Or.inl ⟨by rfl, ?_⟩) hHeld ?_ ?_
           rotate_left
           ·
            rintro w' ⟨s0, s1, s2, s3, s4, s5, s6, s7, s8, s9⟩
            go_simp
            with_reducible rfl
           rotate_left
           ·
            simp only [Act.put, List.setIfInBounds_toArray, List.set_cons_zero, List.set_cons_succ, i64_w, i32_w]
            rfl
           refine take_ (i := 12) (N := some 47) (v := ?_) (a' := ?_) #[true, true, true, true, true, true, true, true, true, true, true, true, true, false, false, false] rfl rfl (take_ofW HT_.out HW_.out (by kernel_rfl)) (fun _ _ _ h => h) (Or.inl ⟨by rfl, ?_⟩) hHeld ?_ ?_
           rotate_left
           ·
            rintro w' ⟨s0, s1, s2, s3, s4, s5, s6, s7, s8, s9⟩
            go_simp
            with_reducible rfl
           rotate_left
           ·
            simp only [Act.put, List.setIfInBounds_toArray, List.set_cons_zero, List.set_cons_succ, i64_w, i32_w]
            rfl
           refine pure_ (i := 13) (N := some 48) (v := ?_) (a' := ?_) #[true, true, true, true, true, true, true, true, true, true, true, true, true, true, false, false] rfl rfl (any_of HT_.out (by kernel_rfl)) (fun _ _ _ h => h) (Or.inl ⟨by rfl, ?_⟩) ?_ ?_
           rotate_left
           ·
            intro w'
            go_simp
            with_reducible rfl
           rotate_left
           ·
            simp only [Act.put, List.setIfInBounds_toArray, List.set_cons_zero, List.set_cons_succ, i64_w, i32_w]
            rfl
           refine pure_ (i := 14) (N := some 49) (v := ?_) (a' := ?_) #[true, true, true, true, true, true, true, true, true, true, true, true, true, true, true, false] rfl rfl (any_of HT_.out (by kernel_rfl)) (fun _ _ _ h => h) (Or.inl ⟨by rfl, ?_⟩) ?_ ?_
           rotate_left
           ·
            intro w'
            go_simp
            with_reducible rfl
           rotate_left
           ·
            simp only [Act.put, List.setIfInBounds_toArray, List.set_cons_zero, List.set_cons_succ, i64_w, i32_w]
            rfl
           refine pure_ (i := 15) (N := some 50) (v := ?_) (a' := ?_) #[true, true, true, true, true, true, true, true, true, true, true, true, true, true, true, true] rfl rfl (any_of HT_.out (by kernel_rfl)) (fun _ _ _ h => h) (Or.inl ⟨by rfl, ?_⟩) ?_ ?_
           rotate_left
           ·
            intro w'
            go_simp
            with_reducible rfl
           rotate_left
           ·
            simp only [Act.put, List.setIfInBounds_toArray, List.set_cons_zero, List.set_cons_succ, i64_w, i32_w]
            rfl
           refine done_ (done_of HT_.out (by kernel_rfl)) ?_
           try go_wp2
           go_meet
           case rel => exact ⟨_, (decide ((rd l1 x7_2) ≥ (ji19))), (by first | rfl | (simp; done) | (simp only [← hji19] <;> (first | rfl | simp)) | (simp [*]; done)), H', ⟨by have := HJ2.out; have := HK2.out; first | omega | exact Nat.le_refl _⟩, ⟨by (with_reducible repeat (first | apply Kd.R_alloc | apply Kd.R_drewN | apply Kd.R_drew)); exact HO_6.out⟩, ⟨by (with_reducible repeat (first | refine blk_drewN ?_ _ | refine blk_drew ?_ | refine blk_alloc ?_ _)); exact BK238.out⟩, ⟨by repeat (first | (with_reducible first | exact HB.out | apply below_alloc | apply pw_below_drewN | apply below_drew1 | refine below_set ?_ GE238.out) | exact HB.out)⟩⟩
          ·
           as_aux_lemma =>
           rw [if_neg c18] at H
           exact absurd H (by simp)
        ·
         as_aux_lemma =>
         rw [if_neg c15] at H
         exact absurd H (by simp)
       case rest =>
        as_aux_lemma =>
        clear HC14
        try clear c1
        try clear c2
        try clear p2
        try clear q2
        try clear hx2
        try clear c6
        try clear c6b0
        try clear c6b1
        try clear p6
        try clear c7
        try clear c7b0
        try clear c7b1
        try clear c7b2
        try clear c12
        try clear c13
        try clear c13b0
        try clear c15
        try clear c15b0
        try clear c16
        try clear c16b0
        try clear c18
        try clear c18b0
        try clear c18b1
        try clear c20
        try clear hcz10_0
        try clear hcz10_1
        try clear hcz10_2
        try clear hcz10_3
        try clear hcz10_4
        try clear hcz10_5
        try clear hcz10_6
        try clear hcz10_7
        try clear hcz11_0
        try clear hcz11_1
        try clear hcz11_2
        try clear hcz11_3
        try clear hcz11_4
        try clear hcz11_5
        try clear hcz11_6
        try clear hcz11_7
        try clear hcz8_0
        try clear hcz8_1
        try clear hcz8_2
        try clear hcz8_3
        try clear hcz8_4
        try clear hcz8_5
        try clear hcz8_6
        try clear hcz8_7
        try clear hfz10_0
        try clear hfz10_1
        try clear hfz10_2
        try clear hfz10_3
        try clear hfz10_4
        try clear hfz10_5
        try clear hfz10_6
        try clear hfz10_7
        try clear hfz11_0
        try clear hfz11_1
        try clear hfz11_2
        try clear hfz11_3
        try clear hfz11_4
        try clear hfz11_5
        try clear hfz11_6
        try clear hfz11_7
        try clear hfz8_0
        try clear hfz8_1
        try clear hfz8_2
        try clear hfz8_3
        try clear hfz8_4
        try clear hfz8_5
        try clear hfz8_6
        try clear hfz8_7
        try clear hx241_0
        try clear hx242_0
        try clear p2
        try clear p241
        try clear p242
        try clear q241
        try clear q242
        obtain ⟨kq, x50_13, rfl, HA, HJ13, HO_6, BK238, HB⟩ := hcut
        cases kq with
        | zero => exact absurd HA.out (by simp [vitrineref11_Pixel.j2])
        | succ kj13 =>
         have H := HA.out
         clear HA
         simp only [vitrineref11_Pixel.j2] at H
         by_cases c21 : x50_13 = true
         ·
          subst c21
          have H1 : (some ((⟨#[]⟩ : ByteArray), 1)) = some (r1, r2) := by rw [if_pos rfl] at H; exact H
          clear H
          have H := H1
          clear H1
          simp only [Option.some.injEq, Prod.mk.injEq] at H
          obtain ⟨rfl, rfl⟩ := H
          go_wp2
          go_ret2
          exact ⟨by first | rfl | (simp [errW_none, errW_some] <;> rfl) | (simp [*, errW_none, errW_some] <;> rfl), by repeat (first | (with_reducible first | exact HB.out | apply below_alloc | apply pw_below_drewN | apply below_drew1 | refine below_set ?_ GE238.out) | exact HB.out)⟩
         ·
          replace c21 := Bool.eq_false_iff.mpr c21
          subst c21
          have H1 : (if 0 ≤ x7_2 then (if x7_2 < (l1.length : Int) then ((vitrineref11_Wide.f (rd l1 x7_2) a0_2).bind fun t244 => ((vitrineref11_two.f t244).bind fun t245 => (if x6_2.length < 8796093022208 then (vitrineref11_Pixel.l0 kj13 l1 (x6_2 ++ [t245]) (wrap64 (x7_2 + 1)) a0_0 a0_1 a0_2 a0_3 a0_4 a0_5 a0_6 a0_7) else (none)))) else (none)) else (none)) = some (r1, r2) := by rw [if_neg (show ¬ (false = true) by decide)] at H; exact H
          clear H
          have H := H1
          clear H1
          by_cases c22 : 0 ≤ x7_2
          ·
           as_aux_lemma =>
           rw [if_pos c22] at H
           have c22b0 : decide (0 ≤ x7_2) = true := decide_eq_true c22
           clear c22
           by_cases c23 : x7_2 < (l1.length : Int)
           ·
            as_aux_lemma =>
            rw [if_pos c23] at H
            have c23b0 : decide (x7_2 < (l1.length : Int)) = true := decide_eq_true c23
            clear c23
            replace H := Option.bind_eq_some_iff.mp H
            obtain ⟨t244, A240, H⟩ := H
            replace H : ((vitrineref11_two.f t244).bind fun t245 => (if x6_2.length < 8796093022208 then (vitrineref11_Pixel.l0 kj13 l1 (x6_2 ++ [t245]) (wrap64 (x7_2 + 1)) a0_0 a0_1 a0_2 a0_3 a0_4 a0_5 a0_6 a0_7) else (none))) = some (r1, r2) := H
            have A24 := Aside0.mk A240
            clear A240
            replace H := Option.bind_eq_some_iff.mp H
            obtain ⟨t245, A250, H⟩ := H
            replace H : (if x6_2.length < 8796093022208 then (vitrineref11_Pixel.l0 kj13 l1 (x6_2 ++ [t245]) (wrap64 (x7_2 + 1)) a0_0 a0_1 a0_2 a0_3 a0_4 a0_5 a0_6 a0_7) else (none)) = some (r1, r2) := H
            have A25 := Aside0.mk A250
            clear A250
            by_cases c26 : x6_2.length < 8796093022208
            ·
             as_aux_lemma =>
             rw [if_pos c26] at H
             have LMc26 := Aside0.mk c26
             clear c26
             obtain ⟨y246, hy246⟩ : ∃ y_ : List ByteArray, y_ = (x6_2 ++ [t245]) := ⟨_, rfl⟩
             replace H : (vitrineref11_Pixel.l0 kj13 l1 y246 (wrap64 (x7_2 + 1)) a0_0 a0_1 a0_2 a0_3 a0_4 a0_5 a0_6 a0_7) = some (r1, r2) := by first | (rw [hy246]; with_reducible exact H) | (have H2_ := (Option.bind_some _ _).symm.trans H; rw [hy246]; with_reducible exact H2_) | (have H2_ := (Option.bind_some _ _).symm.trans H; with_reducible exact H2_) | with_reducible exact H | (rw [hy246]; exact H) | exact H
             have Ny246 := Aside0.mk hy246
             clear hy246
             have H' := Aside0.mk H
             clear H
             try go_wp2
             have n0_ := Aside0.mk (Kd.R_drew HO_6.out)
             have n1_ := Aside0.mk (blk_drew BK238.out)
             have n2_ := Aside0.mk (below_drew1 HB.out)
             clear HO_6
             clear BK238
             clear HB
             have HO_6 := n0_
             have BK238 := n1_
             have HB := n2_
             clear n0_ n1_ n2_
             have p243 : 0 ≤ (x7_2 : Int) := of_decide_eq_true (by first | (with_reducible assumption) | assumption)
             have q243 : x7_2 < (l1.length : Int) := of_decide_eq_true (by first | (with_reducible assumption) | assumption)
             obtain ⟨ad243, e243, hx243_0⟩ := Kd.at_int HR1.out x7_2 p243 q243
             have hw243_0 := hx243_0
             cases e243
             replace hx243_0 := (HB.out.cell (World.block_lt_of_cell? w _ hx243_0)).trans hx243_0
             replace p243 := eq_true p243
             replace q243 := eq_true q243
             refine start_ (n := 13) (S := fun w' => w'.cell? ⟨gb238, 0, none⟩ = some (.int .i64 a0_0) ∧ w'.cell? ⟨gb238, 1, none⟩ = some (.int .i64 a0_1) ∧ w'.cell? ⟨gb238, 2, none⟩ = some (.int .i64 a0_2) ∧ w'.cell? ⟨gb238, 3, none⟩ = some (.int .i64 a0_3) ∧ w'.cell? ⟨gb238, 4, none⟩ = some (.int .i64 a0_4) ∧ w'.cell? ⟨gb238, 5, none⟩ = some (.string a0_5) ∧ w'.cell? ⟨gb238, 6, none⟩ = some (.string a0_6) ∧ w'.cell? ⟨gb238, 7, none⟩ = some (.bool a0_7) ∧ w'.cell? (ad243.add (x7_2).toNat) = some (.int .i64 (rd l1 x7_2))) (ds := []) #[false, false, false, false, false, false, false, false, false, false, false, false, false] (by kernel_rfl) rfl rfl ⟨(blk_cell BK238.out 0).trans rfl, (blk_cell BK238.out 1).trans rfl, (blk_cell BK238.out 2).trans rfl, (blk_cell BK238.out 3).trans rfl, (blk_cell BK238.out 4).trans rfl, (blk_cell BK238.out 5).trans rfl, (blk_cell BK238.out 6).trans rfl, (blk_cell BK238.out 7).trans rfl, ((HB.out.cell (World.block_lt_of_cell? w _ hw243_0)).trans hw243_0)⟩ (fun hHeld => ?_); refine with_tabW vitrineref11_Pixel.tab9 vitrineref11_Pixel.bits9 (fun HT_ HW_ => ?_)
             generalize wc.drew = w27 at HO_6 BK238 HB hx243_0 hHeld ⊢
             refine pure_ (i := 0) (N := some 51) (v := ?_) (a' := ?_) #[true, false, false, false, false, false, false, false, false, false, false, false, false] rfl rfl (any_of HT_.out (by kernel_rfl)) (fun _ _ _ h => h) (Or.inl ⟨by rfl, ?_⟩) ?_ ?_
             rotate_left
             ·
              intro w'
              go_simp
              with_reducible rfl
             rotate_left
             ·
              simp only [Act.put, List.setIfInBounds_toArray, List.set_cons_zero, List.set_cons_succ, i64_w, i32_w]
              rfl
             refine pure_ (i := 1) (N := some 52) (v := ?_) (a' := ?_) #[true, true, false, false, false, false, false, false, false, false, false, false, false] rfl rfl (any_of HT_.out (by kernel_rfl)) (fun _ _ _ h => h) (Or.inl ⟨by rfl, ?_⟩) ?_ ?_
             rotate_left
             ·
              intro w'
              go_simp
              with_reducible rfl
             rotate_left
             ·
              simp only [Act.put, List.setIfInBounds_toArray, List.set_cons_zero, List.set_cons_succ, i64_w, i32_w]
              rfl
             refine pure_ (i := 2) (N := some 53) (v := ?_) (a' := ?_) #[true, true, true, false, false, false, false, false, false, false, false, false, false] rfl rfl (any_of HT_.out (by kernel_rfl)) (fun _ _ _ h => h) (Or.inl ⟨by rfl, ?_⟩) ?_ ?_
             rotate_left
             ·
              intro w'
              go_simp
              with_reducible rfl
             rotate_left
             ·
              simp only [Act.put, List.setIfInBounds_toArray, List.set_cons_zero, List.set_cons_succ, i64_w, i32_w]
              rfl
             refine pure_ (i := 3) (N := some 54) (v := ?_) (a' := ?_) #[true, true, true, true, false, false, false, false, false, false, false, false, false] rfl rfl (any_of HT_.out (by kernel_rfl)) (fun _ _ _ h => h) (Or.inl ⟨by rfl, ?_⟩) ?_ ?_
             rotate_left
             ·
              intro w'
              go_simp
              with_reducible rfl
             rotate_left
             ·
              simp only [Act.put, List.setIfInBounds_toArray, List.set_cons_zero, List.set_cons_succ, i64_w, i32_w]
              rfl
             refine pure_ (i := 5) (N := some 56) (v := ?_) (a' := ?_) #[true, true, true, true, false, true, false, false, false, false, false, false, false] rfl rfl (any_of HT_.out (by kernel_rfl)) (fun _ _ _ h => h) (Or.inl ⟨by rfl, ?_⟩) ?_ ?_
             rotate_left
             ·
              intro w'
              go_simp
              with_reducible rfl
             rotate_left
             ·
              simp only [Act.put, List.setIfInBounds_toArray, List.set_cons_zero, List.set_cons_succ, i64_w, i32_w]
              rfl
             refine pure_ (i := 6) (N := some 57) (v := ?_) (a' := ?_) #[true, true, true, true, false, true, true, false, false, false, false, false, false] rfl rfl (any_of HT_.out (by kernel_rfl)) (fun _ _ _ h => h) (Or.inl ⟨by rfl, ?_⟩) ?_ ?_
             rotate_left
             ·
              intro w'
              go_simp
              with_reducible rfl
             rotate_left
             ·
              simp only [Act.put, List.setIfInBounds_toArray, List.set_cons_zero, List.set_cons_succ, i64_w, i32_w]
              rfl
             refine take_ (i := 4) (N := some 55) (v := ?_) (a' := ?_) #[true, true, true, true, true, true, true, false, false, false, false, false, false] rfl rfl (take_ofW HT_.out HW_.out (by kernel_rfl)) (fun _ _ _ h => h) (Or.inl ⟨by rfl, ?_⟩) hHeld ?_ ?_
             rotate_left
             ·
              rintro w' ⟨s0, s1, s2, s3, s4, s5, s6, s7, s8⟩
              go_simp
              with_reducible rfl
             rotate_left
             ·
              simp only [Act.put, List.setIfInBounds_toArray, List.set_cons_zero, List.set_cons_succ, i64_w, i32_w]
              rfl
             refine take_ (i := 7) (N := some 58) (v := ?_) (a' := ?_) #[true, true, true, true, true, true, true, true, false, false, false, false, false] rfl rfl (take_ofW HT_.out HW_.out (by kernel_rfl)) (fun _ _ _ h => h) (Or.inl ⟨by rfl, ?_⟩) hHeld ?_ ?_
             rotate_left
             ·
              rintro w' ⟨s0, s1, s2, s3, s4, s5, s6, s7, s8⟩
              go_simp
              with_reducible rfl
             rotate_left
             ·
              simp only [Act.put, List.setIfInBounds_toArray, List.set_cons_zero, List.set_cons_succ, i64_w, i32_w]
              rfl
             refine one_ (i := 8) (N := some 59) #[true, true, true, true, true, true, true, true, true, false, false, false, false] rfl rfl (one_of HT_.out (by kernel_rfl)) (by decide) (fun K hK => ?_)
             refine goes_ Try.func18 (by kernel_rfl) rfl #[.int .i64 (rd l1 x7_2), .int .i64 a0_2] (by rfl) rfl rfl (by (try simp only [List.map_toArray, List.map_cons, List.map_nil]); first | done | rfl | (simp only [List.length_drop, List.length_take]; rfl)) ?_
             with_reducible refine (vitrineref11_Wide.calls (rd l1 x7_2) a0_2 t244 _ A24.out).mono ?_
             rintro e w' ⟨rfl, ⟨nd, rfl⟩⟩
             refine ⟨_, rfl, ?_⟩
             refine hK.out _ _ ⟨(blk_cell BK238.out 0).trans rfl, (blk_cell BK238.out 1).trans rfl, (blk_cell BK238.out 2).trans rfl, (blk_cell BK238.out 3).trans rfl, (blk_cell BK238.out 4).trans rfl, (blk_cell BK238.out 5).trans rfl, (blk_cell BK238.out 6).trans rfl, (blk_cell BK238.out 7).trans rfl, ((HB.out.cell (World.block_lt_of_cell? w _ hw243_0)).trans hw243_0)⟩ (fun hHeld => ?_)
             clear hK K
             refine norm_ (a' := ?_) ?_ ?_
             rotate_left
             ·
              show Act.put _ (some 59) _ = _
              simp only [Act.put, List.setIfInBounds_toArray, List.set_cons_zero, List.set_cons_succ, i64_w, i32_w]
              rfl
             refine one_ (i := 9) (N := some 60) #[true, true, true, true, true, true, true, true, true, true, false, false, false] rfl rfl (one_of HT_.out (by kernel_rfl)) (by decide) (fun K hK => ?_)
             refine goes_ Try.func30 (by kernel_rfl) rfl #[.int .i64 t244] (by rfl) rfl rfl (by (try simp only [List.map_toArray, List.map_cons, List.map_nil]); first | done | rfl | (simp only [List.length_drop, List.length_take]; rfl)) ?_
             with_reducible refine (vitrineref11_two.calls t244 t245 _ A25.out).mono ?_
             rintro e w28 ⟨rfl, hb⟩
             refine ⟨_, rfl, ?_⟩
             have n0_ := Aside0.mk (Kd.R_below (by (with_reducible repeat (first | apply Kd.R_alloc | apply Kd.R_drewN | apply Kd.R_drew)); exact HO_6.out) hb)
             have n1_ := Aside0.mk (blk_below (g := gb238) (o := .cells #[.int .i64 a0_0, .int .i64 a0_1, .int .i64 a0_2, .int .i64 a0_3, .int .i64 a0_4, .string a0_5, .string a0_6, .bool a0_7] 38 (0, 0)) (by (with_reducible repeat (first | refine blk_drewN ?_ _ | refine blk_drew ?_ | refine blk_alloc ?_ _)); exact BK238.out) hb)
             have n2_ := Aside0.mk (below_step (by repeat (first | (with_reducible first | exact HB.out | apply below_alloc | apply pw_below_drewN | apply below_drew1 | refine below_set ?_ GE238.out) | exact HB.out)) hb)
             clear HO_6
             clear BK238
             clear HB
             have HO_6 := n0_
             have BK238 := n1_
             have HB := n2_
             clear n0_ n1_ n2_
             (try clear hb)
             (try clear hb2)
             (try clear hk)
             (try clear hi)
             refine hK.out _ _ ⟨(blk_cell BK238.out 0).trans rfl, (blk_cell BK238.out 1).trans rfl, (blk_cell BK238.out 2).trans rfl, (blk_cell BK238.out 3).trans rfl, (blk_cell BK238.out 4).trans rfl, (blk_cell BK238.out 5).trans rfl, (blk_cell BK238.out 6).trans rfl, (blk_cell BK238.out 7).trans rfl, ((HB.out.cell (World.block_lt_of_cell? w _ hw243_0)).trans hw243_0)⟩ (fun hHeld => ?_)
             clear hK K
             refine norm_ (a' := ?_) ?_ ?_
             rotate_left
             ·
              show Act.put _ (some 60) _ = _
              simp only [Act.put, List.setIfInBounds_toArray, List.set_cons_zero, List.set_cons_succ, i64_w, i32_w]
              rfl
             refine one_ (i := 10) (N := some 61) #[true, true, true, true, true, true, true, true, true, true, true, false, false] rfl rfl (one_of HT_.out (by kernel_rfl)) (by decide) (fun K hK => ?_)
             refine value_ (w1 := ?_) (v := ?_) (by rfl) rfl ?_ ?_
             rotate_left 2
             ·
              go_simp
              constructor
              ·
               rfl
              ·
               rfl
             refine hK.out _ _ ⟨(blk_cell (blk_alloc BK238.out _) 0).trans rfl, (blk_cell (blk_alloc BK238.out _) 1).trans rfl, (blk_cell (blk_alloc BK238.out _) 2).trans rfl, (blk_cell (blk_alloc BK238.out _) 3).trans rfl, (blk_cell (blk_alloc BK238.out _) 4).trans rfl, (blk_cell (blk_alloc BK238.out _) 5).trans rfl, (blk_cell (blk_alloc BK238.out _) 6).trans rfl, (blk_cell (blk_alloc BK238.out _) 7).trans rfl, (World.cell?_alloc_lt _ _ _ (World.block_lt_of_cell? _ _ (((HB.out.cell (World.block_lt_of_cell? w _ hw243_0)).trans hw243_0)))).trans (((HB.out.cell (World.block_lt_of_cell? w _ hw243_0)).trans hw243_0))⟩ (fun hHeld => ?_)
             clear hK K
             refine norm_ (a' := ?_) ?_ ?_
             rotate_left
             ·
              show Act.put _ (some 61) _ = _
              simp only [Act.put, List.setIfInBounds_toArray, List.set_cons_zero, List.set_cons_succ, i64_w, i32_w]
              rfl
             refine one_ (i := 11) (N := some 62) #[true, true, true, true, true, true, true, true, true, true, true, true, false] rfl rfl (one_of HT_.out (by kernel_rfl)) (by decide) (fun K hK => ?_)
             refine Kd.R_append_step Kd.string (w0 := w) w.heap.size (by rfl) (.tmp 51) (.tmp 61) 51 9 (.string ⟨#[]⟩) 16 rfl Try.underlying51 info9 rfl (by decide) (by omega) u6 x6_2 t245 [.string t245] (fun _ => True) (fun _ => False) rfl rfl ?aP (fun _ hk => hk.elim) ?aF ?aO ?aB ?aS ?aL ?_
             (case aP => exact rfl)
             (case aB => exact (by repeat (first | (with_reducible first | exact HB.out | apply below_alloc | apply pw_below_drewN | apply below_drew1 | refine below_set ?_ GE238.out) | exact HB.out)))
             (case aF => exact (fun _ _ => trivial))
             (case aO => exact (by (with_reducible repeat (first | apply Kd.R_alloc | apply Kd.R_drewN | apply Kd.R_drew)); exact HO_6.out))
             (case aS => exact (below_size (by repeat (first | (with_reducible first | exact HB.out | apply below_alloc | apply pw_below_drewN | apply below_drew1 | refine below_set ?_ GE238.out) | exact HB.out))))
             (case aL => have := LMc26.out; omega)
             intro v247 w29 ho hb hg hat
             rw [← Ny246.out] at ho
             have n0_ := Aside0.mk (blk_grown (g := gb238) (o := .cells #[.int .i64 a0_0, .int .i64 a0_1, .int .i64 a0_2, .int .i64 a0_3, .int .i64 a0_4, .string a0_5, .string a0_6, .bool a0_7] 38 (0, 0)) (by (with_reducible repeat (first | refine blk_drewN ?_ _ | refine blk_drew ?_ | refine blk_alloc ?_ _)); exact BK238.out) hg (Kd.R_ne HO_6.out BK238.out (by decide)))
             have n1_ := Aside0.mk (hb)
             have n2_ := Aside0.mk (ho)
             clear BK238
             clear HB
             clear HO_6
             have BK238 := n0_
             have HB := n1_
             have HO248 := n2_
             clear n0_ n1_ n2_
             clear ho hb hg hat
             refine hK.out _ _ ⟨(blk_cell BK238.out 0).trans rfl, (blk_cell BK238.out 1).trans rfl, (blk_cell BK238.out 2).trans rfl, (blk_cell BK238.out 3).trans rfl, (blk_cell BK238.out 4).trans rfl, (blk_cell BK238.out 5).trans rfl, (blk_cell BK238.out 6).trans rfl, (blk_cell BK238.out 7).trans rfl, ((HB.out.cell (World.block_lt_of_cell? w _ hw243_0)).trans hw243_0)⟩ (fun hHeld => ?_)
             clear hK K
             refine norm_ (a' := ?_) ?_ ?_
             rotate_left
             ·
              show Act.put _ (some 62) _ = _
              simp only [Act.put, List.setIfInBounds_toArray, List.set_cons_zero, List.set_cons_succ, i64_w, i32_w]
              rfl
             refine pure_ (i := 12) (N := some 6) (v := ?_) (a' := ?_) #[true, true, true, true, true, true, true, true, true, true, true, true, true] rfl rfl (any_of HT_.out (by kernel_rfl)) (fun _ _ _ h => h) (Or.inl ⟨by rfl, ?_⟩) ?_ ?_
             rotate_left
             ·
              intro w'
              go_simp
              with_reducible rfl
             rotate_left
             ·
              simp only [Act.put, List.setIfInBounds_toArray, List.set_cons_zero, List.set_cons_succ, i64_w, i32_w]
              rfl
             refine done_ (done_of HT_.out (by kernel_rfl)) ?_
             try go_wp2
             go_roundg kj13
             case measure => have := HJ2.out; have := HK2.out; have := HJ13.out; omega
             case rel => exact ⟨(y246), (wrap64 (x7_2 + 1)), (by first | rfl | (simp; done) | (simp [*]; done)), H', ⟨by have := HJ2.out; have := HK2.out; have := HJ13.out; omega⟩, ⟨by (with_reducible repeat (first | apply Kd.R_alloc | apply Kd.R_drewN | apply Kd.R_drew)); exact HO248.out⟩, ⟨by (with_reducible repeat (first | refine blk_drewN ?_ _ | refine blk_drew ?_ | refine blk_alloc ?_ _)); exact BK238.out⟩, ⟨by repeat (first | (with_reducible first | exact HB.out | apply below_alloc | apply pw_below_drewN | apply below_drew1 | refine below_set ?_ GE238.out) | exact HB.out)⟩⟩
            ·
             as_aux_lemma =>
             rw [if_neg c26] at H
             exact absurd H (by simp)
           ·
            as_aux_lemma =>
            rw [if_neg c23] at H
            exact absurd H (by simp)
          ·
           as_aux_lemma =>
           rw [if_neg c22] at H
           exact absurd H (by simp)
      ·
       as_aux_lemma =>
       rw [if_neg c13] at H
       have c13b0 : decide (x7_2 < (l1.length : Int)) = false := decide_eq_false c13
       clear c13
       replace H := Option.bind_eq_some_iff.mp H
       obtain ⟨t249, A300, H⟩ := H
       replace H : (if a0_3 = 0 then ((vitrineref11_same.f k2 a0_0 a0_1 a0_2 a0_3 a0_4 a0_5 a0_6 a0_7 l1).bind fun t250 => (vitrineref11_Pixel.j3 k2 l1 x6_2 t249 t250 a0_0 a0_1 a0_2 a0_3 a0_4 a0_5 a0_6 a0_7)) else (if a0_3 = 2 then ((vitrineref11_same.f k2 a0_0 a0_1 a0_2 a0_3 a0_4 a0_5 a0_6 a0_7 l1).bind fun t251 => (vitrineref11_Pixel.j3 k2 l1 x6_2 t249 t251 a0_0 a0_1 a0_2 a0_3 a0_4 a0_5 a0_6 a0_7)) else (vitrineref11_Pixel.j3 k2 l1 x6_2 t249 false a0_0 a0_1 a0_2 a0_3 a0_4 a0_5 a0_6 a0_7))) = some (r1, r2) := H
       have A30 := Aside0.mk A300
       clear A300
       have HC31 := Aside0.mk H
       clear H
       go_upto_region 11 with (first | ((with_reducible refine gate_callee (f := 30) rfl ?_); refine goesL_ (some 63) rfl rfl Try.func30 (by kernel_rfl) rfl #[.int .i64 65535] rfl (by (try simp only [List.map_toArray, List.map_cons, List.map_nil]); first | done | rfl | (simp only [List.length_drop, List.length_take]; rfl)) ?_; (with_reducible refine (vitrineref11_two.calls 65535 t249 _ A30.out).mono ?_); rintro e w32 ⟨rfl, hb⟩; refine ⟨_, rfl, ?_⟩; have n0_ := Aside0.mk (Kd.R_below (by (with_reducible repeat (first | apply Kd.R_alloc | apply Kd.R_drewN | apply Kd.R_drew)); exact HO_6.out) hb); have n1_ := Aside0.mk (blk_below (g := gb238) (o := .cells #[.int .i64 a0_0, .int .i64 a0_1, .int .i64 a0_2, .int .i64 a0_3, .int .i64 a0_4, .string a0_5, .string a0_6, .bool a0_7] 38 (0, 0)) (by (with_reducible repeat (first | refine blk_drewN ?_ _ | refine blk_drew ?_ | refine blk_alloc ?_ _)); exact BK238.out) hb); have n2_ := Aside0.mk (below_step (by repeat (first | (with_reducible first | exact HB.out | apply below_alloc | apply pw_below_drewN | apply below_drew1 | refine below_set ?_ GE238.out) | exact HB.out)) hb); clear HO_6; clear BK238; clear HB; have HO_6 := n0_; have BK238 := n1_; have HB := n2_; clear n0_ n1_ n2_; (try clear hb); (try clear hb2); (try clear hk); (try clear hi)))
       (try simp only [Act.put, List.setIfInBounds_toArray, List.set_cons_zero, List.set_cons_succ])
       go_cut [78] (fun v78 wc => ∃ (kq : Nat) (x78_30 : Bool), v78 = .bool x78_30 ∧ Aside0 (vitrineref11_Pixel.j3 kq l1 x6_2 t249 x78_30 a0_0 a0_1 a0_2 a0_3 a0_4 a0_5 a0_6 a0_7 = some (r1, r2)) ∧ Aside0 (kq ≤ k2) ∧ Aside0 (Kd.R Kd.string 9 wc w.heap.size (fun _ => True) u6 x6_2) ∧ Aside0 (wc.heap[gb238]? = some (.cells #[.int .i64 a0_0, .int .i64 a0_1, .int .i64 a0_2, .int .i64 a0_3, .int .i64 a0_4, .string a0_5, .string a0_6, .bool a0_7] 38 (0, 0))) ∧ Aside0 (Below w.heap.size w wc))
       case first =>
        as_aux_lemma =>
        have H := HC31.out
        clear HC31
        by_cases c33 : a0_3 = 0
        ·
         as_aux_lemma =>
         rw [if_pos c33] at H
         have c33b0 : (a0_3 == 0) = true := beq_iff_eq.mpr c33
         have c33b1 : (a0_3 != 0) = false := bne_eq_false_iff_eq.mpr c33
         clear c33
         (first | rw [c33b0] | (simp only [i64_w, i32_w]; rw [c33b0]) | skip)
         replace H := Option.bind_eq_some_iff.mp H
         obtain ⟨t250, A340, H⟩ := H
         replace H : (vitrineref11_Pixel.j3 k2 l1 x6_2 t249 t250 a0_0 a0_1 a0_2 a0_3 a0_4 a0_5 a0_6 a0_7) = some (r1, r2) := H
         have A34 := Aside0.mk A340
         clear A340
         have H' := Aside0.mk H
         clear H
         have hcz35_0 : w32.cell? ⟨gb238, 0, none⟩ = some (.int .i64 a0_0) := (blk_cell BK238.out 0).trans rfl
         have hcz35_1 : w32.cell? ⟨gb238, 1, none⟩ = some (.int .i64 a0_1) := (blk_cell BK238.out 1).trans rfl
         have hcz35_2 : w32.cell? ⟨gb238, 2, none⟩ = some (.int .i64 a0_2) := (blk_cell BK238.out 2).trans rfl
         have hcz35_3 : w32.cell? ⟨gb238, 3, none⟩ = some (.int .i64 a0_3) := (blk_cell BK238.out 3).trans rfl
         have hcz35_4 : w32.cell? ⟨gb238, 4, none⟩ = some (.int .i64 a0_4) := (blk_cell BK238.out 4).trans rfl
         have hcz35_5 : w32.cell? ⟨gb238, 5, none⟩ = some (.string a0_5) := (blk_cell BK238.out 5).trans rfl
         have hcz35_6 : w32.cell? ⟨gb238, 6, none⟩ = some (.string a0_6) := (blk_cell BK238.out 6).trans rfl
         have hcz35_7 : w32.cell? ⟨gb238, 7, none⟩ = some (.bool a0_7) := (blk_cell BK238.out 7).trans rfl
         have hfz35_0 := blk_frozen BK238.out 0
         have hfz35_1 := blk_frozen BK238.out 1
         have hfz35_2 := blk_frozen BK238.out 2
         have hfz35_3 := blk_frozen BK238.out 3
         have hfz35_4 := blk_frozen BK238.out 4
         have hfz35_5 := blk_frozen BK238.out 5
         have hfz35_6 := blk_frozen BK238.out 6
         have hfz35_7 := blk_frozen BK238.out 7
         go_wp2_with (first | (go_at_call 31; (with_reducible refine (vitrineref11_same.calls k2 a0_0 a0_1 a0_2 a0_3 a0_4 a0_5 a0_6 a0_7 _ _ l1 t250 _ ?side1 ?side2 A34.out).mono ?_); (case side1 => repeat (first | exact (Kd.C_below HR1.out HB.out) | (with_reducible refine Kd.C_alloc ?_ _) | (with_reducible refine Kd.C_drewN ?_ _) | (with_reducible refine Kd.C_drew ?_))); (case side2 => exact HC1.out); rintro e w36 ⟨rfl, hb⟩; have n0_ := Aside0.mk (Kd.R_below (by (with_reducible repeat (first | apply Kd.R_alloc | apply Kd.R_drewN | apply Kd.R_drew)); exact HO_6.out) hb); have n1_ := Aside0.mk (blk_below (g := gb238) (o := .cells #[.int .i64 a0_0, .int .i64 a0_1, .int .i64 a0_2, .int .i64 a0_3, .int .i64 a0_4, .string a0_5, .string a0_6, .bool a0_7] 38 (0, 0)) (by (with_reducible repeat (first | refine blk_drewN ?_ _ | refine blk_drew ?_ | refine blk_alloc ?_ _)); exact BK238.out) hb); have n2_ := Aside0.mk (below_step (by repeat (first | (with_reducible first | exact HB.out | apply below_alloc | apply pw_below_drewN | apply below_drew1 | refine below_set ?_ GE238.out) | exact HB.out)) hb); clear HO_6; clear BK238; clear HB; have HO_6 := n0_; have BK238 := n1_; have HB := n2_; clear n0_ n1_ n2_; (try clear hb); (try clear hb2); (try clear hk); (try clear hi)))
         go_meet
         case rel => exact ⟨_, (t250), (by first | rfl | (simp; done) | (simp [*]; done)), H', ⟨by have := HJ2.out; have := HK2.out; first | omega | exact Nat.le_refl _⟩, ⟨by (with_reducible repeat (first | apply Kd.R_alloc | apply Kd.R_drewN | apply Kd.R_drew)); exact HO_6.out⟩, ⟨by (with_reducible repeat (first | refine blk_drewN ?_ _ | refine blk_drew ?_ | refine blk_alloc ?_ _)); exact BK238.out⟩, ⟨by repeat (first | (with_reducible first | exact HB.out | apply below_alloc | apply pw_below_drewN | apply below_drew1 | refine below_set ?_ GE238.out) | exact HB.out)⟩⟩
        ·
         as_aux_lemma =>
         rw [if_neg c33] at H
         have c33b0 : (a0_3 == 0) = false := beq_eq_false_iff_ne.mpr c33
         have c33b1 : (a0_3 != 0) = true := bne_iff_ne.mpr c33
         (first | rw [c33b0] | (simp only [i64_w, i32_w]; rw [c33b0]) | skip)
         by_cases c37 : a0_3 = 2
         ·
          as_aux_lemma =>
          rw [if_pos c37] at H
          have c37b0 : (a0_3 == 2) = true := beq_iff_eq.mpr c37
          have c37b1 : (a0_3 != 2) = false := bne_eq_false_iff_eq.mpr c37
          clear c37
          replace H := Option.bind_eq_some_iff.mp H
          obtain ⟨t251, A380, H⟩ := H
          replace H : (vitrineref11_Pixel.j3 k2 l1 x6_2 t249 t251 a0_0 a0_1 a0_2 a0_3 a0_4 a0_5 a0_6 a0_7) = some (r1, r2) := H
          have A38 := Aside0.mk A380
          clear A380
          have H' := Aside0.mk H
          clear H
          have hcz39_0 : w32.cell? ⟨gb238, 0, none⟩ = some (.int .i64 a0_0) := (blk_cell BK238.out 0).trans rfl
          have hcz39_1 : w32.cell? ⟨gb238, 1, none⟩ = some (.int .i64 a0_1) := (blk_cell BK238.out 1).trans rfl
          have hcz39_2 : w32.cell? ⟨gb238, 2, none⟩ = some (.int .i64 a0_2) := (blk_cell BK238.out 2).trans rfl
          have hcz39_3 : w32.cell? ⟨gb238, 3, none⟩ = some (.int .i64 a0_3) := (blk_cell BK238.out 3).trans rfl
          have hcz39_4 : w32.cell? ⟨gb238, 4, none⟩ = some (.int .i64 a0_4) := (blk_cell BK238.out 4).trans rfl
          have hcz39_5 : w32.cell? ⟨gb238, 5, none⟩ = some (.string a0_5) := (blk_cell BK238.out 5).trans rfl
          have hcz39_6 : w32.cell? ⟨gb238, 6, none⟩ = some (.string a0_6) := (blk_cell BK238.out 6).trans rfl
          have hcz39_7 : w32.cell? ⟨gb238, 7, none⟩ = some (.bool a0_7) := (blk_cell BK238.out 7).trans rfl
          have hfz39_0 := blk_frozen BK238.out 0
          have hfz39_1 := blk_frozen BK238.out 1
          have hfz39_2 := blk_frozen BK238.out 2
          have hfz39_3 := blk_frozen BK238.out 3
          have hfz39_4 := blk_frozen BK238.out 4
          have hfz39_5 := blk_frozen BK238.out 5
          have hfz39_6 := blk_frozen BK238.out 6
          have hfz39_7 := blk_frozen BK238.out 7
          go_wp2_with (first | (go_at_call 31; (with_reducible refine (vitrineref11_same.calls k2 a0_0 a0_1 a0_2 a0_3 a0_4 a0_5 a0_6 a0_7 _ _ l1 t251 _ ?side1 ?side2 A38.out).mono ?_); (case side1 => repeat (first | exact (Kd.C_below HR1.out HB.out) | (with_reducible refine Kd.C_alloc ?_ _) | (with_reducible refine Kd.C_drewN ?_ _) | (with_reducible refine Kd.C_drew ?_))); (case side2 => exact HC1.out); rintro e w40 ⟨rfl, hb⟩; have n0_ := Aside0.mk (Kd.R_below (by (with_reducible repeat (first | apply Kd.R_alloc | apply Kd.R_drewN | apply Kd.R_drew)); exact HO_6.out) hb); have n1_ := Aside0.mk (blk_below (g := gb238) (o := .cells #[.int .i64 a0_0, .int .i64 a0_1, .int .i64 a0_2, .int .i64 a0_3, .int .i64 a0_4, .string a0_5, .string a0_6, .bool a0_7] 38 (0, 0)) (by (with_reducible repeat (first | refine blk_drewN ?_ _ | refine blk_drew ?_ | refine blk_alloc ?_ _)); exact BK238.out) hb); have n2_ := Aside0.mk (below_step (by repeat (first | (with_reducible first | exact HB.out | apply below_alloc | apply pw_below_drewN | apply below_drew1 | refine below_set ?_ GE238.out) | exact HB.out)) hb); clear HO_6; clear BK238; clear HB; have HO_6 := n0_; have BK238 := n1_; have HB := n2_; clear n0_ n1_ n2_; (try clear hb); (try clear hb2); (try clear hk); (try clear hi)))
          go_meet
          case rel => exact ⟨_, (t251), (by first | rfl | (simp; done) | (simp [*]; done)), H', ⟨by have := HJ2.out; have := HK2.out; first | omega | exact Nat.le_refl _⟩, ⟨by (with_reducible repeat (first | apply Kd.R_alloc | apply Kd.R_drewN | apply Kd.R_drew)); exact HO_6.out⟩, ⟨by (with_reducible repeat (first | refine blk_drewN ?_ _ | refine blk_drew ?_ | refine blk_alloc ?_ _)); exact BK238.out⟩, ⟨by repeat (first | (with_reducible first | exact HB.out | apply below_alloc | apply pw_below_drewN | apply below_drew1 | refine below_set ?_ GE238.out) | exact HB.out)⟩⟩
         ·
          as_aux_lemma =>
          rw [if_neg c37] at H
          have c37b0 : (a0_3 == 2) = false := beq_eq_false_iff_ne.mpr c37
          have c37b1 : (a0_3 != 2) = true := bne_iff_ne.mpr c37
          have H' := Aside0.mk H
          clear H
          have hcz41_0 : w32.cell? ⟨gb238, 0, none⟩ = some (.int .i64 a0_0) := (blk_cell BK238.out 0).trans rfl
          have hcz41_1 : w32.cell? ⟨gb238, 1, none⟩ = some (.int .i64 a0_1) := (blk_cell BK238.out 1).trans rfl
          have hcz41_2 : w32.cell? ⟨gb238, 2, none⟩ = some (.int .i64 a0_2) := (blk_cell BK238.out 2).trans rfl
          have hcz41_3 : w32.cell? ⟨gb238, 3, none⟩ = some (.int .i64 a0_3) := (blk_cell BK238.out 3).trans rfl
          have hcz41_4 : w32.cell? ⟨gb238, 4, none⟩ = some (.int .i64 a0_4) := (blk_cell BK238.out 4).trans rfl
          have hcz41_5 : w32.cell? ⟨gb238, 5, none⟩ = some (.string a0_5) := (blk_cell BK238.out 5).trans rfl
          have hcz41_6 : w32.cell? ⟨gb238, 6, none⟩ = some (.string a0_6) := (blk_cell BK238.out 6).trans rfl
          have hcz41_7 : w32.cell? ⟨gb238, 7, none⟩ = some (.bool a0_7) := (blk_cell BK238.out 7).trans rfl
          have hfz41_0 := blk_frozen BK238.out 0
          have hfz41_1 := blk_frozen BK238.out 1
          have hfz41_2 := blk_frozen BK238.out 2
          have hfz41_3 := blk_frozen BK238.out 3
          have hfz41_4 := blk_frozen BK238.out 4
          have hfz41_5 := blk_frozen BK238.out 5
          have hfz41_6 := blk_frozen BK238.out 6
          have hfz41_7 := blk_frozen BK238.out 7
          go_wp2
          go_meet
          case rel => exact ⟨_, (false), (by first | rfl | (simp; done) | (simp [*]; done)), H', ⟨by have := HJ2.out; have := HK2.out; first | omega | exact Nat.le_refl _⟩, ⟨by (with_reducible repeat (first | apply Kd.R_alloc | apply Kd.R_drewN | apply Kd.R_drew)); exact HO_6.out⟩, ⟨by (with_reducible repeat (first | refine blk_drewN ?_ _ | refine blk_drew ?_ | refine blk_alloc ?_ _)); exact BK238.out⟩, ⟨by repeat (first | (with_reducible first | exact HB.out | apply below_alloc | apply pw_below_drewN | apply below_drew1 | refine below_set ?_ GE238.out) | exact HB.out)⟩⟩
       case rest =>
        as_aux_lemma =>
        clear HC31
        try clear c1
        try clear c2
        try clear p2
        try clear q2
        try clear hx2
        try clear c3
        try clear c6
        try clear c6b0
        try clear c6b1
        try clear p6
        try clear c7
        try clear c7b0
        try clear c7b1
        try clear c7b2
        try clear c12
        try clear c13
        try clear c13b0
        try clear c15
        try clear c15b0
        try clear c16
        try clear c16b0
        try clear c18
        try clear c18b0
        try clear c18b1
        try clear c20
        try clear c21
        try clear c22
        try clear c22b0
        try clear c23
        try clear c23b0
        try clear p24
        try clear q24
        try clear hx24
        try clear c26
        try clear c30
        try clear c33
        try clear c33b0
        try clear c33b1
        try clear c37
        try clear c37b0
        try clear c37b1
        try clear hcz10_0
        try clear hcz10_1
        try clear hcz10_2
        try clear hcz10_3
        try clear hcz10_4
        try clear hcz10_5
        try clear hcz10_6
        try clear hcz10_7
        try clear hcz11_0
        try clear hcz11_1
        try clear hcz11_2
        try clear hcz11_3
        try clear hcz11_4
        try clear hcz11_5
        try clear hcz11_6
        try clear hcz11_7
        try clear hcz35_0
        try clear hcz35_1
        try clear hcz35_2
        try clear hcz35_3
        try clear hcz35_4
        try clear hcz35_5
        try clear hcz35_6
        try clear hcz35_7
        try clear hcz39_0
        try clear hcz39_1
        try clear hcz39_2
        try clear hcz39_3
        try clear hcz39_4
        try clear hcz39_5
        try clear hcz39_6
        try clear hcz39_7
        try clear hcz41_0
        try clear hcz41_1
        try clear hcz41_2
        try clear hcz41_3
        try clear hcz41_4
        try clear hcz41_5
        try clear hcz41_6
        try clear hcz41_7
        try clear hcz8_0
        try clear hcz8_1
        try clear hcz8_2
        try clear hcz8_3
        try clear hcz8_4
        try clear hcz8_5
        try clear hcz8_6
        try clear hcz8_7
        try clear hfz10_0
        try clear hfz10_1
        try clear hfz10_2
        try clear hfz10_3
        try clear hfz10_4
        try clear hfz10_5
        try clear hfz10_6
        try clear hfz10_7
        try clear hfz11_0
        try clear hfz11_1
        try clear hfz11_2
        try clear hfz11_3
        try clear hfz11_4
        try clear hfz11_5
        try clear hfz11_6
        try clear hfz11_7
        try clear hfz35_0
        try clear hfz35_1
        try clear hfz35_2
        try clear hfz35_3
        try clear hfz35_4
        try clear hfz35_5
        try clear hfz35_6
        try clear hfz35_7
        try clear hfz39_0
        try clear hfz39_1
        try clear hfz39_2
        try clear hfz39_3
        try clear hfz39_4
        try clear hfz39_5
        try clear hfz39_6
        try clear hfz39_7
        try clear hfz41_0
        try clear hfz41_1
        try clear hfz41_2
        try clear hfz41_3
        try clear hfz41_4
        try clear hfz41_5
        try clear hfz41_6
        try clear hfz41_7
        try clear hfz8_0
        try clear hfz8_1
        try clear hfz8_2
        try clear hfz8_3
        try clear hfz8_4
        try clear hfz8_5
        try clear hfz8_6
        try clear hfz8_7
        try clear hx241_0
        try clear hx242_0
        try clear hx243_0
        try clear p2
        try clear p241
        try clear p242
        try clear p243
        try clear p6
        try clear q2
        try clear q241
        try clear q242
        try clear q243
        obtain ⟨kq, x78_30, rfl, HA, HJ30, HO_6, BK238, HB⟩ := hcut
        cases kq with
        | zero => exact absurd HA.out (by simp [vitrineref11_Pixel.j3])
        | succ kj30 =>
         have H := HA.out
         clear HA
         simp only [vitrineref11_Pixel.j3] at H
         have HC42 := Aside0.mk H
         clear H
         go_upto_if 78 with (fail)
         go_cut [8] (fun v8 wc => ∃ (kq : Nat) (x8_41 : ByteArray), v8 = .string x8_41 ∧ Aside0 (vitrineref11_Pixel.j4 kq l1 x6_2 x8_41 a0_0 a0_1 a0_2 a0_3 a0_4 a0_5 a0_6 a0_7 = some (r1, r2)) ∧ Aside0 (kq ≤ kj30) ∧ Aside0 (Kd.R Kd.string 9 wc w.heap.size (fun _ => True) u6 x6_2) ∧ Aside0 (wc.heap[gb238]? = some (.cells #[.int .i64 a0_0, .int .i64 a0_1, .int .i64 a0_2, .int .i64 a0_3, .int .i64 a0_4, .string a0_5, .string a0_6, .bool a0_7] 38 (0, 0))) ∧ Aside0 (Below w.heap.size w wc))
         case first =>
          as_aux_lemma =>
          have H := HC42.out
          clear HC42
          by_cases c43 : x78_30 = true
          ·
           subst c43
           have H1 : ((vitrineref11_two.f 0).bind fun t252 => (vitrineref11_Pixel.j4 kj30 l1 x6_2 t252 a0_0 a0_1 a0_2 a0_3 a0_4 a0_5 a0_6 a0_7)) = some (r1, r2) := by rw [if_pos rfl] at H; exact H
           clear H
           have H := H1
           clear H1
           replace H := Option.bind_eq_some_iff.mp H
           obtain ⟨t252, A440, H⟩ := H
           replace H : (vitrineref11_Pixel.j4 kj30 l1 x6_2 t252 a0_0 a0_1 a0_2 a0_3 a0_4 a0_5 a0_6 a0_7) = some (r1, r2) := H
           have A44 := Aside0.mk A440
           clear A440
           have H' := Aside0.mk H
           clear H
           go_wp2_with (first | ((with_reducible refine gate_callee (f := 30) rfl ?_); refine goesL_ (some 79) rfl rfl Try.func30 (by kernel_rfl) rfl #[.int .i64 0] rfl (by (try simp only [List.map_toArray, List.map_cons, List.map_nil]); first | done | rfl | (simp only [List.length_drop, List.length_take]; rfl)) ?_; (with_reducible refine (vitrineref11_two.calls 0 t252 _ A44.out).mono ?_); rintro e w45 ⟨rfl, hb⟩; refine ⟨_, rfl, ?_⟩; have n0_ := Aside0.mk (Kd.R_below (by (with_reducible repeat (first | apply Kd.R_alloc | apply Kd.R_drewN | apply Kd.R_drew)); exact HO_6.out) hb); have n1_ := Aside0.mk (blk_below (g := gb238) (o := .cells #[.int .i64 a0_0, .int .i64 a0_1, .int .i64 a0_2, .int .i64 a0_3, .int .i64 a0_4, .string a0_5, .string a0_6, .bool a0_7] 38 (0, 0)) (by (with_reducible repeat (first | refine blk_drewN ?_ _ | refine blk_drew ?_ | refine blk_alloc ?_ _)); exact BK238.out) hb); have n2_ := Aside0.mk (below_step (by repeat (first | (with_reducible first | exact HB.out | apply below_alloc | apply pw_below_drewN | apply below_drew1 | refine below_set ?_ GE238.out) | exact HB.out)) hb); clear HO_6; clear BK238; clear HB; have HO_6 := n0_; have BK238 := n1_; have HB := n2_; clear n0_ n1_ n2_; (try clear hb); (try clear hb2); (try clear hk); (try clear hi)))
           go_meet
           case rel => exact ⟨_, (t252), (by first | rfl | (simp; done) | (simp [*]; done)), H', ⟨by have := HJ2.out; have := HK2.out; have := HJ30.out; first | omega | exact Nat.le_refl _⟩, ⟨by (with_reducible repeat (first | apply Kd.R_alloc | apply Kd.R_drewN | apply Kd.R_drew)); exact HO_6.out⟩, ⟨by (with_reducible repeat (first | refine blk_drewN ?_ _ | refine blk_drew ?_ | refine blk_alloc ?_ _)); exact BK238.out⟩, ⟨by repeat (first | (with_reducible first | exact HB.out | apply below_alloc | apply pw_below_drewN | apply below_drew1 | refine below_set ?_ GE238.out) | exact HB.out)⟩⟩
          ·
           replace c43 := Bool.eq_false_iff.mpr c43
           subst c43
           have H1 : (vitrineref11_Pixel.j4 kj30 l1 x6_2 t249 a0_0 a0_1 a0_2 a0_3 a0_4 a0_5 a0_6 a0_7) = some (r1, r2) := by rw [if_neg (show ¬ (false = true) by decide)] at H; exact H
           clear H
           have H := H1
           clear H1
           have H' := Aside0.mk H
           clear H
           go_wp2
           go_meet
           case rel => exact ⟨_, (t249), (by first | rfl | (simp; done) | (simp [*]; done)), H', ⟨by have := HJ2.out; have := HK2.out; have := HJ30.out; first | omega | exact Nat.le_refl _⟩, ⟨by (with_reducible repeat (first | apply Kd.R_alloc | apply Kd.R_drewN | apply Kd.R_drew)); exact HO_6.out⟩, ⟨by (with_reducible repeat (first | refine blk_drewN ?_ _ | refine blk_drew ?_ | refine blk_alloc ?_ _)); exact BK238.out⟩, ⟨by repeat (first | (with_reducible first | exact HB.out | apply below_alloc | apply pw_below_drewN | apply below_drew1 | refine below_set ?_ GE238.out) | exact HB.out)⟩⟩
         case rest =>
          as_aux_lemma =>
          clear HC42
          try clear c1
          try clear c2
          try clear p2
          try clear q2
          try clear hx2
          try clear c3
          try clear c4
          try clear c6
          try clear c6b0
          try clear c6b1
          try clear p6
          try clear c7
          try clear c7b0
          try clear c7b1
          try clear c7b2
          try clear c12
          try clear c13
          try clear c13b0
          try clear c15
          try clear c15b0
          try clear c16
          try clear c16b0
          try clear c18
          try clear c18b0
          try clear c18b1
          try clear c20
          try clear c21
          try clear c22
          try clear c22b0
          try clear c23
          try clear c23b0
          try clear p24
          try clear q24
          try clear hx24
          try clear c26
          try clear c30
          try clear c33
          try clear c33b0
          try clear c33b1
          try clear c37
          try clear c37b0
          try clear c37b1
          try clear c43
          try clear hcz10_0
          try clear hcz10_1
          try clear hcz10_2
          try clear hcz10_3
          try clear hcz10_4
          try clear hcz10_5
          try clear hcz10_6
          try clear hcz10_7
          try clear hcz11_0
          try clear hcz11_1
          try clear hcz11_2
          try clear hcz11_3
          try clear hcz11_4
          try clear hcz11_5
          try clear hcz11_6
          try clear hcz11_7
          try clear hcz35_0
          try clear hcz35_1
          try clear hcz35_2
          try clear hcz35_3
          try clear hcz35_4
          try clear hcz35_5
          try clear hcz35_6
          try clear hcz35_7
          try clear hcz39_0
          try clear hcz39_1
          try clear hcz39_2
          try clear hcz39_3
          try clear hcz39_4
          try clear hcz39_5
          try clear hcz39_6
          try clear hcz39_7
          try clear hcz41_0
          try clear hcz41_1
          try clear hcz41_2
          try clear hcz41_3
          try clear hcz41_4
          try clear hcz41_5
          try clear hcz41_6
          try clear hcz41_7
          try clear hcz8_0
          try clear hcz8_1
          try clear hcz8_2
          try clear hcz8_3
          try clear hcz8_4
          try clear hcz8_5
          try clear hcz8_6
          try clear hcz8_7
          try clear hfz10_0
          try clear hfz10_1
          try clear hfz10_2
          try clear hfz10_3
          try clear hfz10_4
          try clear hfz10_5
          try clear hfz10_6
          try clear hfz10_7
          try clear hfz11_0
          try clear hfz11_1
          try clear hfz11_2
          try clear hfz11_3
          try clear hfz11_4
          try clear hfz11_5
          try clear hfz11_6
          try clear hfz11_7
          try clear hfz35_0
          try clear hfz35_1
          try clear hfz35_2
          try clear hfz35_3
          try clear hfz35_4
          try clear hfz35_5
          try clear hfz35_6
          try clear hfz35_7
          try clear hfz39_0
          try clear hfz39_1
          try clear hfz39_2
          try clear hfz39_3
          try clear hfz39_4
          try clear hfz39_5
          try clear hfz39_6
          try clear hfz39_7
          try clear hfz41_0
          try clear hfz41_1
          try clear hfz41_2
          try clear hfz41_3
          try clear hfz41_4
          try clear hfz41_5
          try clear hfz41_6
          try clear hfz41_7
          try clear hfz8_0
          try clear hfz8_1
          try clear hfz8_2
          try clear hfz8_3
          try clear hfz8_4
          try clear hfz8_5
          try clear hfz8_6
          try clear hfz8_7
          try clear hx241_0
          try clear hx242_0
          try clear hx243_0
          try clear p2
          try clear p24
          try clear p241
          try clear p242
          try clear p243
          try clear p6
          try clear q2
          try clear q24
          try clear q241
          try clear q242
          try clear q243
          obtain ⟨kq, x8_41, rfl, HA, HJ41, HO_6, BK238, HB⟩ := hcut
          cases kq with
          | zero => exact absurd HA.out (by simp [vitrineref11_Pixel.j4])
          | succ kj41 =>
           have H := HA.out
           clear HA
           simp only [vitrineref11_Pixel.j4] at H
           by_cases c46 : a0_3 = 0
           ·
            as_aux_lemma =>
            rw [if_pos c46] at H
            have c46b0 : (a0_3 == 0) = true := beq_iff_eq.mpr c46
            have c46b1 : (a0_3 != 0) = false := bne_eq_false_iff_eq.mpr c46
            clear c46
            by_cases c47 : 0 < (x6_2.length : Int)
            ·
             as_aux_lemma =>
             rw [if_pos c47] at H
             have c47b0 : decide (0 < (x6_2.length : Int)) = true := decide_eq_true c47
             have c47b1 : decide (0 < x6_2.length) = true := decide_eq_true (by omega)
             clear c47
             by_cases c48 : (rdOf ByteArray.empty x6_2 0).size + (rdOf ByteArray.empty x6_2 0).size ≤ 9223372036854775807
             ·
              as_aux_lemma =>
              rw [if_pos c48] at H
              have c48b0 := eq_true c48
              have c48b1 : decide ((rdOf ByteArray.empty x6_2 0).size + (rdOf ByteArray.empty x6_2 0).size ≤ 9223372036854775807) = true := decide_eq_true c48
              try have c48b2 : (9223372036854775807 < (rdOf ByteArray.empty x6_2 0).size + (rdOf ByteArray.empty x6_2 0).size) = False := eq_false (Nat.not_lt.2 c48)
              by_cases c49 : ((rdOf ByteArray.empty x6_2 0) ++ (rdOf ByteArray.empty x6_2 0)).size + (rdOf ByteArray.empty x6_2 0).size ≤ 9223372036854775807
              ·
               as_aux_lemma =>
               rw [if_pos c49] at H
               have c49b0 := eq_true c49
               have c49b1 : decide (((rdOf ByteArray.empty x6_2 0) ++ (rdOf ByteArray.empty x6_2 0)).size + (rdOf ByteArray.empty x6_2 0).size ≤ 9223372036854775807) = true := decide_eq_true c49
               try have c49b2 : (9223372036854775807 < ((rdOf ByteArray.empty x6_2 0) ++ (rdOf ByteArray.empty x6_2 0)).size + (rdOf ByteArray.empty x6_2 0).size) = False := eq_false (Nat.not_lt.2 c49)
               try (have c49b3 := c49b2; simp only [ByteArray.size_append] at c49b3)
               by_cases c50 : (((rdOf ByteArray.empty x6_2 0) ++ (rdOf ByteArray.empty x6_2 0)) ++ (rdOf ByteArray.empty x6_2 0)).size + x8_41.size ≤ 9223372036854775807
               ·
                as_aux_lemma =>
                rw [if_pos c50] at H
                have c50b0 := eq_true c50
                have c50b1 : decide ((((rdOf ByteArray.empty x6_2 0) ++ (rdOf ByteArray.empty x6_2 0)) ++ (rdOf ByteArray.empty x6_2 0)).size + x8_41.size ≤ 9223372036854775807) = true := decide_eq_true c50
                try have c50b2 : (9223372036854775807 < (((rdOf ByteArray.empty x6_2 0) ++ (rdOf ByteArray.empty x6_2 0)) ++ (rdOf ByteArray.empty x6_2 0)).size + x8_41.size) = False := eq_false (Nat.not_lt.2 c50)
                try (have c50b3 := c50b2; simp only [ByteArray.size_append] at c50b3)
                simp only [Option.some.injEq, Prod.mk.injEq] at H
                obtain ⟨rfl, rfl⟩ := H
                have hcz51_0 : wc.cell? ⟨gb238, 0, none⟩ = some (.int .i64 a0_0) := (blk_cell BK238.out 0).trans rfl
                have hcz51_1 : wc.cell? ⟨gb238, 1, none⟩ = some (.int .i64 a0_1) := (blk_cell BK238.out 1).trans rfl
                have hcz51_2 : wc.cell? ⟨gb238, 2, none⟩ = some (.int .i64 a0_2) := (blk_cell BK238.out 2).trans rfl
                have hcz51_3 : wc.cell? ⟨gb238, 3, none⟩ = some (.int .i64 a0_3) := (blk_cell BK238.out 3).trans rfl
                have hcz51_4 : wc.cell? ⟨gb238, 4, none⟩ = some (.int .i64 a0_4) := (blk_cell BK238.out 4).trans rfl
                have hcz51_5 : wc.cell? ⟨gb238, 5, none⟩ = some (.string a0_5) := (blk_cell BK238.out 5).trans rfl
                have hcz51_6 : wc.cell? ⟨gb238, 6, none⟩ = some (.string a0_6) := (blk_cell BK238.out 6).trans rfl
                have hcz51_7 : wc.cell? ⟨gb238, 7, none⟩ = some (.bool a0_7) := (blk_cell BK238.out 7).trans rfl
                have hfz51_0 := blk_frozen BK238.out 0
                have hfz51_1 := blk_frozen BK238.out 1
                have hfz51_2 := blk_frozen BK238.out 2
                have hfz51_3 := blk_frozen BK238.out 3
                have hfz51_4 := blk_frozen BK238.out 4
                have hfz51_5 := blk_frozen BK238.out 5
                have hfz51_6 := blk_frozen BK238.out 6
                have hfz51_7 := blk_frozen BK238.out 7
                try go_wp2
                have n0_ := Aside0.mk (Kd.R_drew HO_6.out)
                have n1_ := Aside0.mk (blk_drew BK238.out)
                have n2_ := Aside0.mk (below_drew1 HB.out)
                clear HO_6
                clear BK238
                clear HB
                have HO_6 := n0_
                have BK238 := n1_
                have HB := n2_
                clear n0_ n1_ n2_
                obtain ⟨Ao53, co53, eo53⟩ := Kd.R_slice HO_6.out
                (first | subst eo53 | (injection eo53 with f1_ f2_ f3_; have f4_ := f1_.symm; have f5_ := f3_.symm; clear f1_ f2_ f3_; subst f4_; subst f5_))
                have p253 : 0 ≤ (0 : Int) := (by omega)
                have q253 : 0 < (x6_2.length : Int) := of_decide_eq_true (by first | (with_reducible assumption) | assumption)
                obtain ⟨ad253, e253, hx253_0⟩ := Kd.at_string (Kd.R_reads' HO_6.out).2.2 0 p253 q253
                cases e253
                have qi253 : (0 < x6_2.length) = True := eq_true (by omega)
                (try rw [show ((0 : Int)).toNat = 0 from rfl] at hx253_0)
                (try rw [Addr.add_zero'] at hx253_0)
                replace p253 := eq_true p253
                replace q253 := eq_true q253
                have p254 : 0 ≤ (0 : Int) := (by omega)
                have q254 : 0 < (x6_2.length : Int) := of_decide_eq_true (by first | (with_reducible assumption) | assumption)
                obtain ⟨ad254, e254, hx254_0⟩ := Kd.at_string (Kd.R_reads' HO_6.out).2.2 0 p254 q254
                obtain rfl : ad253 = ad254 := (by injection e254)
                have qi254 : (0 < x6_2.length) = True := eq_true (by omega)
                (try rw [show ((0 : Int)).toNat = 0 from rfl] at hx254_0)
                (try rw [Addr.add_zero'] at hx254_0)
                replace p254 := eq_true p254
                replace q254 := eq_true q254
                have p255 : 0 ≤ (0 : Int) := (by omega)
                have q255 : 0 < (x6_2.length : Int) := of_decide_eq_true (by first | (with_reducible assumption) | assumption)
                obtain ⟨ad255, e255, hx255_0⟩ := Kd.at_string (Kd.R_reads' HO_6.out).2.2 0 p255 q255
                obtain rfl : ad253 = ad255 := (by injection e255)
                have qi255 : (0 < x6_2.length) = True := eq_true (by omega)
                (try rw [show ((0 : Int)).toNat = 0 from rfl] at hx255_0)
                (try rw [Addr.add_zero'] at hx255_0)
                replace p255 := eq_true p255
                replace q255 := eq_true q255
                refine start_ (n := 15) (S := fun w' => w'.cell? ad253 = some (.string (rdOf ByteArray.empty x6_2 0)) ∧ w'.cell? ad253 = some (.string (rdOf ByteArray.empty x6_2 0)) ∧ w'.cell? ad253 = some (.string (rdOf ByteArray.empty x6_2 0))) (ds := []) #[false, false, false, false, false, false, false, false, false, false, false, false, false, false, false] (by kernel_rfl) rfl rfl ⟨hx253_0, hx254_0, hx255_0⟩ (fun hHeld => ?_); refine with_tabW vitrineref11_Pixel.tab15 vitrineref11_Pixel.bits15 (fun HT_ HW_ => ?_)
                generalize wc.drew = w52 at HO_6 BK238 HB hx253_0 hx254_0 hx255_0 hHeld ⊢
                refine pure_ (i := 0) (N := some 85) (v := ?_) (a' := ?_) #[true, false, false, false, false, false, false, false, false, false, false, false, false, false, false] rfl rfl (any_of HT_.out (by kernel_rfl)) (fun _ _ _ h => h) (Or.inl ⟨by rfl, ?_⟩) ?_ ?_
                rotate_left
                ·
                 intro w'
                 go_simp
                 with_reducible rfl
                rotate_left
                ·
                 simp only [Act.put, List.setIfInBounds_toArray, List.set_cons_zero, List.set_cons_succ, i64_w, i32_w]
                 rfl
                refine pure_ (i := 1) (N := some 86) (v := ?_) (a' := ?_) #[true, true, false, false, false, false, false, false, false, false, false, false, false, false, false] rfl rfl (any_of HT_.out (by kernel_rfl)) (fun _ _ _ h => h) (Or.inl ⟨by rfl, ?_⟩) ?_ ?_
                rotate_left
                ·
                 intro w'
                 go_simp
                 with_reducible rfl
                rotate_left
                ·
                 simp only [Act.put, List.setIfInBounds_toArray, List.set_cons_zero, List.set_cons_succ, i64_w, i32_w]
                 rfl
                refine pure_ (i := 3) (N := some 88) (v := ?_) (a' := ?_) #[true, true, false, true, false, false, false, false, false, false, false, false, false, false, false] rfl rfl (any_of HT_.out (by kernel_rfl)) (fun _ _ _ h => h) (Or.inl ⟨by rfl, ?_⟩) ?_ ?_
                rotate_left
                ·
                 intro w'
                 go_simp
                 with_reducible rfl
                rotate_left
                ·
                 simp only [Act.put, List.setIfInBounds_toArray, List.set_cons_zero, List.set_cons_succ, i64_w, i32_w]
                 rfl
                refine pure_ (i := 4) (N := some 89) (v := ?_) (a' := ?_) #[true, true, false, true, true, false, false, false, false, false, false, false, false, false, false] rfl rfl (any_of HT_.out (by kernel_rfl)) (fun _ _ _ h => h) (Or.inl ⟨by rfl, ?_⟩) ?_ ?_
                rotate_left
                ·
                 intro w'
                 go_simp
                 with_reducible rfl
                rotate_left
                ·
                 simp only [Act.put, List.setIfInBounds_toArray, List.set_cons_zero, List.set_cons_succ, i64_w, i32_w]
                 rfl
                refine pure_ (i := 7) (N := some 92) (v := ?_) (a' := ?_) #[true, true, false, true, true, false, false, true, false, false, false, false, false, false, false] rfl rfl (any_of HT_.out (by kernel_rfl)) (fun _ _ _ h => h) (Or.inl ⟨by rfl, ?_⟩) ?_ ?_
                rotate_left
                ·
                 intro w'
                 go_simp
                 with_reducible rfl
                rotate_left
                ·
                 simp only [Act.put, List.setIfInBounds_toArray, List.set_cons_zero, List.set_cons_succ, i64_w, i32_w]
                 rfl
                refine pure_ (i := 8) (N := some 93) (v := ?_) (a' := ?_) #[true, true, false, true, true, false, false, true, true, false, false, false, false, false, false] rfl rfl (any_of HT_.out (by kernel_rfl)) (fun _ _ _ h => h) (Or.inl ⟨by rfl, ?_⟩) ?_ ?_
                rotate_left
                ·
                 intro w'
                 go_simp
                 with_reducible rfl
                rotate_left
                ·
                 simp only [Act.put, List.setIfInBounds_toArray, List.set_cons_zero, List.set_cons_succ, i64_w, i32_w]
                 rfl
                refine pure_ (i := 11) (N := some 96) (v := ?_) (a' := ?_) #[true, true, false, true, true, false, false, true, true, false, false, true, false, false, false] rfl rfl (any_of HT_.out (by kernel_rfl)) (fun _ _ _ h => h) (Or.inl ⟨by rfl, ?_⟩) ?_ ?_
                rotate_left
                ·
                 intro w'
                 go_simp
                 with_reducible rfl
                rotate_left
                ·
                 simp only [Act.put, List.setIfInBounds_toArray, List.set_cons_zero, List.set_cons_succ, i64_w, i32_w]
                 rfl
                refine take_ (i := 2) (N := some 87) (v := ?_) (a' := ?_) #[true, true, true, true, true, false, false, true, true, false, false, true, false, false, false] rfl rfl (take_ofW HT_.out HW_.out (by kernel_rfl)) (fun _ _ _ h => h) (Or.inl ⟨by rfl, ?_⟩) hHeld ?_ ?_
                rotate_left
                ·
                 rintro w' ⟨s0, s1, s2⟩
                 go_simp
                 with_reducible rfl
                rotate_left
                ·
                 simp only [Act.put, List.setIfInBounds_toArray, List.set_cons_zero, List.set_cons_succ, i64_w, i32_w]
                 rfl
                refine take_ (i := 5) (N := some 90) (v := ?_) (a' := ?_) #[true, true, true, true, true, true, false, true, true, false, false, true, false, false, false] rfl rfl (take_ofW HT_.out HW_.out (by kernel_rfl)) (fun _ _ _ h => h) (Or.inl ⟨by rfl, ?_⟩) hHeld ?_ ?_
                rotate_left
                ·
                 rintro w' ⟨s0, s1, s2⟩
                 go_simp
                 with_reducible rfl
                rotate_left
                ·
                 simp only [Act.put, List.setIfInBounds_toArray, List.set_cons_zero, List.set_cons_succ, i64_w, i32_w]
                 rfl
                refine pure_ (i := 6) (N := some 91) (v := ?_) (a' := ?_) #[true, true, true, true, true, true, true, true, true, false, false, true, false, false, false] rfl rfl (any_of HT_.out (by kernel_rfl)) (fun _ _ _ h => h) (Or.inl ⟨by rfl, ?_⟩) ?_ ?_
                rotate_left
                ·
                 intro w'
                 go_simp
                 with_reducible rfl
                rotate_left
                ·
                 simp only [Act.put, List.setIfInBounds_toArray, List.set_cons_zero, List.set_cons_succ, i64_w, i32_w]
                 rfl
                refine take_ (i := 9) (N := some 94) (v := ?_) (a' := ?_) #[true, true, true, true, true, true, true, true, true, true, false, true, false, false, false] rfl rfl (take_ofW HT_.out HW_.out (by kernel_rfl)) (fun _ _ _ h => h) (Or.inl ⟨by rfl, ?_⟩) hHeld ?_ ?_
                rotate_left
                ·
                 rintro w' ⟨s0, s1, s2⟩
                 go_simp
                 with_reducible rfl
                rotate_left
                ·
                 simp only [Act.put, List.setIfInBounds_toArray, List.set_cons_zero, List.set_cons_succ, i64_w, i32_w]
                 rfl
                refine pure_ (i := 10) (N := some 95) (v := ?_) (a' := ?_) #[true, true, true, true, true, true, true, true, true, true, true, true, false, false, false] rfl rfl (any_of HT_.out (by kernel_rfl)) (fun _ _ _ h => h) (Or.inl ⟨by rfl, ?_⟩) ?_ ?_
                rotate_left
                ·
                 intro w'
                 go_simp
                 with_reducible rfl
                rotate_left
                ·
                 simp only [Act.put, List.setIfInBounds_toArray, List.set_cons_zero, List.set_cons_succ, i64_w, i32_w]
                 rfl
                refine pure_ (i := 12) (N := some 97) (v := ?_) (a' := ?_) #[true, true, true, true, true, true, true, true, true, true, true, true, true, false, false] rfl rfl (any_of HT_.out (by kernel_rfl)) (fun _ _ _ h => h) (Or.inl ⟨by rfl, ?_⟩) ?_ ?_
                rotate_left
                ·
                 intro w'
                 go_simp
                 with_reducible rfl
                rotate_left
                ·
                 simp only [Act.put, List.setIfInBounds_toArray, List.set_cons_zero, List.set_cons_succ, i64_w, i32_w]
                 rfl
                refine pure_ (i := 13) (N := some 4) (v := ?_) (a' := ?_) #[true, true, true, true, true, true, true, true, true, true, true, true, true, true, false] rfl rfl (any_of HT_.out (by kernel_rfl)) (fun _ _ _ h => h) (Or.inl ⟨by rfl, ?_⟩) ?_ ?_
                rotate_left
                ·
                 intro w'
                 go_simp
                 with_reducible rfl
                rotate_left
                ·
                 simp only [Act.put, List.setIfInBounds_toArray, List.set_cons_zero, List.set_cons_succ, i64_w, i32_w]
                 rfl
                refine pure_ (i := 14) (N := some 5) (v := ?_) (a' := ?_) #[true, true, true, true, true, true, true, true, true, true, true, true, true, true, true] rfl rfl (any_of HT_.out (by kernel_rfl)) (fun _ _ _ h => h) (Or.inl ⟨by rfl, ?_⟩) ?_ ?_
                rotate_left
                ·
                 intro w'
                 go_simp
                 with_reducible rfl
                rotate_left
                ·
                 simp only [Act.put, List.setIfInBounds_toArray, List.set_cons_zero, List.set_cons_succ, i64_w, i32_w]
                 rfl
                refine done_ (done_of HT_.out (by kernel_rfl)) ?_
                try go_wp2
                go_ret2
                exact ⟨by first | rfl | (simp [errW_none, errW_some] <;> rfl) | (simp [*, errW_none, errW_some] <;> rfl), by repeat (first | (with_reducible first | exact HB.out | apply below_alloc | apply pw_below_drewN | apply below_drew1 | refine below_set ?_ GE238.out) | exact HB.out)⟩
               ·
                as_aux_lemma =>
                rw [if_neg c50] at H
                exact absurd H (by simp)
              ·
               as_aux_lemma =>
               rw [if_neg c49] at H
               exact absurd H (by simp)
             ·
              as_aux_lemma =>
              rw [if_neg c48] at H
              exact absurd H (by simp)
            ·
             as_aux_lemma =>
             rw [if_neg c47] at H
             exact absurd H (by simp)
           ·
            as_aux_lemma =>
            rw [if_neg c46] at H
            have c46b0 : (a0_3 == 0) = false := beq_eq_false_iff_ne.mpr c46
            have c46b1 : (a0_3 != 0) = true := bne_iff_ne.mpr c46
            by_cases c54 : a0_3 = 2
            ·
             as_aux_lemma =>
             rw [if_pos c54] at H
             have c54b0 : (a0_3 == 2) = true := beq_iff_eq.mpr c54
             have c54b1 : (a0_3 != 2) = false := bne_eq_false_iff_eq.mpr c54
             clear c54
             by_cases c55 : 0 < (x6_2.length : Int)
             ·
              as_aux_lemma =>
              rw [if_pos c55] at H
              have c55b0 : decide (0 < (x6_2.length : Int)) = true := decide_eq_true c55
              have c55b1 : decide (0 < x6_2.length) = true := decide_eq_true (by omega)
              clear c55
              by_cases c56 : 1 < (x6_2.length : Int)
              ·
               as_aux_lemma =>
               rw [if_pos c56] at H
               have c56b0 : decide (1 < (x6_2.length : Int)) = true := decide_eq_true c56
               have c56b1 : decide (1 < x6_2.length) = true := decide_eq_true (by omega)
               clear c56
               by_cases c57 : (rdOf ByteArray.empty x6_2 0).size + (rdOf ByteArray.empty x6_2 1).size ≤ 9223372036854775807
               ·
                as_aux_lemma =>
                rw [if_pos c57] at H
                have c57b0 := eq_true c57
                have c57b1 : decide ((rdOf ByteArray.empty x6_2 0).size + (rdOf ByteArray.empty x6_2 1).size ≤ 9223372036854775807) = true := decide_eq_true c57
                try have c57b2 : (9223372036854775807 < (rdOf ByteArray.empty x6_2 0).size + (rdOf ByteArray.empty x6_2 1).size) = False := eq_false (Nat.not_lt.2 c57)
                by_cases c58 : 2 < (x6_2.length : Int)
                ·
                 as_aux_lemma =>
                 rw [if_pos c58] at H
                 have c58b0 : decide (2 < (x6_2.length : Int)) = true := decide_eq_true c58
                 have c58b1 : decide (2 < x6_2.length) = true := decide_eq_true (by omega)
                 clear c58
                 by_cases c59 : ((rdOf ByteArray.empty x6_2 0) ++ (rdOf ByteArray.empty x6_2 1)).size + (rdOf ByteArray.empty x6_2 2).size ≤ 9223372036854775807
                 ·
                  as_aux_lemma =>
                  rw [if_pos c59] at H
                  have c59b0 := eq_true c59
                  have c59b1 : decide (((rdOf ByteArray.empty x6_2 0) ++ (rdOf ByteArray.empty x6_2 1)).size + (rdOf ByteArray.empty x6_2 2).size ≤ 9223372036854775807) = true := decide_eq_true c59
                  try have c59b2 : (9223372036854775807 < ((rdOf ByteArray.empty x6_2 0) ++ (rdOf ByteArray.empty x6_2 1)).size + (rdOf ByteArray.empty x6_2 2).size) = False := eq_false (Nat.not_lt.2 c59)
                  try (have c59b3 := c59b2; simp only [ByteArray.size_append] at c59b3)
                  by_cases c60 : (((rdOf ByteArray.empty x6_2 0) ++ (rdOf ByteArray.empty x6_2 1)) ++ (rdOf ByteArray.empty x6_2 2)).size + x8_41.size ≤ 9223372036854775807
                  ·
                   as_aux_lemma =>
                   rw [if_pos c60] at H
                   have c60b0 := eq_true c60
                   have c60b1 : decide ((((rdOf ByteArray.empty x6_2 0) ++ (rdOf ByteArray.empty x6_2 1)) ++ (rdOf ByteArray.empty x6_2 2)).size + x8_41.size ≤ 9223372036854775807) = true := decide_eq_true c60
                   try have c60b2 : (9223372036854775807 < (((rdOf ByteArray.empty x6_2 0) ++ (rdOf ByteArray.empty x6_2 1)) ++ (rdOf ByteArray.empty x6_2 2)).size + x8_41.size) = False := eq_false (Nat.not_lt.2 c60)
                   try (have c60b3 := c60b2; simp only [ByteArray.size_append] at c60b3)
                   simp only [Option.some.injEq, Prod.mk.injEq] at H
                   obtain ⟨rfl, rfl⟩ := H
                   have hcz61_0 : wc.cell? ⟨gb238, 0, none⟩ = some (.int .i64 a0_0) := (blk_cell BK238.out 0).trans rfl
                   have hcz61_1 : wc.cell? ⟨gb238, 1, none⟩ = some (.int .i64 a0_1) := (blk_cell BK238.out 1).trans rfl
                   have hcz61_2 : wc.cell? ⟨gb238, 2, none⟩ = some (.int .i64 a0_2) := (blk_cell BK238.out 2).trans rfl
                   have hcz61_3 : wc.cell? ⟨gb238, 3, none⟩ = some (.int .i64 a0_3) := (blk_cell BK238.out 3).trans rfl
                   have hcz61_4 : wc.cell? ⟨gb238, 4, none⟩ = some (.int .i64 a0_4) := (blk_cell BK238.out 4).trans rfl
                   have hcz61_5 : wc.cell? ⟨gb238, 5, none⟩ = some (.string a0_5) := (blk_cell BK238.out 5).trans rfl
                   have hcz61_6 : wc.cell? ⟨gb238, 6, none⟩ = some (.string a0_6) := (blk_cell BK238.out 6).trans rfl
                   have hcz61_7 : wc.cell? ⟨gb238, 7, none⟩ = some (.bool a0_7) := (blk_cell BK238.out 7).trans rfl
                   have hfz61_0 := blk_frozen BK238.out 0
                   have hfz61_1 := blk_frozen BK238.out 1
                   have hfz61_2 := blk_frozen BK238.out 2
                   have hfz61_3 := blk_frozen BK238.out 3
                   have hfz61_4 := blk_frozen BK238.out 4
                   have hfz61_5 := blk_frozen BK238.out 5
                   have hfz61_6 := blk_frozen BK238.out 6
                   have hfz61_7 := blk_frozen BK238.out 7
                   try go_wp2
                   have n0_ := Aside0.mk (Kd.R_drew HO_6.out)
                   have n1_ := Aside0.mk (blk_drew BK238.out)
                   have n2_ := Aside0.mk (below_drew1 HB.out)
                   clear HO_6
                   clear BK238
                   clear HB
                   have HO_6 := n0_
                   have BK238 := n1_
                   have HB := n2_
                   clear n0_ n1_ n2_
                   obtain ⟨Ao63, co63, eo63⟩ := Kd.R_slice HO_6.out
                   (first | subst eo63 | (injection eo63 with f1_ f2_ f3_; have f4_ := f1_.symm; have f5_ := f3_.symm; clear f1_ f2_ f3_; subst f4_; subst f5_))
                   have p256 : 0 ≤ (0 : Int) := (by omega)
                   have q256 : 0 < (x6_2.length : Int) := of_decide_eq_true (by first | (with_reducible assumption) | assumption)
                   obtain ⟨ad256, e256, hx256_0⟩ := Kd.at_string (Kd.R_reads' HO_6.out).2.2 0 p256 q256
                   cases e256
                   have qi256 : (0 < x6_2.length) = True := eq_true (by omega)
                   (try rw [show ((0 : Int)).toNat = 0 from rfl] at hx256_0)
                   (try rw [Addr.add_zero'] at hx256_0)
                   replace p256 := eq_true p256
                   replace q256 := eq_true q256
                   have p257 : 0 ≤ (1 : Int) := (by omega)
                   have q257 : 1 < (x6_2.length : Int) := of_decide_eq_true (by first | (with_reducible assumption) | assumption)
                   obtain ⟨ad257, e257, hx257_0⟩ := Kd.at_string (Kd.R_reads' HO_6.out).2.2 1 p257 q257
                   obtain rfl : ad256 = ad257 := (by injection e257)
                   (try simp only [show (1 : Int).toNat = 1 from rfl, Nat.reduceMul, Nat.reduceEqDiff, Go.Addr.add, ↓reduceIte] at hx257_0)
                   have qi257 : (1 < x6_2.length) = True := eq_true (by omega)
                   (try rw [show ((1 : Int)).toNat = 1 from rfl] at hx257_0)
                   replace p257 := eq_true p257
                   replace q257 := eq_true q257
                   have p258 : 0 ≤ (2 : Int) := (by omega)
                   have q258 : 2 < (x6_2.length : Int) := of_decide_eq_true (by first | (with_reducible assumption) | assumption)
                   obtain ⟨ad258, e258, hx258_0⟩ := Kd.at_string (Kd.R_reads' HO_6.out).2.2 2 p258 q258
                   obtain rfl : ad256 = ad258 := (by injection e258)
                   (try simp only [show (2 : Int).toNat = 2 from rfl, Nat.reduceMul, Nat.reduceEqDiff, Go.Addr.add, ↓reduceIte] at hx258_0)
                   have qi258 : (2 < x6_2.length) = True := eq_true (by omega)
                   (try rw [show ((2 : Int)).toNat = 2 from rfl] at hx258_0)
                   replace p258 := eq_true p258
                   replace q258 := eq_true q258
                   refine start_ (n := 15) (S := fun w' => w'.cell? ad256 = some (.string (rdOf ByteArray.empty x6_2 0)) ∧ w'.cell? ⟨ad256.block, ad256.off + 1, none⟩ = some (.string (rdOf ByteArray.empty x6_2 1)) ∧ w'.cell? ⟨ad256.block, ad256.off + 2, none⟩ = some (.string (rdOf ByteArray.empty x6_2 2))) (ds := []) #[false, false, false, false, false, false, false, false, false, false, false, false, false, false, false] (by kernel_rfl) rfl rfl ⟨hx256_0, hx257_0, hx258_0⟩ (fun hHeld => ?_); refine with_tabW vitrineref11_Pixel.tab17 vitrineref11_Pixel.bits17 (fun HT_ HW_ => ?_)
                   generalize wc.drew = w62 at HO_6 BK238 HB hx256_0 hx257_0 hx258_0 hHeld ⊢
                   refine pure_ (i := 0) (N := some 100) (v := ?_) (a' := ?_) #[true, false, false, false, false, false, false, false, false, false, false, false, false, false, false] rfl rfl (any_of HT_.out (by kernel_rfl)) (fun _ _ _ h => h) (Or.inl ⟨by rfl, ?_⟩) ?_ ?_
                   rotate_left
                   ·
                    intro w'
                    go_simp
                    with_reducible rfl
                   rotate_left
                   ·
                    simp only [Act.put, List.setIfInBounds_toArray, List.set_cons_zero, List.set_cons_succ, i64_w, i32_w]
                    rfl
                   refine pure_ (i := 1) (N := some 101) (v := ?_) (a' := ?_) #[true, true, false, false, false, false, false, false, false, false, false, false, false, false, false] rfl rfl (any_of HT_.out (by kernel_rfl)) (fun _ _ _ h => h) (Or.inl ⟨by rfl, ?_⟩) ?_ ?_
                   rotate_left
                   ·
                    intro w'
                    go_simp
                    with_reducible rfl
                   rotate_left
                   ·
                    simp only [Act.put, List.setIfInBounds_toArray, List.set_cons_zero, List.set_cons_succ, i64_w, i32_w]
                    rfl
                   refine pure_ (i := 3) (N := some 103) (v := ?_) (a' := ?_) #[true, true, false, true, false, false, false, false, false, false, false, false, false, false, false] rfl rfl (any_of HT_.out (by kernel_rfl)) (fun _ _ _ h => h) (Or.inl ⟨by rfl, ?_⟩) ?_ ?_
                   rotate_left
                   ·
                    intro w'
                    go_simp
                    with_reducible rfl
                   rotate_left
                   ·
                    simp only [Act.put, List.setIfInBounds_toArray, List.set_cons_zero, List.set_cons_succ, i64_w, i32_w]
                    rfl
                   refine pure_ (i := 4) (N := some 104) (v := ?_) (a' := ?_) #[true, true, false, true, true, false, false, false, false, false, false, false, false, false, false] rfl rfl (any_of HT_.out (by kernel_rfl)) (fun _ _ _ h => h) (Or.inl ⟨by rfl, ?_⟩) ?_ ?_
                   rotate_left
                   ·
                    intro w'
                    go_simp
                    with_reducible rfl
                   rotate_left
                   ·
                    simp only [Act.put, List.setIfInBounds_toArray, List.set_cons_zero, List.set_cons_succ, i64_w, i32_w]
                    rfl
                   refine pure_ (i := 7) (N := some 107) (v := ?_) (a' := ?_) #[true, true, false, true, true, false, false, true, false, false, false, false, false, false, false] rfl rfl (any_of HT_.out (by kernel_rfl)) (fun _ _ _ h => h) (Or.inl ⟨by rfl, ?_⟩) ?_ ?_
                   rotate_left
                   ·
                    intro w'
                    go_simp
                    with_reducible rfl
                   rotate_left
                   ·
                    simp only [Act.put, List.setIfInBounds_toArray, List.set_cons_zero, List.set_cons_succ, i64_w, i32_w]
                    rfl
                   refine pure_ (i := 8) (N := some 108) (v := ?_) (a' := ?_) #[true, true, false, true, true, false, false, true, true, false, false, false, false, false, false] rfl rfl (any_of HT_.out (by kernel_rfl)) (fun _ _ _ h => h) (Or.inl ⟨by rfl, ?_⟩) ?_ ?_
                   rotate_left
                   ·
                    intro w'
                    go_simp
                    with_reducible rfl
                   rotate_left
                   ·
                    simp only [Act.put, List.setIfInBounds_toArray, List.set_cons_zero, List.set_cons_succ, i64_w, i32_w]
                    rfl
                   refine pure_ (i := 11) (N := some 111) (v := ?_) (a' := ?_) #[true, true, false, true, true, false, false, true, true, false, false, true, false, false, false] rfl rfl (any_of HT_.out (by kernel_rfl)) (fun _ _ _ h => h) (Or.inl ⟨by rfl, ?_⟩) ?_ ?_
                   rotate_left
                   ·
                    intro w'
                    go_simp
                    with_reducible rfl
                   rotate_left
                   ·
                    simp only [Act.put, List.setIfInBounds_toArray, List.set_cons_zero, List.set_cons_succ, i64_w, i32_w]
                    rfl
                   refine take_ (i := 2) (N := some 102) (v := ?_) (a' := ?_) #[true, true, true, true, true, false, false, true, true, false, false, true, false, false, false] rfl rfl (take_ofW HT_.out HW_.out (by kernel_rfl)) (fun _ _ _ h => h) (Or.inl ⟨by rfl, ?_⟩) hHeld ?_ ?_
                   rotate_left
                   ·
                    rintro w' ⟨s0, s1, s2⟩
                    go_simp
                    with_reducible rfl
                   rotate_left
                   ·
                    simp only [Act.put, List.setIfInBounds_toArray, List.set_cons_zero, List.set_cons_succ, i64_w, i32_w]
                    rfl
                   refine take_ (i := 5) (N := some 105) (v := ?_) (a' := ?_) #[true, true, true, true, true, true, false, true, true, false, false, true, false, false, false] rfl rfl (take_ofW HT_.out HW_.out (by kernel_rfl)) (fun _ _ _ h => h) (Or.inl ⟨by rfl, ?_⟩) hHeld ?_ ?_
                   rotate_left
                   ·
                    rintro w' ⟨s0, s1, s2⟩
                    go_simp
                    with_reducible rfl
                   rotate_left
                   ·
                    simp only [Act.put, List.setIfInBounds_toArray, List.set_cons_zero, List.set_cons_succ, i64_w, i32_w]
                    rfl
                   refine pure_ (i := 6) (N := some 106) (v := ?_) (a' := ?_) #[true, true, true, true, true, true, true, true, true, false, false, true, false, false, false] rfl rfl (any_of HT_.out (by kernel_rfl)) (fun _ _ _ h => h) (Or.inl ⟨by rfl, ?_⟩) ?_ ?_
                   rotate_left
                   ·
                    intro w'
                    go_simp
                    with_reducible rfl
                   rotate_left
                   ·
                    simp only [Act.put, List.setIfInBounds_toArray, List.set_cons_zero, List.set_cons_succ, i64_w, i32_w]
                    rfl
                   refine take_ (i := 9) (N := some 109) (v := ?_) (a' := ?_) #[true, true, true, true, true, true, true, true, true, true, false, true, false, false, false] rfl rfl (take_ofW HT_.out HW_.out (by kernel_rfl)) (fun _ _ _ h => h) (Or.inl ⟨by rfl, ?_⟩) hHeld ?_ ?_
                   rotate_left
                   ·
                    rintro w' ⟨s0, s1, s2⟩
                    go_simp
                    with_reducible rfl
                   rotate_left
                   ·
                    simp only [Act.put, List.setIfInBounds_toArray, List.set_cons_zero, List.set_cons_succ, i64_w, i32_w]
                    rfl
                   refine pure_ (i := 10) (N := some 110) (v := ?_) (a' := ?_) #[true, true, true, true, true, true, true, true, true, true, true, true, false, false, false] rfl rfl (any_of HT_.out (by kernel_rfl)) (fun _ _ _ h => h) (Or.inl ⟨by rfl, ?_⟩) ?_ ?_
                   rotate_left
                   ·
                    intro w'
                    go_simp
                    with_reducible rfl
                   rotate_left
                   ·
                    simp only [Act.put, List.setIfInBounds_toArray, List.set_cons_zero, List.set_cons_succ, i64_w, i32_w]
                    rfl
                   refine pure_ (i := 12) (N := some 112) (v := ?_) (a' := ?_) #[true, true, true, true, true, true, true, true, true, true, true, true, true, false, false] rfl rfl (any_of HT_.out (by kernel_rfl)) (fun _ _ _ h => h) (Or.inl ⟨by rfl, ?_⟩) ?_ ?_
                   rotate_left
                   ·
                    intro w'
                    go_simp
                    with_reducible rfl
                   rotate_left
                   ·
                    simp only [Act.put, List.setIfInBounds_toArray, List.set_cons_zero, List.set_cons_succ, i64_w, i32_w]
                    rfl
                   refine pure_ (i := 13) (N := some 4) (v := ?_) (a' := ?_) #[true, true, true, true, true, true, true, true, true, true, true, true, true, true, false] rfl rfl (any_of HT_.out (by kernel_rfl)) (fun _ _ _ h => h) (Or.inl ⟨by rfl, ?_⟩) ?_ ?_
                   rotate_left
                   ·
                    intro w'
                    go_simp
                    with_reducible rfl
                   rotate_left
                   ·
                    simp only [Act.put, List.setIfInBounds_toArray, List.set_cons_zero, List.set_cons_succ, i64_w, i32_w]
                    rfl
                   refine pure_ (i := 14) (N := some 5) (v := ?_) (a' := ?_) #[true, true, true, true, true, true, true, true, true, true, true, true, true, true, true] rfl rfl (any_of HT_.out (by kernel_rfl)) (fun _ _ _ h => h) (Or.inl ⟨by rfl, ?_⟩) ?_ ?_
                   rotate_left
                   ·
                    intro w'
                    go_simp
                    with_reducible rfl
                   rotate_left
                   ·
                    simp only [Act.put, List.setIfInBounds_toArray, List.set_cons_zero, List.set_cons_succ, i64_w, i32_w]
                    rfl
                   refine done_ (done_of HT_.out (by kernel_rfl)) ?_
                   try go_wp2
                   go_ret2
                   exact ⟨by first | rfl | (simp [errW_none, errW_some] <;> rfl) | (simp [*, errW_none, errW_some] <;> rfl), by repeat (first | (with_reducible first | exact HB.out | apply below_alloc | apply pw_below_drewN | apply below_drew1 | refine below_set ?_ GE238.out) | exact HB.out)⟩
                  ·
                   as_aux_lemma =>
                   rw [if_neg c60] at H
                   exact absurd H (by simp)
                 ·
                  as_aux_lemma =>
                  rw [if_neg c59] at H
                  exact absurd H (by simp)
                ·
                 as_aux_lemma =>
                 rw [if_neg c58] at H
                 exact absurd H (by simp)
               ·
                as_aux_lemma =>
                rw [if_neg c57] at H
                exact absurd H (by simp)
              ·
               as_aux_lemma =>
               rw [if_neg c56] at H
               exact absurd H (by simp)
             ·
              as_aux_lemma =>
              rw [if_neg c55] at H
              exact absurd H (by simp)
            ·
             as_aux_lemma =>
             rw [if_neg c54] at H
             have c54b0 : (a0_3 == 2) = false := beq_eq_false_iff_ne.mpr c54
             have c54b1 : (a0_3 != 2) = true := bne_iff_ne.mpr c54
             by_cases c64 : a0_3 = 4
             ·
              as_aux_lemma =>
              rw [if_pos c64] at H
              have c64b0 : (a0_3 == 4) = true := beq_iff_eq.mpr c64
              have c64b1 : (a0_3 != 4) = false := bne_eq_false_iff_eq.mpr c64
              clear c64
              by_cases c65 : 0 < (x6_2.length : Int)
              ·
               as_aux_lemma =>
               rw [if_pos c65] at H
               have c65b0 : decide (0 < (x6_2.length : Int)) = true := decide_eq_true c65
               have c65b1 : decide (0 < x6_2.length) = true := decide_eq_true (by omega)
               clear c65
               by_cases c66 : (rdOf ByteArray.empty x6_2 0).size + (rdOf ByteArray.empty x6_2 0).size ≤ 9223372036854775807
               ·
                as_aux_lemma =>
                rw [if_pos c66] at H
                have c66b0 := eq_true c66
                have c66b1 : decide ((rdOf ByteArray.empty x6_2 0).size + (rdOf ByteArray.empty x6_2 0).size ≤ 9223372036854775807) = true := decide_eq_true c66
                try have c66b2 : (9223372036854775807 < (rdOf ByteArray.empty x6_2 0).size + (rdOf ByteArray.empty x6_2 0).size) = False := eq_false (Nat.not_lt.2 c66)
                by_cases c67 : ((rdOf ByteArray.empty x6_2 0) ++ (rdOf ByteArray.empty x6_2 0)).size + (rdOf ByteArray.empty x6_2 0).size ≤ 9223372036854775807
                ·
                 as_aux_lemma =>
                 rw [if_pos c67] at H
                 have c67b0 := eq_true c67
                 have c67b1 : decide (((rdOf ByteArray.empty x6_2 0) ++ (rdOf ByteArray.empty x6_2 0)).size + (rdOf ByteArray.empty x6_2 0).size ≤ 9223372036854775807) = true := decide_eq_true c67
                 try have c67b2 : (9223372036854775807 < ((rdOf ByteArray.empty x6_2 0) ++ (rdOf ByteArray.empty x6_2 0)).size + (rdOf ByteArray.empty x6_2 0).size) = False := eq_false (Nat.not_lt.2 c67)
                 try (have c67b3 := c67b2; simp only [ByteArray.size_append] at c67b3)
                 by_cases c68 : 1 < (x6_2.length : Int)
                 ·
                  as_aux_lemma =>
                  rw [if_pos c68] at H
                  have c68b0 : decide (1 < (x6_2.length : Int)) = true := decide_eq_true c68
                  have c68b1 : decide (1 < x6_2.length) = true := decide_eq_true (by omega)
                  clear c68
                  by_cases c69 : (((rdOf ByteArray.empty x6_2 0) ++ (rdOf ByteArray.empty x6_2 0)) ++ (rdOf ByteArray.empty x6_2 0)).size + (rdOf ByteArray.empty x6_2 1).size ≤ 9223372036854775807
                  ·
                   as_aux_lemma =>
                   rw [if_pos c69] at H
                   have c69b0 := eq_true c69
                   have c69b1 : decide ((((rdOf ByteArray.empty x6_2 0) ++ (rdOf ByteArray.empty x6_2 0)) ++ (rdOf ByteArray.empty x6_2 0)).size + (rdOf ByteArray.empty x6_2 1).size ≤ 9223372036854775807) = true := decide_eq_true c69
                   try have c69b2 : (9223372036854775807 < (((rdOf ByteArray.empty x6_2 0) ++ (rdOf ByteArray.empty x6_2 0)) ++ (rdOf ByteArray.empty x6_2 0)).size + (rdOf ByteArray.empty x6_2 1).size) = False := eq_false (Nat.not_lt.2 c69)
                   try (have c69b3 := c69b2; simp only [ByteArray.size_append] at c69b3)
                   simp only [Option.some.injEq, Prod.mk.injEq] at H
                   obtain ⟨rfl, rfl⟩ := H
                   have hcz70_0 : wc.cell? ⟨gb238, 0, none⟩ = some (.int .i64 a0_0) := (blk_cell BK238.out 0).trans rfl
                   have hcz70_1 : wc.cell? ⟨gb238, 1, none⟩ = some (.int .i64 a0_1) := (blk_cell BK238.out 1).trans rfl
                   have hcz70_2 : wc.cell? ⟨gb238, 2, none⟩ = some (.int .i64 a0_2) := (blk_cell BK238.out 2).trans rfl
                   have hcz70_3 : wc.cell? ⟨gb238, 3, none⟩ = some (.int .i64 a0_3) := (blk_cell BK238.out 3).trans rfl
                   have hcz70_4 : wc.cell? ⟨gb238, 4, none⟩ = some (.int .i64 a0_4) := (blk_cell BK238.out 4).trans rfl
                   have hcz70_5 : wc.cell? ⟨gb238, 5, none⟩ = some (.string a0_5) := (blk_cell BK238.out 5).trans rfl
                   have hcz70_6 : wc.cell? ⟨gb238, 6, none⟩ = some (.string a0_6) := (blk_cell BK238.out 6).trans rfl
                   have hcz70_7 : wc.cell? ⟨gb238, 7, none⟩ = some (.bool a0_7) := (blk_cell BK238.out 7).trans rfl
                   have hfz70_0 := blk_frozen BK238.out 0
                   have hfz70_1 := blk_frozen BK238.out 1
                   have hfz70_2 := blk_frozen BK238.out 2
                   have hfz70_3 := blk_frozen BK238.out 3
                   have hfz70_4 := blk_frozen BK238.out 4
                   have hfz70_5 := blk_frozen BK238.out 5
                   have hfz70_6 := blk_frozen BK238.out 6
                   have hfz70_7 := blk_frozen BK238.out 7
                   try go_wp2
                   have n0_ := Aside0.mk (Kd.R_drew HO_6.out)
                   have n1_ := Aside0.mk (blk_drew BK238.out)
                   have n2_ := Aside0.mk (below_drew1 HB.out)
                   clear HO_6
                   clear BK238
                   clear HB
                   have HO_6 := n0_
                   have BK238 := n1_
                   have HB := n2_
                   clear n0_ n1_ n2_
                   obtain ⟨Ao72, co72, eo72⟩ := Kd.R_slice HO_6.out
                   (first | subst eo72 | (injection eo72 with f1_ f2_ f3_; have f4_ := f1_.symm; have f5_ := f3_.symm; clear f1_ f2_ f3_; subst f4_; subst f5_))
                   have p259 : 0 ≤ (0 : Int) := (by omega)
                   have q259 : 0 < (x6_2.length : Int) := of_decide_eq_true (by first | (with_reducible assumption) | assumption)
                   obtain ⟨ad259, e259, hx259_0⟩ := Kd.at_string (Kd.R_reads' HO_6.out).2.2 0 p259 q259
                   cases e259
                   have qi259 : (0 < x6_2.length) = True := eq_true (by omega)
                   (try rw [show ((0 : Int)).toNat = 0 from rfl] at hx259_0)
                   (try rw [Addr.add_zero'] at hx259_0)
                   replace p259 := eq_true p259
                   replace q259 := eq_true q259
                   have p260 : 0 ≤ (0 : Int) := (by omega)
                   have q260 : 0 < (x6_2.length : Int) := of_decide_eq_true (by first | (with_reducible assumption) | assumption)
                   obtain ⟨ad260, e260, hx260_0⟩ := Kd.at_string (Kd.R_reads' HO_6.out).2.2 0 p260 q260
                   obtain rfl : ad259 = ad260 := (by injection e260)
                   have qi260 : (0 < x6_2.length) = True := eq_true (by omega)
                   (try rw [show ((0 : Int)).toNat = 0 from rfl] at hx260_0)
                   (try rw [Addr.add_zero'] at hx260_0)
                   replace p260 := eq_true p260
                   replace q260 := eq_true q260
                   have p261 : 0 ≤ (0 : Int) := (by omega)
                   have q261 : 0 < (x6_2.length : Int) := of_decide_eq_true (by first | (with_reducible assumption) | assumption)
                   obtain ⟨ad261, e261, hx261_0⟩ := Kd.at_string (Kd.R_reads' HO_6.out).2.2 0 p261 q261
                   obtain rfl : ad259 = ad261 := (by injection e261)
                   have qi261 : (0 < x6_2.length) = True := eq_true (by omega)
                   (try rw [show ((0 : Int)).toNat = 0 from rfl] at hx261_0)
                   (try rw [Addr.add_zero'] at hx261_0)
                   replace p261 := eq_true p261
                   replace q261 := eq_true q261
                   have p262 : 0 ≤ (1 : Int) := (by omega)
                   have q262 : 1 < (x6_2.length : Int) := of_decide_eq_true (by first | (with_reducible assumption) | assumption)
                   obtain ⟨ad262, e262, hx262_0⟩ := Kd.at_string (Kd.R_reads' HO_6.out).2.2 1 p262 q262
                   obtain rfl : ad259 = ad262 := (by injection e262)
                   (try simp only [show (1 : Int).toNat = 1 from rfl, Nat.reduceMul, Nat.reduceEqDiff, Go.Addr.add, ↓reduceIte] at hx262_0)
                   have qi262 : (1 < x6_2.length) = True := eq_true (by omega)
                   (try rw [show ((1 : Int)).toNat = 1 from rfl] at hx262_0)
                   replace p262 := eq_true p262
                   replace q262 := eq_true q262
                   refine start_ (n := 17) (S := fun w' => w'.cell? ad259 = some (.string (rdOf ByteArray.empty x6_2 0)) ∧ w'.cell? ad259 = some (.string (rdOf ByteArray.empty x6_2 0)) ∧ w'.cell? ad259 = some (.string (rdOf ByteArray.empty x6_2 0)) ∧ w'.cell? ⟨ad259.block, ad259.off + 1, none⟩ = some (.string (rdOf ByteArray.empty x6_2 1))) (ds := []) #[false, false, false, false, false, false, false, false, false, false, false, false, false, false, false, false, false] (by kernel_rfl) rfl rfl ⟨hx259_0, hx260_0, hx261_0, hx262_0⟩ (fun hHeld => ?_); refine with_tabW vitrineref11_Pixel.tab19 vitrineref11_Pixel.bits19 (fun HT_ HW_ => ?_)
                   generalize wc.drew = w71 at HO_6 BK238 HB hx259_0 hx260_0 hx261_0 hx262_0 hHeld ⊢
                   refine pure_ (i := 0) (N := some 115) (v := ?_) (a' := ?_) #[true, false, false, false, false, false, false, false, false, false, false, false, false, false, false, false, false] rfl rfl (any_of HT_.out (by kernel_rfl)) (fun _ _ _ h => h) (Or.inl ⟨by rfl, ?_⟩) ?_ ?_
                   rotate_left
                   ·
                    intro w'
                    go_simp
                    with_reducible rfl
                   rotate_left
                   ·
                    simp only [Act.put, List.setIfInBounds_toArray, List.set_cons_zero, List.set_cons_succ, i64_w, i32_w]
                    rfl
                   refine pure_ (i := 1) (N := some 116) (v := ?_) (a' := ?_) #[true, true, false, false, false, false, false, false, false, false, false, false, false, false, false, false, false] rfl rfl (any_of HT_.out (by kernel_rfl)) (fun _ _ _ h => h) (Or.inl ⟨by rfl, ?_⟩) ?_ ?_
                   rotate_left
                   ·
                    intro w'
                    go_simp
                    with_reducible rfl
                   rotate_left
                   ·
                    simp only [Act.put, List.setIfInBounds_toArray, List.set_cons_zero, List.set_cons_succ, i64_w, i32_w]
                    rfl
                   refine pure_ (i := 3) (N := some 118) (v := ?_) (a' := ?_) #[true, true, false, true, false, false, false, false, false, false, false, false, false, false, false, false, false] rfl rfl (any_of HT_.out (by kernel_rfl)) (fun _ _ _ h => h) (Or.inl ⟨by rfl, ?_⟩) ?_ ?_
                   rotate_left
                   ·
                    intro w'
                    go_simp
                    with_reducible rfl
                   rotate_left
                   ·
                    simp only [Act.put, List.setIfInBounds_toArray, List.set_cons_zero, List.set_cons_succ, i64_w, i32_w]
                    rfl
                   refine pure_ (i := 4) (N := some 119) (v := ?_) (a' := ?_) #[true, true, false, true, true, false, false, false, false, false, false, false, false, false, false, false, false] rfl rfl (any_of HT_.out (by kernel_rfl)) (fun _ _ _ h => h) (Or.inl ⟨by rfl, ?_⟩) ?_ ?_
                   rotate_left
                   ·
                    intro w'
                    go_simp
                    with_reducible rfl
                   rotate_left
                   ·
                    simp only [Act.put, List.setIfInBounds_toArray, List.set_cons_zero, List.set_cons_succ, i64_w, i32_w]
                    rfl
                   refine pure_ (i := 7) (N := some 122) (v := ?_) (a' := ?_) #[true, true, false, true, true, false, false, true, false, false, false, false, false, false, false, false, false] rfl rfl (any_of HT_.out (by kernel_rfl)) (fun _ _ _ h => h) (Or.inl ⟨by rfl, ?_⟩) ?_ ?_
                   rotate_left
                   ·
                    intro w'
                    go_simp
                    with_reducible rfl
                   rotate_left
                   ·
                    simp only [Act.put, List.setIfInBounds_toArray, List.set_cons_zero, List.set_cons_succ, i64_w, i32_w]
                    rfl
                   refine pure_ (i := 8) (N := some 123) (v := ?_) (a' := ?_) #[true, true, false, true, true, false, false, true, true, false, false, false, false, false, false, false, false] rfl rfl (any_of HT_.out (by kernel_rfl)) (fun _ _ _ h => h) (Or.inl ⟨by rfl, ?_⟩) ?_ ?_
                   rotate_left
                   ·
                    intro w'
                    go_simp
                    with_reducible rfl
                   rotate_left
                   ·
                    simp only [Act.put, List.setIfInBounds_toArray, List.set_cons_zero, List.set_cons_succ, i64_w, i32_w]
                    rfl
                   refine pure_ (i := 11) (N := some 126) (v := ?_) (a' := ?_) #[true, true, false, true, true, false, false, true, true, false, false, true, false, false, false, false, false] rfl rfl (any_of HT_.out (by kernel_rfl)) (fun _ _ _ h => h) (Or.inl ⟨by rfl, ?_⟩) ?_ ?_
                   rotate_left
                   ·
                    intro w'
                    go_simp
                    with_reducible rfl
                   rotate_left
                   ·
                    simp only [Act.put, List.setIfInBounds_toArray, List.set_cons_zero, List.set_cons_succ, i64_w, i32_w]
                    rfl
                   refine pure_ (i := 12) (N := some 127) (v := ?_) (a' := ?_) #[true, true, false, true, true, false, false, true, true, false, false, true, true, false, false, false, false] rfl rfl (any_of HT_.out (by kernel_rfl)) (fun _ _ _ h => h) (Or.inl ⟨by rfl, ?_⟩) ?_ ?_
                   rotate_left
                   ·
                    intro w'
                    go_simp
                    with_reducible rfl
                   rotate_left
                   ·
                    simp only [Act.put, List.setIfInBounds_toArray, List.set_cons_zero, List.set_cons_succ, i64_w, i32_w]
                    rfl
                   refine take_ (i := 2) (N := some 117) (v := ?_) (a' := ?_) #[true, true, true, true, true, false, false, true, true, false, false, true, true, false, false, false, false] rfl rfl (take_ofW HT_.out HW_.out (by kernel_rfl)) (fun _ _ _ h => h) (Or.inl ⟨by rfl, ?_⟩) hHeld ?_ ?_
                   rotate_left
                   ·
                    rintro w' ⟨s0, s1, s2, s3⟩
                    go_simp
                    with_reducible rfl
                   rotate_left
                   ·
                    simp only [Act.put, List.setIfInBounds_toArray, List.set_cons_zero, List.set_cons_succ, i64_w, i32_w]
                    rfl
                   refine take_ (i := 5) (N := some 120) (v := ?_) (a' := ?_) #[true, true, true, true, true, true, false, true, true, false, false, true, true, false, false, false, false] rfl rfl (take_ofW HT_.out HW_.out (by kernel_rfl)) (fun _ _ _ h => h) (Or.inl ⟨by rfl, ?_⟩) hHeld ?_ ?_
                   rotate_left
                   ·
                    rintro w' ⟨s0, s1, s2, s3⟩
                    go_simp
                    with_reducible rfl
                   rotate_left
                   ·
                    simp only [Act.put, List.setIfInBounds_toArray, List.set_cons_zero, List.set_cons_succ, i64_w, i32_w]
                    rfl
                   refine pure_ (i := 6) (N := some 121) (v := ?_) (a' := ?_) #[true, true, true, true, true, true, true, true, true, false, false, true, true, false, false, false, false] rfl rfl (any_of HT_.out (by kernel_rfl)) (fun _ _ _ h => h) (Or.inl ⟨by rfl, ?_⟩) ?_ ?_
                   rotate_left
                   ·
                    intro w'
                    go_simp
                    with_reducible rfl
                   rotate_left
                   ·
                    simp only [Act.put, List.setIfInBounds_toArray, List.set_cons_zero, List.set_cons_succ, i64_w, i32_w]
                    rfl
                   refine take_ (i := 9) (N := some 124) (v := ?_) (a' := ?_) #[true, true, true, true, true, true, true, true, true, true, false, true, true, false, false, false, false] rfl rfl (take_ofW HT_.out HW_.out (by kernel_rfl)) (fun _ _ _ h => h) (Or.inl ⟨by rfl, ?_⟩) hHeld ?_ ?_
                   rotate_left
                   ·
                    rintro w' ⟨s0, s1, s2, s3⟩
                    go_simp
                    with_reducible rfl
                   rotate_left
                   ·
                    simp only [Act.put, List.setIfInBounds_toArray, List.set_cons_zero, List.set_cons_succ, i64_w, i32_w]
                    rfl
                   refine pure_ (i := 10) (N := some 125) (v := ?_) (a' := ?_) #[true, true, true, true, true, true, true, true, true, true, true, true, true, false, false, false, false] rfl rfl (any_of HT_.out (by kernel_rfl)) (fun _ _ _ h => h) (Or.inl ⟨by rfl, ?_⟩) ?_ ?_
                   rotate_left
                   ·
                    intro w'
                    go_simp
                    with_reducible rfl
                   rotate_left
                   ·
                    simp only [Act.put, List.setIfInBounds_toArray, List.set_cons_zero, List.set_cons_succ, i64_w, i32_w]
                    rfl
                   refine take_ (i := 13) (N := some 128) (v := ?_) (a' := ?_) #[true, true, true, true, true, true, true, true, true, true, true, true, true, true, false, false, false] rfl rfl (take_ofW HT_.out HW_.out (by kernel_rfl)) (fun _ _ _ h => h) (Or.inl ⟨by rfl, ?_⟩) hHeld ?_ ?_
                   rotate_left
                   ·
                    rintro w' ⟨s0, s1, s2, s3⟩
                    go_simp
                    with_reducible rfl
                   rotate_left
                   ·
                    simp only [Act.put, List.setIfInBounds_toArray, List.set_cons_zero, List.set_cons_succ, i64_w, i32_w]
                    rfl
                   refine pure_ (i := 14) (N := some 129) (v := ?_) (a' := ?_) #[true, true, true, true, true, true, true, true, true, true, true, true, true, true, true, false, false] rfl rfl (any_of HT_.out (by kernel_rfl)) (fun _ _ _ h => h) (Or.inl ⟨by rfl, ?_⟩) ?_ ?_
                   rotate_left
                   ·
                    intro w'
                    go_simp
                    with_reducible rfl
                   rotate_left
                   ·
                    simp only [Act.put, List.setIfInBounds_toArray, List.set_cons_zero, List.set_cons_succ, i64_w, i32_w]
                    rfl
                   refine pure_ (i := 15) (N := some 4) (v := ?_) (a' := ?_) #[true, true, true, true, true, true, true, true, true, true, true, true, true, true, true, true, false] rfl rfl (any_of HT_.out (by kernel_rfl)) (fun _ _ _ h => h) (Or.inl ⟨by rfl, ?_⟩) ?_ ?_
                   rotate_left
                   ·
                    intro w'
                    go_simp
                    with_reducible rfl
                   rotate_left
                   ·
                    simp only [Act.put, List.setIfInBounds_toArray, List.set_cons_zero, List.set_cons_succ, i64_w, i32_w]
                    rfl
                   refine pure_ (i := 16) (N := some 5) (v := ?_) (a' := ?_) #[true, true, true, true, true, true, true, true, true, true, true, true, true, true, true, true, true] rfl rfl (any_of HT_.out (by kernel_rfl)) (fun _ _ _ h => h) (Or.inl ⟨by rfl, ?_⟩) ?_ ?_
                   rotate_left
                   ·
                    intro w'
                    go_simp
                    with_reducible rfl
                   rotate_left
                   ·
                    simp only [Act.put, List.setIfInBounds_toArray, List.set_cons_zero, List.set_cons_succ, i64_w, i32_w]
                    rfl
                   refine done_ (done_of HT_.out (by kernel_rfl)) ?_
                   try go_wp2
                   go_ret2
                   exact ⟨by first | rfl | (simp [errW_none, errW_some] <;> rfl) | (simp [*, errW_none, errW_some] <;> rfl), by repeat (first | (with_reducible first | exact HB.out | apply below_alloc | apply pw_below_drewN | apply below_drew1 | refine below_set ?_ GE238.out) | exact HB.out)⟩
                  ·
                   as_aux_lemma =>
                   rw [if_neg c69] at H
                   exact absurd H (by simp)
                 ·
                  as_aux_lemma =>
                  rw [if_neg c68] at H
                  exact absurd H (by simp)
                ·
                 as_aux_lemma =>
                 rw [if_neg c67] at H
                 exact absurd H (by simp)
               ·
                as_aux_lemma =>
                rw [if_neg c66] at H
                exact absurd H (by simp)
              ·
               as_aux_lemma =>
               rw [if_neg c65] at H
               exact absurd H (by simp)
             ·
              as_aux_lemma =>
              rw [if_neg c64] at H
              have c64b0 : (a0_3 == 4) = false := beq_eq_false_iff_ne.mpr c64
              have c64b1 : (a0_3 != 4) = true := bne_iff_ne.mpr c64
              by_cases c73 : a0_3 = 6
              ·
               as_aux_lemma =>
               rw [if_pos c73] at H
               have c73b0 : (a0_3 == 6) = true := beq_iff_eq.mpr c73
               have c73b1 : (a0_3 != 6) = false := bne_eq_false_iff_eq.mpr c73
               clear c73
               by_cases c74 : 0 < (x6_2.length : Int)
               ·
                as_aux_lemma =>
                rw [if_pos c74] at H
                have c74b0 : decide (0 < (x6_2.length : Int)) = true := decide_eq_true c74
                have c74b1 : decide (0 < x6_2.length) = true := decide_eq_true (by omega)
                clear c74
                by_cases c75 : 1 < (x6_2.length : Int)
                ·
                 as_aux_lemma =>
                 rw [if_pos c75] at H
                 have c75b0 : decide (1 < (x6_2.length : Int)) = true := decide_eq_true c75
                 have c75b1 : decide (1 < x6_2.length) = true := decide_eq_true (by omega)
                 clear c75
                 by_cases c76 : (rdOf ByteArray.empty x6_2 0).size + (rdOf ByteArray.empty x6_2 1).size ≤ 9223372036854775807
                 ·
                  as_aux_lemma =>
                  rw [if_pos c76] at H
                  have c76b0 := eq_true c76
                  have c76b1 : decide ((rdOf ByteArray.empty x6_2 0).size + (rdOf ByteArray.empty x6_2 1).size ≤ 9223372036854775807) = true := decide_eq_true c76
                  try have c76b2 : (9223372036854775807 < (rdOf ByteArray.empty x6_2 0).size + (rdOf ByteArray.empty x6_2 1).size) = False := eq_false (Nat.not_lt.2 c76)
                  by_cases c77 : 2 < (x6_2.length : Int)
                  ·
                   as_aux_lemma =>
                   rw [if_pos c77] at H
                   have c77b0 : decide (2 < (x6_2.length : Int)) = true := decide_eq_true c77
                   have c77b1 : decide (2 < x6_2.length) = true := decide_eq_true (by omega)
                   clear c77
                   by_cases c78 : ((rdOf ByteArray.empty x6_2 0) ++ (rdOf ByteArray.empty x6_2 1)).size + (rdOf ByteArray.empty x6_2 2).size ≤ 9223372036854775807
                   ·
                    as_aux_lemma =>
                    rw [if_pos c78] at H
                    have c78b0 := eq_true c78
                    have c78b1 : decide (((rdOf ByteArray.empty x6_2 0) ++ (rdOf ByteArray.empty x6_2 1)).size + (rdOf ByteArray.empty x6_2 2).size ≤ 9223372036854775807) = true := decide_eq_true c78
                    try have c78b2 : (9223372036854775807 < ((rdOf ByteArray.empty x6_2 0) ++ (rdOf ByteArray.empty x6_2 1)).size + (rdOf ByteArray.empty x6_2 2).size) = False := eq_false (Nat.not_lt.2 c78)
                    try (have c78b3 := c78b2; simp only [ByteArray.size_append] at c78b3)
                    by_cases c79 : 3 < (x6_2.length : Int)
                    ·
                     as_aux_lemma =>
                     rw [if_pos c79] at H
                     have c79b0 : decide (3 < (x6_2.length : Int)) = true := decide_eq_true c79
                     have c79b1 : decide (3 < x6_2.length) = true := decide_eq_true (by omega)
                     clear c79
                     by_cases c80 : (((rdOf ByteArray.empty x6_2 0) ++ (rdOf ByteArray.empty x6_2 1)) ++ (rdOf ByteArray.empty x6_2 2)).size + (rdOf ByteArray.empty x6_2 3).size ≤ 9223372036854775807
                     ·
                      as_aux_lemma =>
                      rw [if_pos c80] at H
                      have c80b0 := eq_true c80
                      have c80b1 : decide ((((rdOf ByteArray.empty x6_2 0) ++ (rdOf ByteArray.empty x6_2 1)) ++ (rdOf ByteArray.empty x6_2 2)).size + (rdOf ByteArray.empty x6_2 3).size ≤ 9223372036854775807) = true := decide_eq_true c80
                      try have c80b2 : (9223372036854775807 < (((rdOf ByteArray.empty x6_2 0) ++ (rdOf ByteArray.empty x6_2 1)) ++ (rdOf ByteArray.empty x6_2 2)).size + (rdOf ByteArray.empty x6_2 3).size) = False := eq_false (Nat.not_lt.2 c80)
                      try (have c80b3 := c80b2; simp only [ByteArray.size_append] at c80b3)
                      simp only [Option.some.injEq, Prod.mk.injEq] at H
                      obtain ⟨rfl, rfl⟩ := H
                      have hcz81_0 : wc.cell? ⟨gb238, 0, none⟩ = some (.int .i64 a0_0) := (blk_cell BK238.out 0).trans rfl
                      have hcz81_1 : wc.cell? ⟨gb238, 1, none⟩ = some (.int .i64 a0_1) := (blk_cell BK238.out 1).trans rfl
                      have hcz81_2 : wc.cell? ⟨gb238, 2, none⟩ = some (.int .i64 a0_2) := (blk_cell BK238.out 2).trans rfl
                      have hcz81_3 : wc.cell? ⟨gb238, 3, none⟩ = some (.int .i64 a0_3) := (blk_cell BK238.out 3).trans rfl
                      have hcz81_4 : wc.cell? ⟨gb238, 4, none⟩ = some (.int .i64 a0_4) := (blk_cell BK238.out 4).trans rfl
                      have hcz81_5 : wc.cell? ⟨gb238, 5, none⟩ = some (.string a0_5) := (blk_cell BK238.out 5).trans rfl
                      have hcz81_6 : wc.cell? ⟨gb238, 6, none⟩ = some (.string a0_6) := (blk_cell BK238.out 6).trans rfl
                      have hcz81_7 : wc.cell? ⟨gb238, 7, none⟩ = some (.bool a0_7) := (blk_cell BK238.out 7).trans rfl
                      have hfz81_0 := blk_frozen BK238.out 0
                      have hfz81_1 := blk_frozen BK238.out 1
                      have hfz81_2 := blk_frozen BK238.out 2
                      have hfz81_3 := blk_frozen BK238.out 3
                      have hfz81_4 := blk_frozen BK238.out 4
                      have hfz81_5 := blk_frozen BK238.out 5
                      have hfz81_6 := blk_frozen BK238.out 6
                      have hfz81_7 := blk_frozen BK238.out 7
                      try go_wp2
                      have n0_ := Aside0.mk (Kd.R_drew HO_6.out)
                      have n1_ := Aside0.mk (blk_drew BK238.out)
                      have n2_ := Aside0.mk (below_drew1 HB.out)
                      clear HO_6
                      clear BK238
                      clear HB
                      have HO_6 := n0_
                      have BK238 := n1_
                      have HB := n2_
                      clear n0_ n1_ n2_
                      obtain ⟨Ao83, co83, eo83⟩ := Kd.R_slice HO_6.out
                      (first | subst eo83 | (injection eo83 with f1_ f2_ f3_; have f4_ := f1_.symm; have f5_ := f3_.symm; clear f1_ f2_ f3_; subst f4_; subst f5_))
                      have p263 : 0 ≤ (0 : Int) := (by omega)
                      have q263 : 0 < (x6_2.length : Int) := of_decide_eq_true (by first | (with_reducible assumption) | assumption)
                      obtain ⟨ad263, e263, hx263_0⟩ := Kd.at_string (Kd.R_reads' HO_6.out).2.2 0 p263 q263
                      cases e263
                      have qi263 : (0 < x6_2.length) = True := eq_true (by omega)
                      (try rw [show ((0 : Int)).toNat = 0 from rfl] at hx263_0)
                      (try rw [Addr.add_zero'] at hx263_0)
                      replace p263 := eq_true p263
                      replace q263 := eq_true q263
                      have p264 : 0 ≤ (1 : Int) := (by omega)
                      have q264 : 1 < (x6_2.length : Int) := of_decide_eq_true (by first | (with_reducible assumption) | assumption)
                      obtain ⟨ad264, e264, hx264_0⟩ := Kd.at_string (Kd.R_reads' HO_6.out).2.2 1 p264 q264
                      obtain rfl : ad263 = ad264 := (by injection e264)
                      (try simp only [show (1 : Int).toNat = 1 from rfl, Nat.reduceMul, Nat.reduceEqDiff, Go.Addr.add, ↓reduceIte] at hx264_0)
                      have qi264 : (1 < x6_2.length) = True := eq_true (by omega)
                      (try rw [show ((1 : Int)).toNat = 1 from rfl] at hx264_0)
                      replace p264 := eq_true p264
                      replace q264 := eq_true q264
                      have p265 : 0 ≤ (2 : Int) := (by omega)
                      have q265 : 2 < (x6_2.length : Int) := of_decide_eq_true (by first | (with_reducible assumption) | assumption)
                      obtain ⟨ad265, e265, hx265_0⟩ := Kd.at_string (Kd.R_reads' HO_6.out).2.2 2 p265 q265
                      obtain rfl : ad263 = ad265 := (by injection e265)
                      (try simp only [show (2 : Int).toNat = 2 from rfl, Nat.reduceMul, Nat.reduceEqDiff, Go.Addr.add, ↓reduceIte] at hx265_0)
                      have qi265 : (2 < x6_2.length) = True := eq_true (by omega)
                      (try rw [show ((2 : Int)).toNat = 2 from rfl] at hx265_0)
                      replace p265 := eq_true p265
                      replace q265 := eq_true q265
                      have p266 : 0 ≤ (3 : Int) := (by omega)
                      have q266 : 3 < (x6_2.length : Int) := of_decide_eq_true (by first | (with_reducible assumption) | assumption)
                      obtain ⟨ad266, e266, hx266_0⟩ := Kd.at_string (Kd.R_reads' HO_6.out).2.2 3 p266 q266
                      obtain rfl : ad263 = ad266 := (by injection e266)
                      (try simp only [show (3 : Int).toNat = 3 from rfl, Nat.reduceMul, Nat.reduceEqDiff, Go.Addr.add, ↓reduceIte] at hx266_0)
                      have qi266 : (3 < x6_2.length) = True := eq_true (by omega)
                      (try rw [show ((3 : Int)).toNat = 3 from rfl] at hx266_0)
                      replace p266 := eq_true p266
                      replace q266 := eq_true q266
                      refine start_ (n := 17) (S := fun w' => w'.cell? ad263 = some (.string (rdOf ByteArray.empty x6_2 0)) ∧ w'.cell? ⟨ad263.block, ad263.off + 1, none⟩ = some (.string (rdOf ByteArray.empty x6_2 1)) ∧ w'.cell? ⟨ad263.block, ad263.off + 2, none⟩ = some (.string (rdOf ByteArray.empty x6_2 2)) ∧ w'.cell? ⟨ad263.block, ad263.off + 3, none⟩ = some (.string (rdOf ByteArray.empty x6_2 3))) (ds := []) #[false, false, false, false, false, false, false, false, false, false, false, false, false, false, false, false, false] (by kernel_rfl) rfl rfl ⟨hx263_0, hx264_0, hx265_0, hx266_0⟩ (fun hHeld => ?_); refine with_tabW vitrineref11_Pixel.tab21 vitrineref11_Pixel.bits21 (fun HT_ HW_ => ?_)
                      generalize wc.drew = w82 at HO_6 BK238 HB hx263_0 hx264_0 hx265_0 hx266_0 hHeld ⊢
                      refine pure_ (i := 0) (N := some 132) (v := ?_) (a' := ?_) #[true, false, false, false, false, false, false, false, false, false, false, false, false, false, false, false, false] rfl rfl (any_of HT_.out (by kernel_rfl)) (fun _ _ _ h => h) (Or.inl ⟨by rfl, ?_⟩) ?_ ?_
                      rotate_left
                      ·
                       intro w'
                       go_simp
                       with_reducible rfl
                      rotate_left
                      ·
                       simp only [Act.put, List.setIfInBounds_toArray, List.set_cons_zero, List.set_cons_succ, i64_w, i32_w]
                       rfl
                      refine pure_ (i := 1) (N := some 133) (v := ?_) (a' := ?_) #[true, true, false, false, false, false, false, false, false, false, false, false, false, false, false, false, false] rfl rfl (any_of HT_.out (by kernel_rfl)) (fun _ _ _ h => h) (Or.inl ⟨by rfl, ?_⟩) ?_ ?_
                      rotate_left
                      ·
                       intro w'
                       go_simp
                       with_reducible rfl
                      rotate_left
                      ·
                       simp only [Act.put, List.setIfInBounds_toArray, List.set_cons_zero, List.set_cons_succ, i64_w, i32_w]
                       rfl
                      refine pure_ (i := 3) (N := some 135) (v := ?_) (a' := ?_) #[true, true, false, true, false, false, false, false, false, false, false, false, false, false, false, false, false] rfl rfl (any_of HT_.out (by kernel_rfl)) (fun _ _ _ h => h) (Or.inl ⟨by rfl, ?_⟩) ?_ ?_
                      rotate_left
                      ·
                       intro w'
                       go_simp
                       with_reducible rfl
                      rotate_left
                      ·
                       simp only [Act.put, List.setIfInBounds_toArray, List.set_cons_zero, List.set_cons_succ, i64_w, i32_w]
                       rfl
                      refine pure_ (i := 4) (N := some 136) (v := ?_) (a' := ?_) #[true, true, false, true, true, false, false, false, false, false, false, false, false, false, false, false, false] rfl rfl (any_of HT_.out (by kernel_rfl)) (fun _ _ _ h => h) (Or.inl ⟨by rfl, ?_⟩) ?_ ?_
                      rotate_left
                      ·
                       intro w'
                       go_simp
                       with_reducible rfl
                      rotate_left
                      ·
                       simp only [Act.put, List.setIfInBounds_toArray, List.set_cons_zero, List.set_cons_succ, i64_w, i32_w]
                       rfl
                      refine pure_ (i := 7) (N := some 139) (v := ?_) (a' := ?_) #[true, true, false, true, true, false, false, true, false, false, false, false, false, false, false, false, false] rfl rfl (any_of HT_.out (by kernel_rfl)) (fun _ _ _ h => h) (Or.inl ⟨by rfl, ?_⟩) ?_ ?_
                      rotate_left
                      ·
                       intro w'
                       go_simp
                       with_reducible rfl
                      rotate_left
                      ·
                       simp only [Act.put, List.setIfInBounds_toArray, List.set_cons_zero, List.set_cons_succ, i64_w, i32_w]
                       rfl
                      refine pure_ (i := 8) (N := some 140) (v := ?_) (a' := ?_) #[true, true, false, true, true, false, false, true, true, false, false, false, false, false, false, false, false] rfl rfl (any_of HT_.out (by kernel_rfl)) (fun _ _ _ h => h) (Or.inl ⟨by rfl, ?_⟩) ?_ ?_
                      rotate_left
                      ·
                       intro w'
                       go_simp
                       with_reducible rfl
                      rotate_left
                      ·
                       simp only [Act.put, List.setIfInBounds_toArray, List.set_cons_zero, List.set_cons_succ, i64_w, i32_w]
                       rfl
                      refine pure_ (i := 11) (N := some 143) (v := ?_) (a' := ?_) #[true, true, false, true, true, false, false, true, true, false, false, true, false, false, false, false, false] rfl rfl (any_of HT_.out (by kernel_rfl)) (fun _ _ _ h => h) (Or.inl ⟨by rfl, ?_⟩) ?_ ?_
                      rotate_left
                      ·
                       intro w'
                       go_simp
                       with_reducible rfl
                      rotate_left
                      ·
                       simp only [Act.put, List.setIfInBounds_toArray, List.set_cons_zero, List.set_cons_succ, i64_w, i32_w]
                       rfl
                      refine pure_ (i := 12) (N := some 144) (v := ?_) (a' := ?_) #[true, true, false, true, true, false, false, true, true, false, false, true, true, false, false, false, false] rfl rfl (any_of HT_.out (by kernel_rfl)) (fun _ _ _ h => h) (Or.inl ⟨by rfl, ?_⟩) ?_ ?_
                      rotate_left
                      ·
                       intro w'
                       go_simp
                       with_reducible rfl
                      rotate_left
                      ·
                       simp only [Act.put, List.setIfInBounds_toArray, List.set_cons_zero, List.set_cons_succ, i64_w, i32_w]
                       rfl
                      refine take_ (i := 2) (N := some 134) (v := ?_) (a' := ?_) #[true, true, true, true, true, false, false, true, true, false, false, true, true, false, false, false, false] rfl rfl (take_ofW HT_.out HW_.out (by kernel_rfl)) (fun _ _ _ h => h) (Or.inl ⟨by rfl, ?_⟩) hHeld ?_ ?_
                      rotate_left
                      ·
                       rintro w' ⟨s0, s1, s2, s3⟩
                       go_simp
                       with_reducible rfl
                      rotate_left
                      ·
                       simp only [Act.put, List.setIfInBounds_toArray, List.set_cons_zero, List.set_cons_succ, i64_w, i32_w]
                       rfl
                      refine take_ (i := 5) (N := some 137) (v := ?_) (a' := ?_) #[true, true, true, true, true, true, false, true, true, false, false, true, true, false, false, false, false] rfl rfl (take_ofW HT_.out HW_.out (by kernel_rfl)) (fun _ _ _ h => h) (Or.inl ⟨by rfl, ?_⟩) hHeld ?_ ?_
                      rotate_left
                      ·
                       rintro w' ⟨s0, s1, s2, s3⟩
                       go_simp
                       with_reducible rfl
                      rotate_left
                      ·
                       simp only [Act.put, List.setIfInBounds_toArray, List.set_cons_zero, List.set_cons_succ, i64_w, i32_w]
                       rfl
                      refine pure_ (i := 6) (N := some 138) (v := ?_) (a' := ?_) #[true, true, true, true, true, true, true, true, true, false, false, true, true, false, false, false, false] rfl rfl (any_of HT_.out (by kernel_rfl)) (fun _ _ _ h => h) (Or.inl ⟨by rfl, ?_⟩) ?_ ?_
                      rotate_left
                      ·
                       intro w'
                       go_simp
                       with_reducible rfl
                      rotate_left
                      ·
                       simp only [Act.put, List.setIfInBounds_toArray, List.set_cons_zero, List.set_cons_succ, i64_w, i32_w]
                       rfl
                      refine take_ (i := 9) (N := some 141) (v := ?_) (a' := ?_) #[true, true, true, true, true, true, true, true, true, true, false, true, true, false, false, false, false] rfl rfl (take_ofW HT_.out HW_.out (by kernel_rfl)) (fun _ _ _ h => h) (Or.inl ⟨by rfl, ?_⟩) hHeld ?_ ?_
                      rotate_left
                      ·
                       rintro w' ⟨s0, s1, s2, s3⟩
                       go_simp
                       with_reducible rfl
                      rotate_left
                      ·
                       simp only [Act.put, List.setIfInBounds_toArray, List.set_cons_zero, List.set_cons_succ, i64_w, i32_w]
                       rfl
                      refine pure_ (i := 10) (N := some 142) (v := ?_) (a' := ?_) #[true, true, true, true, true, true, true, true, true, true, true, true, true, false, false, false, false] rfl rfl (any_of HT_.out (by kernel_rfl)) (fun _ _ _ h => h) (Or.inl ⟨by rfl, ?_⟩) ?_ ?_
                      rotate_left
                      ·
                       intro w'
                       go_simp
                       with_reducible rfl
                      rotate_left
                      ·
                       simp only [Act.put, List.setIfInBounds_toArray, List.set_cons_zero, List.set_cons_succ, i64_w, i32_w]
                       rfl
                      refine take_ (i := 13) (N := some 145) (v := ?_) (a' := ?_) #[true, true, true, true, true, true, true, true, true, true, true, true, true, true, false, false, false] rfl rfl (take_ofW HT_.out HW_.out (by kernel_rfl)) (fun _ _ _ h => h) (Or.inl ⟨by rfl, ?_⟩) hHeld ?_ ?_
                      rotate_left
                      ·
                       rintro w' ⟨s0, s1, s2, s3⟩
                       go_simp
                       with_reducible rfl
                      rotate_left
                      ·
                       simp only [Act.put, List.setIfInBounds_toArray, List.set_cons_zero, List.set_cons_succ, i64_w, i32_w]
                       rfl
                      refine pure_ (i := 14) (N := some 146) (v := ?_) (a' := ?_) #[true, true, true, true, true, true, true, true, true, true, true, true, true, true, true, false, false] rfl rfl (any_of HT_.out (by kernel_rfl)) (fun _ _ _ h => h) (Or.inl ⟨by rfl, ?_⟩) ?_ ?_
                      rotate_left
                      ·
                       intro w'
                       go_simp
                       with_reducible rfl
                      rotate_left
                      ·
                       simp only [Act.put, List.setIfInBounds_toArray, List.set_cons_zero, List.set_cons_succ, i64_w, i32_w]
                       rfl
                      refine pure_ (i := 15) (N := some 4) (v := ?_) (a' := ?_) #[true, true, true, true, true, true, true, true, true, true, true, true, true, true, true, true, false] rfl rfl (any_of HT_.out (by kernel_rfl)) (fun _ _ _ h => h) (Or.inl ⟨by rfl, ?_⟩) ?_ ?_
                      rotate_left
                      ·
                       intro w'
                       go_simp
                       with_reducible rfl
                      rotate_left
                      ·
                       simp only [Act.put, List.setIfInBounds_toArray, List.set_cons_zero, List.set_cons_succ, i64_w, i32_w]
                       rfl
                      refine pure_ (i := 16) (N := some 5) (v := ?_) (a' := ?_) #[true, true, true, true, true, true, true, true, true, true, true, true, true, true, true, true, true] rfl rfl (any_of HT_.out (by kernel_rfl)) (fun _ _ _ h => h) (Or.inl ⟨by rfl, ?_⟩) ?_ ?_
                      rotate_left
                      ·
                       intro w'
                       go_simp
                       with_reducible rfl
                      rotate_left
                      ·
                       simp only [Act.put, List.setIfInBounds_toArray, List.set_cons_zero, List.set_cons_succ, i64_w, i32_w]
                       rfl
                      refine done_ (done_of HT_.out (by kernel_rfl)) ?_
                      try go_wp2
                      go_ret2
                      exact ⟨by first | rfl | (simp [errW_none, errW_some] <;> rfl) | (simp [*, errW_none, errW_some] <;> rfl), by repeat (first | (with_reducible first | exact HB.out | apply below_alloc | apply pw_below_drewN | apply below_drew1 | refine below_set ?_ GE238.out) | exact HB.out)⟩
                     ·
                      as_aux_lemma =>
                      rw [if_neg c80] at H
                      exact absurd H (by simp)
                    ·
                     as_aux_lemma =>
                     rw [if_neg c79] at H
                     exact absurd H (by simp)
                   ·
                    as_aux_lemma =>
                    rw [if_neg c78] at H
                    exact absurd H (by simp)
                  ·
                   as_aux_lemma =>
                   rw [if_neg c77] at H
                   exact absurd H (by simp)
                 ·
                  as_aux_lemma =>
                  rw [if_neg c76] at H
                  exact absurd H (by simp)
                ·
                 as_aux_lemma =>
                 rw [if_neg c75] at H
                 exact absurd H (by simp)
               ·
                as_aux_lemma =>
                rw [if_neg c74] at H
                exact absurd H (by simp)
              ·
               as_aux_lemma =>
               rw [if_neg c73] at H
               have c73b0 : (a0_3 == 6) = false := beq_eq_false_iff_ne.mpr c73
               have c73b1 : (a0_3 != 6) = true := bne_iff_ne.mpr c73
               by_cases c84 : 0 < (l1.length : Int)
               ·
                as_aux_lemma =>
                rw [if_pos c84] at H
                have c84b0 : decide (0 < (l1.length : Int)) = true := decide_eq_true c84
                have c84b1 : decide (0 < l1.length) = true := decide_eq_true (by omega)
                clear c84
                by_cases c85 : (wrap64 ((wrap64 (3 * (rd l1 0))) + 3)) > (a0_5.size : Int)
                ·
                 as_aux_lemma =>
                 rw [if_pos c85] at H
                 have c85b0 : decide ((a0_5.size : Int) < (wrap64 ((wrap64 (3 * (rd l1 0))) + 3))) = true := decide_eq_true c85
                 clear c85
                 simp only [Option.some.injEq, Prod.mk.injEq] at H
                 obtain ⟨rfl, rfl⟩ := H
                 have hcz86_0 : wc.cell? ⟨gb238, 0, none⟩ = some (.int .i64 a0_0) := (blk_cell BK238.out 0).trans rfl
                 have hcz86_1 : wc.cell? ⟨gb238, 1, none⟩ = some (.int .i64 a0_1) := (blk_cell BK238.out 1).trans rfl
                 have hcz86_2 : wc.cell? ⟨gb238, 2, none⟩ = some (.int .i64 a0_2) := (blk_cell BK238.out 2).trans rfl
                 have hcz86_3 : wc.cell? ⟨gb238, 3, none⟩ = some (.int .i64 a0_3) := (blk_cell BK238.out 3).trans rfl
                 have hcz86_4 : wc.cell? ⟨gb238, 4, none⟩ = some (.int .i64 a0_4) := (blk_cell BK238.out 4).trans rfl
                 have hcz86_5 : wc.cell? ⟨gb238, 5, none⟩ = some (.string a0_5) := (blk_cell BK238.out 5).trans rfl
                 have hcz86_6 : wc.cell? ⟨gb238, 6, none⟩ = some (.string a0_6) := (blk_cell BK238.out 6).trans rfl
                 have hcz86_7 : wc.cell? ⟨gb238, 7, none⟩ = some (.bool a0_7) := (blk_cell BK238.out 7).trans rfl
                 have hfz86_0 := blk_frozen BK238.out 0
                 have hfz86_1 := blk_frozen BK238.out 1
                 have hfz86_2 := blk_frozen BK238.out 2
                 have hfz86_3 := blk_frozen BK238.out 3
                 have hfz86_4 := blk_frozen BK238.out 4
                 have hfz86_5 := blk_frozen BK238.out 5
                 have hfz86_6 := blk_frozen BK238.out 6
                 have hfz86_7 := blk_frozen BK238.out 7
                 have p267 : 0 ≤ (0 : Int) := (by omega)
                 have q267 : 0 < (l1.length : Int) := of_decide_eq_true (by first | (with_reducible assumption) | assumption)
                 obtain ⟨ad267, e267, hx267_0⟩ := Kd.at_int HR1.out 0 p267 q267
                 cases e267
                 have qi267 : (0 < l1.length) = True := eq_true (by omega)
                 (try rw [show ((0 : Int)).toNat = 0 from rfl] at hx267_0)
                 (try rw [Addr.add_zero'] at hx267_0)
                 replace hx267_0 := (HB.out.cell (World.block_lt_of_cell? w _ hx267_0)).trans hx267_0
                 replace p267 := eq_true p267
                 replace q267 := eq_true q267
                 go_wp2
                 go_ret2
                 exact ⟨by first | rfl | (simp [errW_none, errW_some] <;> rfl) | (simp [*, errW_none, errW_some] <;> rfl), by repeat (first | (with_reducible first | exact HB.out | apply below_alloc | apply pw_below_drewN | apply below_drew1 | refine below_set ?_ GE238.out) | exact HB.out)⟩
                ·
                 as_aux_lemma =>
                 rw [if_neg c85] at H
                 have c85b0 : decide ((a0_5.size : Int) < (wrap64 ((wrap64 (3 * (rd l1 0))) + 3))) = false := decide_eq_false c85
                 clear c85
                 have HC87 := Aside0.mk H
                 clear H
                 have hcz88_0 : wc.cell? ⟨gb238, 0, none⟩ = some (.int .i64 a0_0) := (blk_cell BK238.out 0).trans rfl
                 have hcz88_1 : wc.cell? ⟨gb238, 1, none⟩ = some (.int .i64 a0_1) := (blk_cell BK238.out 1).trans rfl
                 have hcz88_2 : wc.cell? ⟨gb238, 2, none⟩ = some (.int .i64 a0_2) := (blk_cell BK238.out 2).trans rfl
                 have hcz88_3 : wc.cell? ⟨gb238, 3, none⟩ = some (.int .i64 a0_3) := (blk_cell BK238.out 3).trans rfl
                 have hcz88_4 : wc.cell? ⟨gb238, 4, none⟩ = some (.int .i64 a0_4) := (blk_cell BK238.out 4).trans rfl
                 have hcz88_5 : wc.cell? ⟨gb238, 5, none⟩ = some (.string a0_5) := (blk_cell BK238.out 5).trans rfl
                 have hcz88_6 : wc.cell? ⟨gb238, 6, none⟩ = some (.string a0_6) := (blk_cell BK238.out 6).trans rfl
                 have hcz88_7 : wc.cell? ⟨gb238, 7, none⟩ = some (.bool a0_7) := (blk_cell BK238.out 7).trans rfl
                 have hfz88_0 := blk_frozen BK238.out 0
                 have hfz88_1 := blk_frozen BK238.out 1
                 have hfz88_2 := blk_frozen BK238.out 2
                 have hfz88_3 := blk_frozen BK238.out 3
                 have hfz88_4 := blk_frozen BK238.out 4
                 have hfz88_5 := blk_frozen BK238.out 5
                 have hfz88_6 := blk_frozen BK238.out 6
                 have hfz88_7 := blk_frozen BK238.out 7
                 have p267 : 0 ≤ (0 : Int) := (by omega)
                 have q267 : 0 < (l1.length : Int) := of_decide_eq_true (by first | (with_reducible assumption) | assumption)
                 obtain ⟨ad267, e267, hx267_0⟩ := Kd.at_int HR1.out 0 p267 q267
                 cases e267
                 have qi267 : (0 < l1.length) = True := eq_true (by omega)
                 (try rw [show ((0 : Int)).toNat = 0 from rfl] at hx267_0)
                 (try rw [Addr.add_zero'] at hx267_0)
                 replace hx267_0 := (HB.out.cell (World.block_lt_of_cell? w _ hx267_0)).trans hx267_0
                 replace p267 := eq_true p267
                 replace q267 := eq_true q267
                 go_upto_region 25 with (fail)
                 go_cut [165] (fun v165 wc => ∃ (kq : Nat) (x165_86 : Bool), v165 = .bool x165_86 ∧ Aside0 (vitrineref11_Pixel.j5 kq x8_41 (rd l1 0) x165_86 a0_0 a0_1 a0_2 a0_3 a0_4 a0_5 a0_6 a0_7 = some (r1, r2)) ∧ Aside0 (kq ≤ kj41) ∧ Aside0 (wc.heap[gb238]? = some (.cells #[.int .i64 a0_0, .int .i64 a0_1, .int .i64 a0_2, .int .i64 a0_3, .int .i64 a0_4, .string a0_5, .string a0_6, .bool a0_7] 38 (0, 0))) ∧ Aside0 (Below w.heap.size w wc))
                 case first =>
                  as_aux_lemma =>
                  have H := HC87.out
                  clear HC87
                  by_cases c89 : a0_7 = true
                  ·
                   subst c89
                   have H1 : (vitrineref11_Pixel.j5 kj41 x8_41 (rd l1 0) (decide ((rd l1 0) < (a0_6.size : Int))) a0_0 a0_1 a0_2 a0_3 a0_4 a0_5 a0_6 true) = some (r1, r2) := by rw [if_pos rfl] at H; exact H
                   clear H
                   have H := H1
                   clear H1
                   have H' := Aside0.mk H
                   clear H
                   have hcz90_0 : wc.cell? ⟨gb238, 0, none⟩ = some (.int .i64 a0_0) := (blk_cell BK238.out 0).trans rfl
                   have hcz90_1 : wc.cell? ⟨gb238, 1, none⟩ = some (.int .i64 a0_1) := (blk_cell BK238.out 1).trans rfl
                   have hcz90_2 : wc.cell? ⟨gb238, 2, none⟩ = some (.int .i64 a0_2) := (blk_cell BK238.out 2).trans rfl
                   have hcz90_3 : wc.cell? ⟨gb238, 3, none⟩ = some (.int .i64 a0_3) := (blk_cell BK238.out 3).trans rfl
                   have hcz90_4 : wc.cell? ⟨gb238, 4, none⟩ = some (.int .i64 a0_4) := (blk_cell BK238.out 4).trans rfl
                   have hcz90_5 : wc.cell? ⟨gb238, 5, none⟩ = some (.string a0_5) := (blk_cell BK238.out 5).trans rfl
                   have hcz90_6 : wc.cell? ⟨gb238, 6, none⟩ = some (.string a0_6) := (blk_cell BK238.out 6).trans rfl
                   have hcz90_7 : wc.cell? ⟨gb238, 7, none⟩ = some (.bool true) := (blk_cell BK238.out 7).trans rfl
                   have hfz90_0 := blk_frozen BK238.out 0
                   have hfz90_1 := blk_frozen BK238.out 1
                   have hfz90_2 := blk_frozen BK238.out 2
                   have hfz90_3 := blk_frozen BK238.out 3
                   have hfz90_4 := blk_frozen BK238.out 4
                   have hfz90_5 := blk_frozen BK238.out 5
                   have hfz90_6 := blk_frozen BK238.out 6
                   have hfz90_7 := blk_frozen BK238.out 7
                   go_wp2
                   go_meet
                   case rel => exact ⟨_, (decide ((rd l1 0) < (a0_6.size : Int))), (by first | rfl | (simp; done) | (simp [*]; done)), H', ⟨by have := HJ2.out; have := HK2.out; have := HJ30.out; have := HJ41.out; first | omega | exact Nat.le_refl _⟩, ⟨by (with_reducible repeat (first | refine blk_drewN ?_ _ | refine blk_drew ?_ | refine blk_alloc ?_ _)); exact BK238.out⟩, ⟨by repeat (first | (with_reducible first | exact HB.out | apply below_alloc | apply pw_below_drewN | apply below_drew1 | refine below_set ?_ GE238.out) | exact HB.out)⟩⟩
                  ·
                   replace c89 := Bool.eq_false_iff.mpr c89
                   subst c89
                   have H1 : (vitrineref11_Pixel.j5 kj41 x8_41 (rd l1 0) false a0_0 a0_1 a0_2 a0_3 a0_4 a0_5 a0_6 false) = some (r1, r2) := by rw [if_neg (show ¬ (false = true) by decide)] at H; exact H
                   clear H
                   have H := H1
                   clear H1
                   have H' := Aside0.mk H
                   clear H
                   have hcz91_0 : wc.cell? ⟨gb238, 0, none⟩ = some (.int .i64 a0_0) := (blk_cell BK238.out 0).trans rfl
                   have hcz91_1 : wc.cell? ⟨gb238, 1, none⟩ = some (.int .i64 a0_1) := (blk_cell BK238.out 1).trans rfl
                   have hcz91_2 : wc.cell? ⟨gb238, 2, none⟩ = some (.int .i64 a0_2) := (blk_cell BK238.out 2).trans rfl
                   have hcz91_3 : wc.cell? ⟨gb238, 3, none⟩ = some (.int .i64 a0_3) := (blk_cell BK238.out 3).trans rfl
                   have hcz91_4 : wc.cell? ⟨gb238, 4, none⟩ = some (.int .i64 a0_4) := (blk_cell BK238.out 4).trans rfl
                   have hcz91_5 : wc.cell? ⟨gb238, 5, none⟩ = some (.string a0_5) := (blk_cell BK238.out 5).trans rfl
                   have hcz91_6 : wc.cell? ⟨gb238, 6, none⟩ = some (.string a0_6) := (blk_cell BK238.out 6).trans rfl
                   have hcz91_7 : wc.cell? ⟨gb238, 7, none⟩ = some (.bool false) := (blk_cell BK238.out 7).trans rfl
                   have hfz91_0 := blk_frozen BK238.out 0
                   have hfz91_1 := blk_frozen BK238.out 1
                   have hfz91_2 := blk_frozen BK238.out 2
                   have hfz91_3 := blk_frozen BK238.out 3
                   have hfz91_4 := blk_frozen BK238.out 4
                   have hfz91_5 := blk_frozen BK238.out 5
                   have hfz91_6 := blk_frozen BK238.out 6
                   have hfz91_7 := blk_frozen BK238.out 7
                   go_wp2
                   go_meet
                   case rel => exact ⟨_, (false), (by first | rfl | (simp; done) | (simp [*]; done)), H', ⟨by have := HJ2.out; have := HK2.out; have := HJ30.out; have := HJ41.out; first | omega | exact Nat.le_refl _⟩, ⟨by (with_reducible repeat (first | refine blk_drewN ?_ _ | refine blk_drew ?_ | refine blk_alloc ?_ _)); exact BK238.out⟩, ⟨by repeat (first | (with_reducible first | exact HB.out | apply below_alloc | apply pw_below_drewN | apply below_drew1 | refine below_set ?_ GE238.out) | exact HB.out)⟩⟩
                 case rest =>
                  as_aux_lemma =>
                  clear HC87
                  try clear p2
                  try clear q2
                  try clear hx2
                  try clear qi2
                  try clear c6
                  try clear p6
                  try clear c7
                  try clear c8
                  try clear p25
                  try clear q25
                  try clear hx25
                  try clear qi25
                  try clear p26
                  try clear q26
                  try clear hx26
                  try clear qi26
                  try clear c64
                  try clear c64b0
                  try clear c64b1
                  try clear p64
                  try clear c65
                  try clear c66
                  try clear c67
                  try clear c68
                  try clear c69
                  try clear c73
                  try clear c73b0
                  try clear c73b1
                  try clear c74
                  try clear c74b0
                  try clear c74b1
                  try clear c75
                  try clear c75b0
                  try clear c75b1
                  try clear c76
                  try clear c76b0
                  try clear c76b1
                  try clear c76b2
                  try clear c77
                  try clear c77b0
                  try clear c77b1
                  try clear c78
                  try clear c78b0
                  try clear c78b1
                  try clear c78b2
                  try clear c79
                  try clear c79b0
                  try clear c79b1
                  try clear c80
                  try clear c80b0
                  try clear c80b1
                  try clear c80b2
                  try clear c84
                  try clear c84b0
                  try clear c84b1
                  try clear c85
                  try clear c85b0
                  try clear c89
                  try clear hcz81_0
                  try clear hcz81_1
                  try clear hcz81_2
                  try clear hcz81_3
                  try clear hcz81_4
                  try clear hcz81_5
                  try clear hcz81_6
                  try clear hcz81_7
                  try clear hcz86_0
                  try clear hcz86_1
                  try clear hcz86_2
                  try clear hcz86_3
                  try clear hcz86_4
                  try clear hcz86_5
                  try clear hcz86_6
                  try clear hcz86_7
                  try clear hcz88_0
                  try clear hcz88_1
                  try clear hcz88_2
                  try clear hcz88_3
                  try clear hcz88_4
                  try clear hcz88_5
                  try clear hcz88_6
                  try clear hcz88_7
                  try clear hcz90_0
                  try clear hcz90_1
                  try clear hcz90_2
                  try clear hcz90_3
                  try clear hcz90_4
                  try clear hcz90_5
                  try clear hcz90_6
                  try clear hcz90_7
                  try clear hcz91_0
                  try clear hcz91_1
                  try clear hcz91_2
                  try clear hcz91_3
                  try clear hcz91_4
                  try clear hcz91_5
                  try clear hcz91_6
                  try clear hcz91_7
                  try clear hfz81_0
                  try clear hfz81_1
                  try clear hfz81_2
                  try clear hfz81_3
                  try clear hfz81_4
                  try clear hfz81_5
                  try clear hfz81_6
                  try clear hfz81_7
                  try clear hfz86_0
                  try clear hfz86_1
                  try clear hfz86_2
                  try clear hfz86_3
                  try clear hfz86_4
                  try clear hfz86_5
                  try clear hfz86_6
                  try clear hfz86_7
                  try clear hfz88_0
                  try clear hfz88_1
                  try clear hfz88_2
                  try clear hfz88_3
                  try clear hfz88_4
                  try clear hfz88_5
                  try clear hfz88_6
                  try clear hfz88_7
                  try clear hfz90_0
                  try clear hfz90_1
                  try clear hfz90_2
                  try clear hfz90_3
                  try clear hfz90_4
                  try clear hfz90_5
                  try clear hfz90_6
                  try clear hfz90_7
                  try clear hfz91_0
                  try clear hfz91_1
                  try clear hfz91_2
                  try clear hfz91_3
                  try clear hfz91_4
                  try clear hfz91_5
                  try clear hfz91_6
                  try clear hfz91_7
                  try clear hx259_0
                  try clear hx260_0
                  try clear hx261_0
                  try clear hx262_0
                  try clear hx263_0
                  try clear hx264_0
                  try clear hx265_0
                  try clear hx266_0
                  try clear hx267_0
                  try clear p259
                  try clear p260
                  try clear p261
                  try clear p262
                  try clear p263
                  try clear p264
                  try clear p265
                  try clear p266
                  try clear p267
                  try clear q259
                  try clear q260
                  try clear q261
                  try clear q262
                  try clear q263
                  try clear q264
                  try clear q265
                  try clear q266
                  try clear q267
                  obtain ⟨kq, x165_86, rfl, HA, HJ86, BK238, HB⟩ := hcut
                  cases kq with
                  | zero => exact absurd HA.out (by simp [vitrineref11_Pixel.j5])
                  | succ kj86 =>
                   have H := HA.out
                   clear HA
                   simp only [vitrineref11_Pixel.j5] at H
                   have HC92 := Aside0.mk H
                   clear H
                   go_upto_if 165 with (fail)
                   go_cut [8] (fun v8 wc => ∃ (kq : Nat) (x8_91 : ByteArray), v8 = .string x8_91 ∧ Aside0 (vitrineref11_Pixel.j6 kq x8_91 (rd l1 0) a0_0 a0_1 a0_2 a0_3 a0_4 a0_5 a0_6 a0_7 = some (r1, r2)) ∧ Aside0 (kq ≤ kj86) ∧ Aside0 (wc.heap[gb238]? = some (.cells #[.int .i64 a0_0, .int .i64 a0_1, .int .i64 a0_2, .int .i64 a0_3, .int .i64 a0_4, .string a0_5, .string a0_6, .bool a0_7] 38 (0, 0))) ∧ Aside0 (Below w.heap.size w wc))
                   case first =>
                    as_aux_lemma =>
                    have H := HC92.out
                    clear HC92
                    by_cases c93 : x165_86 = true
                    ·
                     subst c93
                     have H1 : (if 0 ≤ (rd l1 0) then (if (rd l1 0) < (a0_6.size : Int) then ((vitrineref11_two.f (wrap64 (257 * (wrap64 (bt a0_6 (rd l1 0)))))).bind fun t268 => (vitrineref11_Pixel.j6 kj86 t268 (rd l1 0) a0_0 a0_1 a0_2 a0_3 a0_4 a0_5 a0_6 a0_7)) else (none)) else (none)) = some (r1, r2) := by rw [if_pos rfl] at H; exact H
                     clear H
                     have H := H1
                     clear H1
                     by_cases c94 : 0 ≤ (rd l1 0)
                     ·
                      as_aux_lemma =>
                      rw [if_pos c94] at H
                      have c94b0 : decide (0 ≤ (rd l1 0)) = true := decide_eq_true c94
                      clear c94
                      (first | rw [c94b0] | (simp only [i64_w, i32_w]; rw [c94b0]) | skip)
                      by_cases c95 : (rd l1 0) < (a0_6.size : Int)
                      ·
                       as_aux_lemma =>
                       rw [if_pos c95] at H
                       have c95b0 : decide ((rd l1 0) < (a0_6.size : Int)) = true := decide_eq_true c95
                       clear c95
                       replace H := Option.bind_eq_some_iff.mp H
                       obtain ⟨t268, A970, H⟩ := H
                       replace H : (vitrineref11_Pixel.j6 kj86 t268 (rd l1 0) a0_0 a0_1 a0_2 a0_3 a0_4 a0_5 a0_6 a0_7) = some (r1, r2) := H
                       have A97 := Aside0.mk A970
                       clear A970
                       have H' := Aside0.mk H
                       clear H
                       have hcz98_0 : wc.cell? ⟨gb238, 0, none⟩ = some (.int .i64 a0_0) := (blk_cell BK238.out 0).trans rfl
                       have hcz98_1 : wc.cell? ⟨gb238, 1, none⟩ = some (.int .i64 a0_1) := (blk_cell BK238.out 1).trans rfl
                       have hcz98_2 : wc.cell? ⟨gb238, 2, none⟩ = some (.int .i64 a0_2) := (blk_cell BK238.out 2).trans rfl
                       have hcz98_3 : wc.cell? ⟨gb238, 3, none⟩ = some (.int .i64 a0_3) := (blk_cell BK238.out 3).trans rfl
                       have hcz98_4 : wc.cell? ⟨gb238, 4, none⟩ = some (.int .i64 a0_4) := (blk_cell BK238.out 4).trans rfl
                       have hcz98_5 : wc.cell? ⟨gb238, 5, none⟩ = some (.string a0_5) := (blk_cell BK238.out 5).trans rfl
                       have hcz98_6 : wc.cell? ⟨gb238, 6, none⟩ = some (.string a0_6) := (blk_cell BK238.out 6).trans rfl
                       have hcz98_7 : wc.cell? ⟨gb238, 7, none⟩ = some (.bool a0_7) := (blk_cell BK238.out 7).trans rfl
                       have hfz98_0 := blk_frozen BK238.out 0
                       have hfz98_1 := blk_frozen BK238.out 1
                       have hfz98_2 := blk_frozen BK238.out 2
                       have hfz98_3 := blk_frozen BK238.out 3
                       have hfz98_4 := blk_frozen BK238.out 4
                       have hfz98_5 := blk_frozen BK238.out 5
                       have hfz98_6 := blk_frozen BK238.out 6
                       have hfz98_7 := blk_frozen BK238.out 7
                       have p96 : 0 ≤ ((rd l1 0) : Int) := of_decide_eq_true (by first | (with_reducible assumption) | assumption)
                       have q96 : (rd l1 0) < (a0_6.size : Int) := of_decide_eq_true (by first | (with_reducible assumption) | assumption)
                       have hx96 := bt_at a0_6 (rd l1 0)
                       replace p96 := eq_true p96
                       replace q96 := eq_true q96
                       go_wp2_with (first | ((with_reducible refine gate_callee (f := 30) rfl ?_); refine goesL_ (some 172) rfl rfl Try.func30 (by kernel_rfl) rfl #[.int .i64 (wrap64 (257 * (wrap64 (bt a0_6 (rd l1 0)))))] rfl (by (try simp only [List.map_toArray, List.map_cons, List.map_nil]); first | done | rfl | (simp only [List.length_drop, List.length_take]; rfl)) ?_; (with_reducible refine (vitrineref11_two.calls (wrap64 (257 * (wrap64 (bt a0_6 (rd l1 0))))) t268 _ A97.out).mono ?_); rintro e w99 ⟨rfl, hb⟩; refine ⟨_, rfl, ?_⟩; have n0_ := Aside0.mk (blk_below (g := gb238) (o := .cells #[.int .i64 a0_0, .int .i64 a0_1, .int .i64 a0_2, .int .i64 a0_3, .int .i64 a0_4, .string a0_5, .string a0_6, .bool a0_7] 38 (0, 0)) (by (with_reducible repeat (first | refine blk_drewN ?_ _ | refine blk_drew ?_ | refine blk_alloc ?_ _)); exact BK238.out) hb); have n1_ := Aside0.mk (below_step (by repeat (first | (with_reducible first | exact HB.out | apply below_alloc | apply pw_below_drewN | apply below_drew1 | refine below_set ?_ GE238.out) | exact HB.out)) hb); clear BK238; clear HB; have BK238 := n0_; have HB := n1_; clear n0_ n1_; (try clear hb); (try clear hb2); (try clear hk); (try clear hi)))
                       go_meet
                       case rel => exact ⟨_, (t268), (by first | rfl | (simp; done) | (simp [*]; done)), H', ⟨by have := HJ2.out; have := HK2.out; have := HJ30.out; have := HJ41.out; have := HJ86.out; first | omega | exact Nat.le_refl _⟩, ⟨by (with_reducible repeat (first | refine blk_drewN ?_ _ | refine blk_drew ?_ | refine blk_alloc ?_ _)); exact BK238.out⟩, ⟨by repeat (first | (with_reducible first | exact HB.out | apply below_alloc | apply pw_below_drewN | apply below_drew1 | refine below_set ?_ GE238.out) | exact HB.out)⟩⟩
                      ·
                       as_aux_lemma =>
                       rw [if_neg c95] at H
                       exact absurd H (by simp)
                     ·
                      as_aux_lemma =>
                      rw [if_neg c94] at H
                      exact absurd H (by simp)
                    ·
                     replace c93 := Bool.eq_false_iff.mpr c93
                     subst c93
                     have H1 : (vitrineref11_Pixel.j6 kj86 x8_41 (rd l1 0) a0_0 a0_1 a0_2 a0_3 a0_4 a0_5 a0_6 a0_7) = some (r1, r2) := by rw [if_neg (show ¬ (false = true) by decide)] at H; exact H
                     clear H
                     have H := H1
                     clear H1
                     have H' := Aside0.mk H
                     clear H
                     go_wp2
                     go_meet
                     case rel => exact ⟨_, (x8_41), (by first | rfl | (simp; done) | (simp [*]; done)), H', ⟨by have := HJ2.out; have := HK2.out; have := HJ30.out; have := HJ41.out; have := HJ86.out; first | omega | exact Nat.le_refl _⟩, ⟨by (with_reducible repeat (first | refine blk_drewN ?_ _ | refine blk_drew ?_ | refine blk_alloc ?_ _)); exact BK238.out⟩, ⟨by repeat (first | (with_reducible first | exact HB.out | apply below_alloc | apply pw_below_drewN | apply below_drew1 | refine below_set ?_ GE238.out) | exact HB.out)⟩⟩
                   case rest =>
                    as_aux_lemma =>
                    clear HC92
                    try clear p2
                    try clear q2
                    try clear hx2
                    try clear qi2
                    try clear c3
                    try clear c6
                    try clear p6
                    try clear c7
                    try clear c8
                    try clear c9
                    try clear p9
                    try clear q9
                    try clear hx9
                    try clear p25
                    try clear q25
                    try clear hx25
                    try clear qi25
                    try clear p26
                    try clear q26
                    try clear hx26
                    try clear qi26
                    try clear c30
                    try clear c64
                    try clear c64b0
                    try clear c64b1
                    try clear p64
                    try clear c65
                    try clear c66
                    try clear c67
                    try clear c68
                    try clear c69
                    try clear c73
                    try clear c73b0
                    try clear c73b1
                    try clear c74
                    try clear c74b0
                    try clear c74b1
                    try clear c75
                    try clear c75b0
                    try clear c75b1
                    try clear c76
                    try clear c76b0
                    try clear c76b1
                    try clear c76b2
                    try clear c77
                    try clear c77b0
                    try clear c77b1
                    try clear c78
                    try clear c78b0
                    try clear c78b1
                    try clear c78b2
                    try clear c79
                    try clear c79b0
                    try clear c79b1
                    try clear c80
                    try clear c80b0
                    try clear c80b1
                    try clear c80b2
                    try clear c84
                    try clear c84b0
                    try clear c84b1
                    try clear c85
                    try clear c85b0
                    try clear c89
                    try clear c93
                    try clear c94
                    try clear c94b0
                    try clear c95
                    try clear c95b0
                    try clear p96
                    try clear q96
                    try clear hx96
                    try clear hcz81_0
                    try clear hcz81_1
                    try clear hcz81_2
                    try clear hcz81_3
                    try clear hcz81_4
                    try clear hcz81_5
                    try clear hcz81_6
                    try clear hcz81_7
                    try clear hcz86_0
                    try clear hcz86_1
                    try clear hcz86_2
                    try clear hcz86_3
                    try clear hcz86_4
                    try clear hcz86_5
                    try clear hcz86_6
                    try clear hcz86_7
                    try clear hcz88_0
                    try clear hcz88_1
                    try clear hcz88_2
                    try clear hcz88_3
                    try clear hcz88_4
                    try clear hcz88_5
                    try clear hcz88_6
                    try clear hcz88_7
                    try clear hcz90_0
                    try clear hcz90_1
                    try clear hcz90_2
                    try clear hcz90_3
                    try clear hcz90_4
                    try clear hcz90_5
                    try clear hcz90_6
                    try clear hcz90_7
                    try clear hcz91_0
                    try clear hcz91_1
                    try clear hcz91_2
                    try clear hcz91_3
                    try clear hcz91_4
                    try clear hcz91_5
                    try clear hcz91_6
                    try clear hcz91_7
                    try clear hcz98_0
                    try clear hcz98_1
                    try clear hcz98_2
                    try clear hcz98_3
                    try clear hcz98_4
                    try clear hcz98_5
                    try clear hcz98_6
                    try clear hcz98_7
                    try clear hfz81_0
                    try clear hfz81_1
                    try clear hfz81_2
                    try clear hfz81_3
                    try clear hfz81_4
                    try clear hfz81_5
                    try clear hfz81_6
                    try clear hfz81_7
                    try clear hfz86_0
                    try clear hfz86_1
                    try clear hfz86_2
                    try clear hfz86_3
                    try clear hfz86_4
                    try clear hfz86_5
                    try clear hfz86_6
                    try clear hfz86_7
                    try clear hfz88_0
                    try clear hfz88_1
                    try clear hfz88_2
                    try clear hfz88_3
                    try clear hfz88_4
                    try clear hfz88_5
                    try clear hfz88_6
                    try clear hfz88_7
                    try clear hfz90_0
                    try clear hfz90_1
                    try clear hfz90_2
                    try clear hfz90_3
                    try clear hfz90_4
                    try clear hfz90_5
                    try clear hfz90_6
                    try clear hfz90_7
                    try clear hfz91_0
                    try clear hfz91_1
                    try clear hfz91_2
                    try clear hfz91_3
                    try clear hfz91_4
                    try clear hfz91_5
                    try clear hfz91_6
                    try clear hfz91_7
                    try clear hfz98_0
                    try clear hfz98_1
                    try clear hfz98_2
                    try clear hfz98_3
                    try clear hfz98_4
                    try clear hfz98_5
                    try clear hfz98_6
                    try clear hfz98_7
                    try clear hx259_0
                    try clear hx260_0
                    try clear hx261_0
                    try clear hx262_0
                    try clear hx263_0
                    try clear hx264_0
                    try clear hx265_0
                    try clear hx266_0
                    try clear hx267_0
                    try clear p2
                    try clear p25
                    try clear p259
                    try clear p26
                    try clear p260
                    try clear p261
                    try clear p262
                    try clear p263
                    try clear p264
                    try clear p265
                    try clear p266
                    try clear p267
                    try clear p6
                    try clear p64
                    try clear p96
                    try clear q2
                    try clear q25
                    try clear q259
                    try clear q26
                    try clear q260
                    try clear q261
                    try clear q262
                    try clear q263
                    try clear q264
                    try clear q265
                    try clear q266
                    try clear q267
                    try clear q96
                    obtain ⟨kq, x8_91, rfl, HA, HJ91, BK238, HB⟩ := hcut
                    cases kq with
                    | zero => exact absurd HA.out (by simp [vitrineref11_Pixel.j6])
                    | succ kj91 =>
                     have H := HA.out
                     clear HA
                     simp only [vitrineref11_Pixel.j6] at H
                     obtain ⟨ji100, hji100⟩ : ∃ j_ : Int, (wrap64 (3 * (rd l1 0))) = j_ := ⟨_, rfl⟩
                     replace H : (if 0 ≤ (ji100) then (if (ji100) < (a0_5.size : Int) then ((vitrineref11_two.f (wrap64 (257 * (wrap64 (bt a0_5 (ji100)))))).bind fun t269 => (if 0 ≤ (wrap64 ((ji100) + 1)) then (if (wrap64 ((ji100) + 1)) < (a0_5.size : Int) then ((vitrineref11_two.f (wrap64 (257 * (wrap64 (bt a0_5 (wrap64 ((ji100) + 1))))))).bind fun t270 => (if t269.size + t270.size ≤ 9223372036854775807 then (if 0 ≤ (wrap64 ((ji100) + 2)) then (if (wrap64 ((ji100) + 2)) < (a0_5.size : Int) then ((vitrineref11_two.f (wrap64 (257 * (wrap64 (bt a0_5 (wrap64 ((ji100) + 2))))))).bind fun t271 => (if (t269 ++ t270).size + t271.size ≤ 9223372036854775807 then (if ((t269 ++ t270) ++ t271).size + x8_91.size ≤ 9223372036854775807 then (some (((t269 ++ t270) ++ t271) ++ x8_91, 0)) else (none)) else (none))) else (none)) else (none)) else (none))) else (none)) else (none))) else (none)) else (none)) = some (r1, r2) := by first | (rw [hji100] at H; exact H) | (simp only [hji100] at H ⊢; exact H)
                     (try rw [hji100] at c85b0)
                     have hji100w : (IntKind.i64.wrap (3 * (rd l1 0))) = ji100 := (i64_w _).trans hji100
                     by_cases c101 : 0 ≤ (ji100)
                     ·
                      as_aux_lemma =>
                      rw [if_pos c101] at H
                      have c101b0 : decide (0 ≤ (ji100)) = true := decide_eq_true c101
                      clear c101
                      by_cases c102 : (ji100) < (a0_5.size : Int)
                      ·
                       as_aux_lemma =>
                       rw [if_pos c102] at H
                       have c102b0 : decide ((ji100) < (a0_5.size : Int)) = true := decide_eq_true c102
                       clear c102
                       replace H := Option.bind_eq_some_iff.mp H
                       obtain ⟨t269, A1040, H⟩ := H
                       replace H : (if 0 ≤ (wrap64 ((ji100) + 1)) then (if (wrap64 ((ji100) + 1)) < (a0_5.size : Int) then ((vitrineref11_two.f (wrap64 (257 * (wrap64 (bt a0_5 (wrap64 ((ji100) + 1))))))).bind fun t270 => (if t269.size + t270.size ≤ 9223372036854775807 then (if 0 ≤ (wrap64 ((ji100) + 2)) then (if (wrap64 ((ji100) + 2)) < (a0_5.size : Int) then ((vitrineref11_two.f (wrap64 (257 * (wrap64 (bt a0_5 (wrap64 ((ji100) + 2))))))).bind fun t271 => (if (t269 ++ t270).size + t271.size ≤ 9223372036854775807 then (if ((t269 ++ t270) ++ t271).size + x8_91.size ≤ 9223372036854775807 then (some (((t269 ++ t270) ++ t271) ++ x8_91, 0)) else (none)) else (none))) else (none)) else (none)) else (none))) else (none)) else (none)) = some (r1, r2) := H
                       have A104 := Aside0.mk A1040
                       clear A1040
                       obtain ⟨ji105, hji105⟩ : ∃ j_ : Int, (wrap64 ((ji100) + 1)) = j_ := ⟨_, rfl⟩
                       replace H : (if 0 ≤ (ji105) then (if (ji105) < (a0_5.size : Int) then ((vitrineref11_two.f (wrap64 (257 * (wrap64 (bt a0_5 (ji105)))))).bind fun t270 => (if t269.size + t270.size ≤ 9223372036854775807 then (if 0 ≤ (wrap64 ((ji100) + 2)) then (if (wrap64 ((ji100) + 2)) < (a0_5.size : Int) then ((vitrineref11_two.f (wrap64 (257 * (wrap64 (bt a0_5 (wrap64 ((ji100) + 2))))))).bind fun t271 => (if (t269 ++ t270).size + t271.size ≤ 9223372036854775807 then (if ((t269 ++ t270) ++ t271).size + x8_91.size ≤ 9223372036854775807 then (some (((t269 ++ t270) ++ t271) ++ x8_91, 0)) else (none)) else (none))) else (none)) else (none)) else (none))) else (none)) else (none)) = some (r1, r2) := by first | (rw [hji105] at H; exact H) | (simp only [hji105] at H ⊢; exact H)
                       (try rw [hji105] at A104)
                       have hji105w : (IntKind.i64.wrap ((ji100) + 1)) = ji105 := (i64_w _).trans hji105
                       by_cases c106 : 0 ≤ (ji105)
                       ·
                        as_aux_lemma =>
                        rw [if_pos c106] at H
                        have c106b0 : decide (0 ≤ (ji105)) = true := decide_eq_true c106
                        clear c106
                        by_cases c107 : (ji105) < (a0_5.size : Int)
                        ·
                         as_aux_lemma =>
                         rw [if_pos c107] at H
                         have c107b0 : decide ((ji105) < (a0_5.size : Int)) = true := decide_eq_true c107
                         clear c107
                         replace H := Option.bind_eq_some_iff.mp H
                         obtain ⟨t270, A1090, H⟩ := H
                         replace H : (if t269.size + t270.size ≤ 9223372036854775807 then (if 0 ≤ (wrap64 ((ji100) + 2)) then (if (wrap64 ((ji100) + 2)) < (a0_5.size : Int) then ((vitrineref11_two.f (wrap64 (257 * (wrap64 (bt a0_5 (wrap64 ((ji100) + 2))))))).bind fun t271 => (if (t269 ++ t270).size + t271.size ≤ 9223372036854775807 then (if ((t269 ++ t270) ++ t271).size + x8_91.size ≤ 9223372036854775807 then (some (((t269 ++ t270) ++ t271) ++ x8_91, 0)) else (none)) else (none))) else (none)) else (none)) else (none)) = some (r1, r2) := H
                         have A109 := Aside0.mk A1090
                         clear A1090
                         by_cases c110 : t269.size + t270.size ≤ 9223372036854775807
                         ·
                          as_aux_lemma =>
                          rw [if_pos c110] at H
                          have c110b0 := eq_true c110
                          have c110b1 : decide (t269.size + t270.size ≤ 9223372036854775807) = true := decide_eq_true c110
                          try have c110b2 : (9223372036854775807 < t269.size + t270.size) = False := eq_false (Nat.not_lt.2 c110)
                          obtain ⟨ji111, hji111⟩ : ∃ j_ : Int, (wrap64 ((ji100) + 2)) = j_ := ⟨_, rfl⟩
                          replace H : (if 0 ≤ (ji111) then (if (ji111) < (a0_5.size : Int) then ((vitrineref11_two.f (wrap64 (257 * (wrap64 (bt a0_5 (ji111)))))).bind fun t271 => (if (t269 ++ t270).size + t271.size ≤ 9223372036854775807 then (if ((t269 ++ t270) ++ t271).size + x8_91.size ≤ 9223372036854775807 then (some (((t269 ++ t270) ++ t271) ++ x8_91, 0)) else (none)) else (none))) else (none)) else (none)) = some (r1, r2) := by first | (rw [hji111] at H; exact H) | (simp only [hji111] at H ⊢; exact H)
                          (try rw [hji111] at A104)
                          (try rw [hji111] at A109)
                          have hji111w : (IntKind.i64.wrap ((ji100) + 2)) = ji111 := (i64_w _).trans hji111
                          by_cases c112 : 0 ≤ (ji111)
                          ·
                           as_aux_lemma =>
                           rw [if_pos c112] at H
                           have c112b0 : decide (0 ≤ (ji111)) = true := decide_eq_true c112
                           clear c112
                           by_cases c113 : (ji111) < (a0_5.size : Int)
                           ·
                            as_aux_lemma =>
                            rw [if_pos c113] at H
                            have c113b0 : decide ((ji111) < (a0_5.size : Int)) = true := decide_eq_true c113
                            clear c113
                            replace H := Option.bind_eq_some_iff.mp H
                            obtain ⟨t271, A1150, H⟩ := H
                            replace H : (if (t269 ++ t270).size + t271.size ≤ 9223372036854775807 then (if ((t269 ++ t270) ++ t271).size + x8_91.size ≤ 9223372036854775807 then (some (((t269 ++ t270) ++ t271) ++ x8_91, 0)) else (none)) else (none)) = some (r1, r2) := H
                            have A115 := Aside0.mk A1150
                            clear A1150
                            by_cases c116 : (t269 ++ t270).size + t271.size ≤ 9223372036854775807
                            ·
                             as_aux_lemma =>
                             rw [if_pos c116] at H
                             have c116b0 := eq_true c116
                             have c116b1 : decide ((t269 ++ t270).size + t271.size ≤ 9223372036854775807) = true := decide_eq_true c116
                             try have c116b2 : (9223372036854775807 < (t269 ++ t270).size + t271.size) = False := eq_false (Nat.not_lt.2 c116)
                             try (have c116b3 := c116b2; simp only [ByteArray.size_append] at c116b3)
                             by_cases c117 : ((t269 ++ t270) ++ t271).size + x8_91.size ≤ 9223372036854775807
                             ·
                              as_aux_lemma =>
                              rw [if_pos c117] at H
                              have c117b0 := eq_true c117
                              have c117b1 : decide (((t269 ++ t270) ++ t271).size + x8_91.size ≤ 9223372036854775807) = true := decide_eq_true c117
                              try have c117b2 : (9223372036854775807 < ((t269 ++ t270) ++ t271).size + x8_91.size) = False := eq_false (Nat.not_lt.2 c117)
                              try (have c117b3 := c117b2; simp only [ByteArray.size_append] at c117b3)
                              simp only [Option.some.injEq, Prod.mk.injEq] at H
                              obtain ⟨rfl, rfl⟩ := H
                              try go_wp2
                              have n0_ := Aside0.mk (blk_drew BK238.out)
                              have n1_ := Aside0.mk (below_drew1 HB.out)
                              clear BK238
                              clear HB
                              have BK238 := n0_
                              have HB := n1_
                              clear n0_ n1_
                              have p103 : 0 ≤ ((ji100) : Int) := of_decide_eq_true (by first | (with_reducible assumption) | assumption)
                              have q103 : (ji100) < (a0_5.size : Int) := of_decide_eq_true (by first | (with_reducible assumption) | assumption)
                              have hx103 := bt_at a0_5 (ji100)
                              replace p103 := eq_true p103
                              replace q103 := eq_true q103
                              have p108 : 0 ≤ ((ji105) : Int) := of_decide_eq_true (by first | (with_reducible assumption) | assumption)
                              have q108 : (ji105) < (a0_5.size : Int) := of_decide_eq_true (by first | (with_reducible assumption) | assumption)
                              have hx108 := bt_at a0_5 (ji105)
                              replace p108 := eq_true p108
                              replace q108 := eq_true q108
                              have p114 : 0 ≤ ((ji111) : Int) := of_decide_eq_true (by first | (with_reducible assumption) | assumption)
                              have q114 : (ji111) < (a0_5.size : Int) := of_decide_eq_true (by first | (with_reducible assumption) | assumption)
                              have hx114 := bt_at a0_5 (ji111)
                              replace p114 := eq_true p114
                              replace q114 := eq_true q114
                              refine start_ (n := 32) (S := fun w' => w'.cell? ⟨gb238, 0, none⟩ = some (.int .i64 a0_0) ∧ w'.cell? ⟨gb238, 1, none⟩ = some (.int .i64 a0_1) ∧ w'.cell? ⟨gb238, 2, none⟩ = some (.int .i64 a0_2) ∧ w'.cell? ⟨gb238, 3, none⟩ = some (.int .i64 a0_3) ∧ w'.cell? ⟨gb238, 4, none⟩ = some (.int .i64 a0_4) ∧ w'.cell? ⟨gb238, 5, none⟩ = some (.string a0_5) ∧ w'.cell? ⟨gb238, 6, none⟩ = some (.string a0_6) ∧ w'.cell? ⟨gb238, 7, none⟩ = some (.bool a0_7)) (ds := []) #[false, false, false, false, false, false, false, false, false, false, false, false, false, false, false, false, false, false, false, false, false, false, false, false, false, false, false, false, false, false, false, false] (by kernel_rfl) rfl rfl ⟨(blk_cell BK238.out 0).trans rfl, (blk_cell BK238.out 1).trans rfl, (blk_cell BK238.out 2).trans rfl, (blk_cell BK238.out 3).trans rfl, (blk_cell BK238.out 4).trans rfl, (blk_cell BK238.out 5).trans rfl, (blk_cell BK238.out 6).trans rfl, (blk_cell BK238.out 7).trans rfl⟩ (fun hHeld => ?_); refine with_tabW vitrineref11_Pixel.tab27 vitrineref11_Pixel.bits27 (fun HT_ HW_ => ?_)
                              generalize wc.drew = w118 at BK238 HB hHeld ⊢
                              refine pure_ (i := 0) (N := some 173) (v := ?_) (a' := ?_) #[true, false, false, false, false, false, false, false, false, false, false, false, false, false, false, false, false, false, false, false, false, false, false, false, false, false, false, false, false, false, false, false] rfl rfl (any_of HT_.out (by kernel_rfl)) (fun _ _ _ h => h) (Or.inl ⟨by rfl, ?_⟩) ?_ ?_
                              rotate_left
                              ·
                               intro w'
                               go_simp
                               with_reducible rfl
                              rotate_left
                              ·
                               simp only [Act.put, List.setIfInBounds_toArray, List.set_cons_zero, List.set_cons_succ, i64_w, i32_w]
                               rfl
                              refine pure_ (i := 2) (N := some 175) (v := ?_) (a' := ?_) #[true, false, true, false, false, false, false, false, false, false, false, false, false, false, false, false, false, false, false, false, false, false, false, false, false, false, false, false, false, false, false, false] rfl rfl (any_of HT_.out (by kernel_rfl)) (fun _ _ _ h => h) (Or.inl ⟨by rfl, ?_⟩) ?_ ?_
                              rotate_left
                              ·
                               intro w'
                               go_simp
                               with_reducible rfl
                              rotate_left
                              ·
                               simp only [Act.put, List.setIfInBounds_toArray, List.set_cons_zero, List.set_cons_succ, i64_w, i32_w]
                               rfl
                              refine pure_ (i := 3) (N := some 176) (v := ?_) (a' := ?_) #[true, false, true, true, false, false, false, false, false, false, false, false, false, false, false, false, false, false, false, false, false, false, false, false, false, false, false, false, false, false, false, false] rfl rfl (any_of HT_.out (by kernel_rfl)) (fun _ _ _ h => h) (Or.inl ⟨by rfl, ?_⟩) ?_ ?_
                              rotate_left
                              ·
                               intro w'
                               go_simp
                               with_reducible rfl
                              rotate_left
                              ·
                               simp only [Act.put, List.setIfInBounds_toArray, List.set_cons_zero, List.set_cons_succ, i64_w, i32_w]
                               rfl
                              refine pure_ (i := 8) (N := some 181) (v := ?_) (a' := ?_) #[true, false, true, true, false, false, false, false, true, false, false, false, false, false, false, false, false, false, false, false, false, false, false, false, false, false, false, false, false, false, false, false] rfl rfl (any_of HT_.out (by kernel_rfl)) (fun _ _ _ h => h) (Or.inl ⟨by rfl, ?_⟩) ?_ ?_
                              rotate_left
                              ·
                               intro w'
                               go_simp
                               with_reducible rfl
                              rotate_left
                              ·
                               simp only [Act.put, List.setIfInBounds_toArray, List.set_cons_zero, List.set_cons_succ, i64_w, i32_w]
                               rfl
                              refine pure_ (i := 10) (N := some 183) (v := ?_) (a' := ?_) #[true, false, true, true, false, false, false, false, true, false, true, false, false, false, false, false, false, false, false, false, false, false, false, false, false, false, false, false, false, false, false, false] rfl rfl (any_of HT_.out (by kernel_rfl)) (fun _ _ _ h => h) (Or.inl ⟨by rfl, ?_⟩) ?_ ?_
                              rotate_left
                              ·
                               intro w'
                               go_simp
                               with_reducible rfl
                              rotate_left
                              ·
                               simp only [Act.put, List.setIfInBounds_toArray, List.set_cons_zero, List.set_cons_succ, i64_w, i32_w]
                               rfl
                              refine pure_ (i := 11) (N := some 184) (v := ?_) (a' := ?_) #[true, false, true, true, false, false, false, false, true, false, true, true, false, false, false, false, false, false, false, false, false, false, false, false, false, false, false, false, false, false, false, false] rfl rfl (any_of HT_.out (by kernel_rfl)) (fun _ _ _ h => h) (Or.inl ⟨by rfl, ?_⟩) ?_ ?_
                              rotate_left
                              ·
                               intro w'
                               go_simp
                               with_reducible rfl
                              rotate_left
                              ·
                               simp only [Act.put, List.setIfInBounds_toArray, List.set_cons_zero, List.set_cons_succ, i64_w, i32_w]
                               rfl
                              refine pure_ (i := 12) (N := some 185) (v := ?_) (a' := ?_) #[true, false, true, true, false, false, false, false, true, false, true, true, true, false, false, false, false, false, false, false, false, false, false, false, false, false, false, false, false, false, false, false] rfl rfl (any_of HT_.out (by kernel_rfl)) (fun _ _ _ h => h) (Or.inl ⟨by rfl, ?_⟩) ?_ ?_
                              rotate_left
                              ·
                               intro w'
                               go_simp
                               with_reducible rfl
                              rotate_left
                              ·
                               simp only [Act.put, List.setIfInBounds_toArray, List.set_cons_zero, List.set_cons_succ, i64_w, i32_w]
                               rfl
                              refine pure_ (i := 18) (N := some 191) (v := ?_) (a' := ?_) #[true, false, true, true, false, false, false, false, true, false, true, true, true, false, false, false, false, false, true, false, false, false, false, false, false, false, false, false, false, false, false, false] rfl rfl (any_of HT_.out (by kernel_rfl)) (fun _ _ _ h => h) (Or.inl ⟨by rfl, ?_⟩) ?_ ?_
                              rotate_left
                              ·
                               intro w'
                               go_simp
                               with_reducible rfl
                              rotate_left
                              ·
                               simp only [Act.put, List.setIfInBounds_toArray, List.set_cons_zero, List.set_cons_succ, i64_w, i32_w]
                               rfl
                              refine pure_ (i := 20) (N := some 193) (v := ?_) (a' := ?_) #[true, false, true, true, false, false, false, false, true, false, true, true, true, false, false, false, false, false, true, false, true, false, false, false, false, false, false, false, false, false, false, false] rfl rfl (any_of HT_.out (by kernel_rfl)) (fun _ _ _ h => h) (Or.inl ⟨by rfl, ?_⟩) ?_ ?_
                              rotate_left
                              ·
                               intro w'
                               go_simp
                               with_reducible rfl
                              rotate_left
                              ·
                               simp only [Act.put, List.setIfInBounds_toArray, List.set_cons_zero, List.set_cons_succ, i64_w, i32_w]
                               rfl
                              refine pure_ (i := 21) (N := some 194) (v := ?_) (a' := ?_) #[true, false, true, true, false, false, false, false, true, false, true, true, true, false, false, false, false, false, true, false, true, true, false, false, false, false, false, false, false, false, false, false] rfl rfl (any_of HT_.out (by kernel_rfl)) (fun _ _ _ h => h) (Or.inl ⟨by rfl, ?_⟩) ?_ ?_
                              rotate_left
                              ·
                               intro w'
                               go_simp
                               with_reducible rfl
                              rotate_left
                              ·
                               simp only [Act.put, List.setIfInBounds_toArray, List.set_cons_zero, List.set_cons_succ, i64_w, i32_w]
                               rfl
                              refine pure_ (i := 22) (N := some 195) (v := ?_) (a' := ?_) #[true, false, true, true, false, false, false, false, true, false, true, true, true, false, false, false, false, false, true, false, true, true, true, false, false, false, false, false, false, false, false, false] rfl rfl (any_of HT_.out (by kernel_rfl)) (fun _ _ _ h => h) (Or.inl ⟨by rfl, ?_⟩) ?_ ?_
                              rotate_left
                              ·
                               intro w'
                               go_simp
                               with_reducible rfl
                              rotate_left
                              ·
                               simp only [Act.put, List.setIfInBounds_toArray, List.set_cons_zero, List.set_cons_succ, i64_w, i32_w]
                               rfl
                              refine pure_ (i := 28) (N := some 201) (v := ?_) (a' := ?_) #[true, false, true, true, false, false, false, false, true, false, true, true, true, false, false, false, false, false, true, false, true, true, true, false, false, false, false, false, true, false, false, false] rfl rfl (any_of HT_.out (by kernel_rfl)) (fun _ _ _ h => h) (Or.inl ⟨by rfl, ?_⟩) ?_ ?_
                              rotate_left
                              ·
                               intro w'
                               go_simp
                               with_reducible rfl
                              rotate_left
                              ·
                               simp only [Act.put, List.setIfInBounds_toArray, List.set_cons_zero, List.set_cons_succ, i64_w, i32_w]
                               rfl
                              refine take_ (i := 1) (N := some 174) (v := ?_) (a' := ?_) #[true, true, true, true, false, false, false, false, true, false, true, true, true, false, false, false, false, false, true, false, true, true, true, false, false, false, false, false, true, false, false, false] rfl rfl (take_ofW HT_.out HW_.out (by kernel_rfl)) (fun _ _ _ h => h) (Or.inl ⟨by rfl, ?_⟩) hHeld ?_ ?_
                              rotate_left
                              ·
                               rintro w' ⟨s0, s1, s2, s3, s4, s5, s6, s7⟩
                               go_simp
                               with_reducible rfl
                              rotate_left
                              ·
                               simp only [Act.put, List.setIfInBounds_toArray, List.set_cons_zero, List.set_cons_succ, i64_w, i32_w]
                               rfl
                              refine take_ (i := 4) (N := some 177) (v := ?_) (a' := ?_) #[true, true, true, true, true, false, false, false, true, false, true, true, true, false, false, false, false, false, true, false, true, true, true, false, false, false, false, false, true, false, false, false] rfl rfl (take_ofW HT_.out HW_.out (by kernel_rfl)) (fun _ _ _ h => h) (Or.inl ⟨by rfl, ?_⟩) hHeld ?_ ?_
                              rotate_left
                              ·
                               rintro w' ⟨s0, s1, s2, s3, s4, s5, s6, s7⟩
                               go_simp
                               with_reducible rfl
                              rotate_left
                              ·
                               simp only [Act.put, List.setIfInBounds_toArray, List.set_cons_zero, List.set_cons_succ, i64_w, i32_w]
                               rfl
                              refine pure_ (i := 5) (N := some 178) (v := ?_) (a' := ?_) #[true, true, true, true, true, true, false, false, true, false, true, true, true, false, false, false, false, false, true, false, true, true, true, false, false, false, false, false, true, false, false, false] rfl rfl (any_of HT_.out (by kernel_rfl)) (fun _ _ _ h => h) (Or.inl ⟨by rfl, ?_⟩) ?_ ?_
                              rotate_left
                              ·
                               intro w'
                               go_simp
                               with_reducible rfl
                              rotate_left
                              ·
                               simp only [Act.put, List.setIfInBounds_toArray, List.set_cons_zero, List.set_cons_succ, i64_w, i32_w]
                               rfl
                              refine pure_ (i := 6) (N := some 179) (v := ?_) (a' := ?_) #[true, true, true, true, true, true, true, false, true, false, true, true, true, false, false, false, false, false, true, false, true, true, true, false, false, false, false, false, true, false, false, false] rfl rfl (any_of HT_.out (by kernel_rfl)) (fun _ _ _ h => h) (Or.inl ⟨by rfl, ?_⟩) ?_ ?_
                              rotate_left
                              ·
                               intro w'
                               go_simp
                               with_reducible rfl
                              rotate_left
                              ·
                               simp only [Act.put, List.setIfInBounds_toArray, List.set_cons_zero, List.set_cons_succ, i64_w, i32_w]
                               rfl
                              refine take_ (i := 9) (N := some 182) (v := ?_) (a' := ?_) #[true, true, true, true, true, true, true, false, true, true, true, true, true, false, false, false, false, false, true, false, true, true, true, false, false, false, false, false, true, false, false, false] rfl rfl (take_ofW HT_.out HW_.out (by kernel_rfl)) (fun _ _ _ h => h) (Or.inl ⟨by rfl, ?_⟩) hHeld ?_ ?_
                              rotate_left
                              ·
                               rintro w' ⟨s0, s1, s2, s3, s4, s5, s6, s7⟩
                               go_simp
                               with_reducible rfl
                              rotate_left
                              ·
                               simp only [Act.put, List.setIfInBounds_toArray, List.set_cons_zero, List.set_cons_succ, i64_w, i32_w]
                               rfl
                              refine take_ (i := 13) (N := some 186) (v := ?_) (a' := ?_) #[true, true, true, true, true, true, true, false, true, true, true, true, true, true, false, false, false, false, true, false, true, true, true, false, false, false, false, false, true, false, false, false] rfl rfl (take_ofW HT_.out HW_.out (by kernel_rfl)) (fun _ _ _ h => h) (Or.inl ⟨by rfl, ?_⟩) hHeld ?_ ?_
                              rotate_left
                              ·
                               rintro w' ⟨s0, s1, s2, s3, s4, s5, s6, s7⟩
                               go_simp
                               with_reducible rfl
                              rotate_left
                              ·
                               simp only [Act.put, List.setIfInBounds_toArray, List.set_cons_zero, List.set_cons_succ, i64_w, i32_w]
                               rfl
                              refine pure_ (i := 14) (N := some 187) (v := ?_) (a' := ?_) #[true, true, true, true, true, true, true, false, true, true, true, true, true, true, true, false, false, false, true, false, true, true, true, false, false, false, false, false, true, false, false, false] rfl rfl (any_of HT_.out (by kernel_rfl)) (fun _ _ _ h => h) (Or.inl ⟨by rfl, ?_⟩) ?_ ?_
                              rotate_left
                              ·
                               intro w'
                               go_simp
                               with_reducible rfl
                              rotate_left
                              ·
                               simp only [Act.put, List.setIfInBounds_toArray, List.set_cons_zero, List.set_cons_succ, i64_w, i32_w]
                               rfl
                              refine pure_ (i := 15) (N := some 188) (v := ?_) (a' := ?_) #[true, true, true, true, true, true, true, false, true, true, true, true, true, true, true, true, false, false, true, false, true, true, true, false, false, false, false, false, true, false, false, false] rfl rfl (any_of HT_.out (by kernel_rfl)) (fun _ _ _ h => h) (Or.inl ⟨by rfl, ?_⟩) ?_ ?_
                              rotate_left
                              ·
                               intro w'
                               go_simp
                               with_reducible rfl
                              rotate_left
                              ·
                               simp only [Act.put, List.setIfInBounds_toArray, List.set_cons_zero, List.set_cons_succ, i64_w, i32_w]
                               rfl
                              refine take_ (i := 19) (N := some 192) (v := ?_) (a' := ?_) #[true, true, true, true, true, true, true, false, true, true, true, true, true, true, true, true, false, false, true, true, true, true, true, false, false, false, false, false, true, false, false, false] rfl rfl (take_ofW HT_.out HW_.out (by kernel_rfl)) (fun _ _ _ h => h) (Or.inl ⟨by rfl, ?_⟩) hHeld ?_ ?_
                              rotate_left
                              ·
                               rintro w' ⟨s0, s1, s2, s3, s4, s5, s6, s7⟩
                               go_simp
                               with_reducible rfl
                              rotate_left
                              ·
                               simp only [Act.put, List.setIfInBounds_toArray, List.set_cons_zero, List.set_cons_succ, i64_w, i32_w]
                               rfl
                              refine take_ (i := 23) (N := some 196) (v := ?_) (a' := ?_) #[true, true, true, true, true, true, true, false, true, true, true, true, true, true, true, true, false, false, true, true, true, true, true, true, false, false, false, false, true, false, false, false] rfl rfl (take_ofW HT_.out HW_.out (by kernel_rfl)) (fun _ _ _ h => h) (Or.inl ⟨by rfl, ?_⟩) hHeld ?_ ?_
                              rotate_left
                              ·
                               rintro w' ⟨s0, s1, s2, s3, s4, s5, s6, s7⟩
                               go_simp
                               with_reducible rfl
                              rotate_left
                              ·
                               simp only [Act.put, List.setIfInBounds_toArray, List.set_cons_zero, List.set_cons_succ, i64_w, i32_w]
                               rfl
                              refine pure_ (i := 24) (N := some 197) (v := ?_) (a' := ?_) #[true, true, true, true, true, true, true, false, true, true, true, true, true, true, true, true, false, false, true, true, true, true, true, true, true, false, false, false, true, false, false, false] rfl rfl (any_of HT_.out (by kernel_rfl)) (fun _ _ _ h => h) (Or.inl ⟨by rfl, ?_⟩) ?_ ?_
                              rotate_left
                              ·
                               intro w'
                               go_simp
                               with_reducible rfl
                              rotate_left
                              ·
                               simp only [Act.put, List.setIfInBounds_toArray, List.set_cons_zero, List.set_cons_succ, i64_w, i32_w]
                               rfl
                              refine pure_ (i := 25) (N := some 198) (v := ?_) (a' := ?_) #[true, true, true, true, true, true, true, false, true, true, true, true, true, true, true, true, false, false, true, true, true, true, true, true, true, true, false, false, true, false, false, false] rfl rfl (any_of HT_.out (by kernel_rfl)) (fun _ _ _ h => h) (Or.inl ⟨by rfl, ?_⟩) ?_ ?_
                              rotate_left
                              ·
                               intro w'
                               go_simp
                               with_reducible rfl
                              rotate_left
                              ·
                               simp only [Act.put, List.setIfInBounds_toArray, List.set_cons_zero, List.set_cons_succ, i64_w, i32_w]
                               rfl
                              refine one_ (i := 7) (N := some 180) #[true, true, true, true, true, true, true, true, true, true, true, true, true, true, true, true, false, false, true, true, true, true, true, true, true, true, false, false, true, false, false, false] rfl rfl (one_of HT_.out (by kernel_rfl)) (by decide) (fun K hK => ?_)
                              refine goes_ Try.func30 (by kernel_rfl) rfl #[.int .i64 (wrap64 (257 * (wrap64 (bt a0_5 (ji100)))))] (by rfl) rfl rfl (by (try simp only [List.map_toArray, List.map_cons, List.map_nil]); first | done | (simp only [hji100]; rfl) | rfl | (simp only [List.length_drop, List.length_take]; rfl)) ?_
                              with_reducible refine (vitrineref11_two.calls (wrap64 (257 * (wrap64 (bt a0_5 (ji100))))) t269 _ A104.out).mono ?_
                              rintro e w119 ⟨rfl, hb⟩
                              refine ⟨_, rfl, ?_⟩
                              have n0_ := Aside0.mk (blk_below (g := gb238) (o := .cells #[.int .i64 a0_0, .int .i64 a0_1, .int .i64 a0_2, .int .i64 a0_3, .int .i64 a0_4, .string a0_5, .string a0_6, .bool a0_7] 38 (0, 0)) (by (with_reducible repeat (first | refine blk_drewN ?_ _ | refine blk_drew ?_ | refine blk_alloc ?_ _)); exact BK238.out) hb)
                              have n1_ := Aside0.mk (below_step (by repeat (first | (with_reducible first | exact HB.out | apply below_alloc | apply pw_below_drewN | apply below_drew1 | refine below_set ?_ GE238.out) | exact HB.out)) hb)
                              clear BK238
                              clear HB
                              have BK238 := n0_
                              have HB := n1_
                              clear n0_ n1_
                              (try clear hb)
                              (try clear hb2)
                              (try clear hk)
                              (try clear hi)
                              refine hK.out _ _ ⟨(blk_cell BK238.out 0).trans rfl, (blk_cell BK238.out 1).trans rfl, (blk_cell BK238.out 2).trans rfl, (blk_cell BK238.out 3).trans rfl, (blk_cell BK238.out 4).trans rfl, (blk_cell BK238.out 5).trans rfl, (blk_cell BK238.out 6).trans rfl, (blk_cell BK238.out 7).trans rfl⟩ (fun hHeld => ?_)
                              clear hK K
                              refine norm_ (a' := ?_) ?_ ?_
                              rotate_left
                              ·
                               show Act.put _ (some 180) _ = _
                               simp only [Act.put, List.setIfInBounds_toArray, List.set_cons_zero, List.set_cons_succ, i64_w, i32_w]
                               rfl
                              refine one_ (i := 16) (N := some 189) #[true, true, true, true, true, true, true, true, true, true, true, true, true, true, true, true, true, false, true, true, true, true, true, true, true, true, false, false, true, false, false, false] rfl rfl (one_of HT_.out (by kernel_rfl)) (by decide) (fun K hK => ?_)
                              refine goes_ Try.func30 (by kernel_rfl) rfl #[.int .i64 (wrap64 (257 * (wrap64 (bt a0_5 (ji105)))))] (by rfl) rfl rfl (by (try simp only [List.map_toArray, List.map_cons, List.map_nil]); first | done | (simp only [hji105]; rfl) | rfl | (simp only [List.length_drop, List.length_take]; rfl)) ?_
                              with_reducible refine (vitrineref11_two.calls (wrap64 (257 * (wrap64 (bt a0_5 (ji105))))) t270 _ A109.out).mono ?_
                              rintro e w120 ⟨rfl, hb⟩
                              refine ⟨_, rfl, ?_⟩
                              have n0_ := Aside0.mk (blk_below (g := gb238) (o := .cells #[.int .i64 a0_0, .int .i64 a0_1, .int .i64 a0_2, .int .i64 a0_3, .int .i64 a0_4, .string a0_5, .string a0_6, .bool a0_7] 38 (0, 0)) (by (with_reducible repeat (first | refine blk_drewN ?_ _ | refine blk_drew ?_ | refine blk_alloc ?_ _)); exact BK238.out) hb)
                              have n1_ := Aside0.mk (below_step (by repeat (first | (with_reducible first | exact HB.out | apply below_alloc | apply pw_below_drewN | apply below_drew1 | refine below_set ?_ GE238.out) | exact HB.out)) hb)
                              clear BK238
                              clear HB
                              have BK238 := n0_
                              have HB := n1_
                              clear n0_ n1_
                              (try clear hb)
                              (try clear hb2)
                              (try clear hk)
                              (try clear hi)
                              refine hK.out _ _ ⟨(blk_cell BK238.out 0).trans rfl, (blk_cell BK238.out 1).trans rfl, (blk_cell BK238.out 2).trans rfl, (blk_cell BK238.out 3).trans rfl, (blk_cell BK238.out 4).trans rfl, (blk_cell BK238.out 5).trans rfl, (blk_cell BK238.out 6).trans rfl, (blk_cell BK238.out 7).trans rfl⟩ (fun hHeld => ?_)
                              clear hK K
                              refine norm_ (a' := ?_) ?_ ?_
                              rotate_left
                              ·
                               show Act.put _ (some 189) _ = _
                               simp only [Act.put, List.setIfInBounds_toArray, List.set_cons_zero, List.set_cons_succ, i64_w, i32_w]
                               rfl
                              refine pure_ (i := 17) (N := some 190) (v := ?_) (a' := ?_) #[true, true, true, true, true, true, true, true, true, true, true, true, true, true, true, true, true, true, true, true, true, true, true, true, true, true, false, false, true, false, false, false] rfl rfl (any_of HT_.out (by kernel_rfl)) (fun _ _ _ h => h) (Or.inl ⟨by rfl, ?_⟩) ?_ ?_
                              rotate_left
                              ·
                               intro w'
                               go_simp
                               with_reducible rfl
                              rotate_left
                              ·
                               simp only [Act.put, List.setIfInBounds_toArray, List.set_cons_zero, List.set_cons_succ, i64_w, i32_w]
                               rfl
                              refine one_ (i := 26) (N := some 199) #[true, true, true, true, true, true, true, true, true, true, true, true, true, true, true, true, true, true, true, true, true, true, true, true, true, true, true, false, true, false, false, false] rfl rfl (one_of HT_.out (by kernel_rfl)) (by decide) (fun K hK => ?_)
                              refine goes_ Try.func30 (by kernel_rfl) rfl #[.int .i64 (wrap64 (257 * (wrap64 (bt a0_5 (ji111)))))] (by rfl) rfl rfl (by (try simp only [List.map_toArray, List.map_cons, List.map_nil]); first | done | (simp only [hji111]; rfl) | rfl | (simp only [List.length_drop, List.length_take]; rfl)) ?_
                              with_reducible refine (vitrineref11_two.calls (wrap64 (257 * (wrap64 (bt a0_5 (ji111))))) t271 _ A115.out).mono ?_
                              rintro e w121 ⟨rfl, hb⟩
                              refine ⟨_, rfl, ?_⟩
                              have n0_ := Aside0.mk (blk_below (g := gb238) (o := .cells #[.int .i64 a0_0, .int .i64 a0_1, .int .i64 a0_2, .int .i64 a0_3, .int .i64 a0_4, .string a0_5, .string a0_6, .bool a0_7] 38 (0, 0)) (by (with_reducible repeat (first | refine blk_drewN ?_ _ | refine blk_drew ?_ | refine blk_alloc ?_ _)); exact BK238.out) hb)
                              have n1_ := Aside0.mk (below_step (by repeat (first | (with_reducible first | exact HB.out | apply below_alloc | apply pw_below_drewN | apply below_drew1 | refine below_set ?_ GE238.out) | exact HB.out)) hb)
                              clear BK238
                              clear HB
                              have BK238 := n0_
                              have HB := n1_
                              clear n0_ n1_
                              (try clear hb)
                              (try clear hb2)
                              (try clear hk)
                              (try clear hi)
                              refine hK.out _ _ ⟨(blk_cell BK238.out 0).trans rfl, (blk_cell BK238.out 1).trans rfl, (blk_cell BK238.out 2).trans rfl, (blk_cell BK238.out 3).trans rfl, (blk_cell BK238.out 4).trans rfl, (blk_cell BK238.out 5).trans rfl, (blk_cell BK238.out 6).trans rfl, (blk_cell BK238.out 7).trans rfl⟩ (fun hHeld => ?_)
                              clear hK K
                              refine norm_ (a' := ?_) ?_ ?_
                              rotate_left
                              ·
                               show Act.put _ (some 199) _ = _
                               simp only [Act.put, List.setIfInBounds_toArray, List.set_cons_zero, List.set_cons_succ, i64_w, i32_w]
                               rfl
                              refine pure_ (i := 27) (N := some 200) (v := ?_) (a' := ?_) #[true, true, true, true, true, true, true, true, true, true, true, true, true, true, true, true, true, true, true, true, true, true, true, true, true, true, true, true, true, false, false, false] rfl rfl (any_of HT_.out (by kernel_rfl)) (fun _ _ _ h => h) (Or.inl ⟨by rfl, ?_⟩) ?_ ?_
                              rotate_left
                              ·
                               intro w'
                               go_simp
                               with_reducible rfl
                              rotate_left
                              ·
                               simp only [Act.put, List.setIfInBounds_toArray, List.set_cons_zero, List.set_cons_succ, i64_w, i32_w]
                               rfl
                              refine pure_ (i := 29) (N := some 202) (v := ?_) (a' := ?_) #[true, true, true, true, true, true, true, true, true, true, true, true, true, true, true, true, true, true, true, true, true, true, true, true, true, true, true, true, true, true, false, false] rfl rfl (any_of HT_.out (by kernel_rfl)) (fun _ _ _ h => h) (Or.inl ⟨by rfl, ?_⟩) ?_ ?_
                              rotate_left
                              ·
                               intro w'
                               go_simp
                               with_reducible rfl
                              rotate_left
                              ·
                               simp only [Act.put, List.setIfInBounds_toArray, List.set_cons_zero, List.set_cons_succ, i64_w, i32_w]
                               rfl
                              refine pure_ (i := 30) (N := some 4) (v := ?_) (a' := ?_) #[true, true, true, true, true, true, true, true, true, true, true, true, true, true, true, true, true, true, true, true, true, true, true, true, true, true, true, true, true, true, true, false] rfl rfl (any_of HT_.out (by kernel_rfl)) (fun _ _ _ h => h) (Or.inl ⟨by rfl, ?_⟩) ?_ ?_
                              rotate_left
                              ·
                               intro w'
                               go_simp
                               with_reducible rfl
                              rotate_left
                              ·
                               simp only [Act.put, List.setIfInBounds_toArray, List.set_cons_zero, List.set_cons_succ, i64_w, i32_w]
                               rfl
                              refine pure_ (i := 31) (N := some 5) (v := ?_) (a' := ?_) #[true, true, true, true, true, true, true, true, true, true, true, true, true, true, true, true, true, true, true, true, true, true, true, true, true, true, true, true, true, true, true, true] rfl rfl (any_of HT_.out (by kernel_rfl)) (fun _ _ _ h => h) (Or.inl ⟨by rfl, ?_⟩) ?_ ?_
                              rotate_left
                              ·
                               intro w'
                               go_simp
                               with_reducible rfl
                              rotate_left
                              ·
                               simp only [Act.put, List.setIfInBounds_toArray, List.set_cons_zero, List.set_cons_succ, i64_w, i32_w]
                               rfl
                              refine done_ (done_of HT_.out (by kernel_rfl)) ?_
                              try go_wp2
                              go_ret2
                              exact ⟨by first | rfl | (simp [errW_none, errW_some] <;> rfl) | (simp only [← hji100, ← hji105, ← hji111]; first | rfl | (simp [errW_none, errW_some] <;> rfl)) | (simp [*, errW_none, errW_some] <;> rfl), by repeat (first | (with_reducible first | exact HB.out | apply below_alloc | apply pw_below_drewN | apply below_drew1 | refine below_set ?_ GE238.out) | exact HB.out)⟩
                             ·
                              as_aux_lemma =>
                              rw [if_neg c117] at H
                              exact absurd H (by simp)
                            ·
                             as_aux_lemma =>
                             rw [if_neg c116] at H
                             exact absurd H (by simp)
                           ·
                            as_aux_lemma =>
                            rw [if_neg c113] at H
                            exact absurd H (by simp)
                          ·
                           as_aux_lemma =>
                           rw [if_neg c112] at H
                           exact absurd H (by simp)
                         ·
                          as_aux_lemma =>
                          rw [if_neg c110] at H
                          exact absurd H (by simp)
                        ·
                         as_aux_lemma =>
                         rw [if_neg c107] at H
                         exact absurd H (by simp)
                       ·
                        as_aux_lemma =>
                        rw [if_neg c106] at H
                        exact absurd H (by simp)
                      ·
                       as_aux_lemma =>
                       rw [if_neg c102] at H
                       exact absurd H (by simp)
                     ·
                      as_aux_lemma =>
                      rw [if_neg c101] at H
                      exact absurd H (by simp)
               ·
                as_aux_lemma =>
                rw [if_neg c84] at H
                exact absurd H (by simp)

end Go.Proofs.Ytpccfanjdbenlaa.PM11
