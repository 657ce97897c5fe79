/- Printed for this claim by a program of this session over the kit's print program: the Go functions as Lean functions, and proofs that the calls come to these answers. No conditions. -/
import Derived.Test.YtejljcglbkjgkaaSH
import Derived.Test.YtejljcglbkjgkaaSPL12x3
import Derived.Test.YtejljcglbkjgkaaSPL12x41
import Derived.Test.YtejljcglbkjgkaaSPL12x26
namespace Go.Proofs.Ytejljcglbkjgkaa.PL12
open Go.RowKit Go.Proofs.YtejljcglbkjgkaaW.PrintWords Go.Proofs.YtejljcglbkjgkaaW.PrintLast Go.Proofs.YtejljcglbkjgkaaW.PrintMore
attribute [local go_sem] max2_int min2_int max_two min_two max_three min_three max_four min_four   -- for this text's walks alone
set_option linter.unusedVariables false
set_option linter.unusedSimpArgs false

mutual
def vitrineref09_Pick.l0 : Nat → Int → ByteArray → ByteArray → Int → Int → Int → Option (Int × Int)
 | 0, _, _, _, _, _, _ => none
 | k + 1, x0, x1, x2, x8, x9, x10 => if x10 ≤ 4 then ((vitrineref09_Do.f k x0 x10 x1 x2).bind fun bt436 => (if bt436.2 = 0 then (vitrineref09_Pick.l1 k x0 x1 x2 x8 x9 x10 bt436.1 0 0) else (some (0, bt436.2)))) else (some (x8, 0))
def vitrineref09_Pick.l1 : Nat → Int → ByteArray → ByteArray → Int → Int → Int → ByteArray → Int → Int → Option (Int × Int)
 | 0, _, _, _, _, _, _, _, _, _ => none
 | k + 1, x0, x1, x2, x8, x9, x10, x11, x13, x14 => if x14 < (x11.size : Int) then (if 0 ≤ x14 then (if (wrap64 (bt x11 x14)) > 128 then (vitrineref09_Pick.l1 k x0 x1 x2 x8 x9 x10 x11 (wrap64 (x13 + (wrap64 (256 - (wrap64 (bt x11 x14)))))) (wrap64 (x14 + 1))) else (vitrineref09_Pick.l1 k x0 x1 x2 x8 x9 x10 x11 (wrap64 (x13 + (wrap64 (bt x11 x14)))) (wrap64 (x14 + 1)))) else (none)) else (if x10 = 0 then (vitrineref09_Pick.l0 k x0 x1 x2 x10 x13 (wrap64 (x10 + 1))) else (if x13 < x9 then (vitrineref09_Pick.l0 k x0 x1 x2 x10 x13 (wrap64 (x10 + 1))) else (vitrineref09_Pick.l0 k x0 x1 x2 x8 x9 (wrap64 (x10 + 1)))))
end
def vitrineref09_Pick.f (k : Nat) (a0 : Int) (a1 : ByteArray) (a2 : ByteArray) : Option (Int × Int) := vitrineref09_Pick.l0 k a0 a1 a2 0 0 0
set_option maxHeartbeats 40000000 in
set_option maxRecDepth 100000 in
theorem vitrineref09_Pick.calls (k : Nat) (a0 : Int) (a1 : ByteArray) (a2 : ByteArray) (r1 : Int) (r2 : Int) (w : World) (h : vitrineref09_Pick.f k a0 a1 a2 = some (r1, r2)) :
  Calls Try.prog 34 #[.int .i64 a0, .string a1, .string a2] w fun e w' => e = .returned (.tuple #[.int .i64 r1, .int .i64 r2]) ∧ Below w.heap.size w w' := by
 have HB := Aside0.mk (Below.refl w.heap.size w)
 have H : (vitrineref09_Pick.l0 k a0 a1 a2 0 0 0) = some (r1, r2) := h
 clear h
 have H' := Aside0.mk H
 clear H
 go_enter Try.func34, Try.ntmps34
 go_wp2
 go_loopg [8, 9, 10] k (fun kq v8 v9 v10 w' => ∃ (x8_1 : Int) (x9_1 : Int) (x10_1 : Int), v8 = .int .i64 x8_1 ∧ v9 = .int .i64 x9_1 ∧ v10 = .int .i64 x10_1 ∧ Aside0 (vitrineref09_Pick.l0 kq a0 a1 a2 x8_1 x9_1 x10_1 = some (r1, r2)) ∧ Aside0 (kq ≤ k) ∧ Aside0 (Below w.heap.size w w'))
 case atStart => exact ⟨(0), (0), (0), (by first | rfl | (simp; done) | (simp [*]; done)), (by first | rfl | (simp; done) | (simp [*]; done)), (by first | rfl | (simp; done) | (simp [*]; done)), H', ⟨Nat.le_refl _⟩, ⟨hz HB⟩⟩
 case round =>
  clear H'
  obtain ⟨x8_1, x9_1, x10_1, rfl, rfl, rfl, HA, HK1, HB⟩ := hrel
  cases gk with
  | zero => exact absurd HA.out (by simp [vitrineref09_Pick.l0])
  | succ k1 =>
   have H := HA.out
   clear HA
   simp only [vitrineref09_Pick.l0] at H
   by_cases c4 : x10_1 ≤ 4
   ·rw [if_pos c4] at H
    have c4b0 : decide (x10_1 ≤ 4) = true := decide_eq_true c4
    clear c4
    replace H := Option.bind_eq_some_iff.mp H
    obtain ⟨⟨t436, t437⟩, A50, H⟩ := H
    replace H : (if t437 = 0 then (vitrineref09_Pick.l1 k1 a0 a1 a2 x8_1 x9_1 x10_1 t436 0 0) else (some (0, t437))) = some (r1, r2) := H
    have A5 := Aside0.mk A50
    clear A50
    by_cases c6 : t437 = 0
    ·rw [if_pos c6] at H
     have c6b0 : (t437 == 0) = true := beq_iff_eq.mpr c6
     have c6b1 : (t437 != 0) = false := bne_eq_false_iff_eq.mpr c6
     clear c6
     have H' := Aside0.mk H
     clear H
     go_wp2_with (first | ((with_reducible refine gate_callee (f := 35) rfl ?_); refine gz 25 Try.func35 #[.int .i64 a0, .int .i64 x10_1, .string a1, .string a2] ?_; (with_reducible refine (vitrineref09_Do.calls k1 a0 x10_1 a1 a2 t436 t437 _ A5.out).mono ?_); rintro e w7 ⟨rfl, hb⟩; refine ⟨_, rfl, ?_⟩; have n0_ := Aside0.mk (below_step (hz HB) hb); clear HB; have HB := n0_; clear n0_; (try clear hb); (try clear hb2); (try clear hk); (try clear hi)))
     go_loopg [13, 14] k1 (fun kq v13 v14 w' => ∃ (x13_2 : Int) (x14_2 : Int), v13 = .int .i64 x13_2 ∧ v14 = .int .i64 x14_2 ∧ Aside0 (vitrineref09_Pick.l1 kq a0 a1 a2 x8_1 x9_1 x10_1 t436 x13_2 x14_2 = some (r1, r2)) ∧ Aside0 (kq ≤ k1) ∧ Aside0 (Below w.heap.size w w'))
     case atStart => exact ⟨(0), (0), (by first | rfl | (simp; done) | (simp [*]; done)), (by first | rfl | (simp; done) | (simp [*]; done)), H', ⟨Nat.le_refl _⟩, ⟨hz HB⟩⟩
     case round =>
      clear H'
      try clear c4
      try clear c4b0
      try clear c6
      try clear c6b0
      try clear c6b1
      obtain ⟨x13_2, x14_2, rfl, rfl, HA, HK2, HB⟩ := hrel
      cases gk with
      | zero => exact absurd HA.out (by simp [vitrineref09_Pick.l1])
      | succ k2 =>
       have H := HA.out
       clear HA
       simp only [vitrineref09_Pick.l1] at H
       by_cases c8 : x14_2 < (t436.size : Int)
       ·rw [if_pos c8] at H
        have c8b0 : decide (x14_2 < (t436.size : Int)) = true := decide_eq_true c8
        clear c8
        by_cases c9 : 0 ≤ x14_2
        ·rw [if_pos c9] at H
         have c9b0 : decide (0 ≤ x14_2) = true := decide_eq_true c9
         clear c9
         by_cases c11 : (wrap64 (bt t436 x14_2)) > 128
         ·rw [if_pos c11] at H
          have c11b0 : decide (128 < (wrap64 (bt t436 x14_2))) = true := decide_eq_true c11
          clear c11
          have H' := Aside0.mk H
          clear H
          have p10 : 0 ≤ (x14_2 : Int) := of_decide_eq_true (by first | (with_reducible assumption) | assumption)
          have q10 : x14_2 < (t436.size : Int) := of_decide_eq_true (by first | (with_reducible assumption) | assumption)
          have hx10 := bt_at t436 x14_2
          replace p10 := eq_true p10
          replace q10 := eq_true q10
          go_wp2
          go_roundg k2
          case measure => have := HK1.out; have := HK2.out; omega
          case rel => exact ⟨(wrap64 (x13_2 + (wrap64 (256 - (wrap64 (bt t436 x14_2)))))), (wrap64 (x14_2 + 1)), (by first | rfl | (simp; done) | (simp [*]; done)), (by first | rfl | (simp; done) | (simp [*]; done)), H', ⟨by have := HK1.out; have := HK2.out; omega⟩, ⟨hz HB⟩⟩
         ·rw [if_neg c11] at H
          have c11b0 : decide (128 < (wrap64 (bt t436 x14_2))) = false := decide_eq_false c11
          clear c11
          have H' := Aside0.mk H
          clear H
          have p10 : 0 ≤ (x14_2 : Int) := of_decide_eq_true (by first | (with_reducible assumption) | assumption)
          have q10 : x14_2 < (t436.size : Int) := of_decide_eq_true (by first | (with_reducible assumption) | assumption)
          have hx10 := bt_at t436 x14_2
          replace p10 := eq_true p10
          replace q10 := eq_true q10
          go_wp2
          go_roundg k2
          case measure => have := HK1.out; have := HK2.out; omega
          case rel => exact ⟨(wrap64 (x13_2 + (wrap64 (bt t436 x14_2)))), (wrap64 (x14_2 + 1)), (by first | rfl | (simp; done) | (simp [*]; done)), (by first | rfl | (simp; done) | (simp [*]; done)), H', ⟨by have := HK1.out; have := HK2.out; omega⟩, ⟨hz HB⟩⟩
        ·rw [if_neg c9] at H
         exact absurd H (by simp)
       ·rw [if_neg c8] at H
        have c8b0 : decide (x14_2 < (t436.size : Int)) = false := decide_eq_false c8
        clear c8
        by_cases c12 : x10_1 = 0
        ·rw [if_pos c12] at H
         have c12b0 : (x10_1 == 0) = true := beq_iff_eq.mpr c12
         have c12b1 : (x10_1 != 0) = false := bne_eq_false_iff_eq.mpr c12
         clear c12
         have H' := Aside0.mk H
         clear H
         go_wp2
         go_roundg k2
         case measure => have := HK1.out; have := HK2.out; omega
         case rel => exact ⟨(x10_1), (x13_2), (wrap64 (x10_1 + 1)), (by first | rfl | (simp; done) | (simp [*]; done)), (by first | rfl | (simp; done) | (simp [*]; done)), (by first | rfl | (simp; done) | (simp [*]; done)), H', ⟨by have := HK1.out; have := HK2.out; omega⟩, ⟨hz HB⟩⟩
        ·rw [if_neg c12] at H
         have c12b0 : (x10_1 == 0) = false := beq_eq_false_iff_ne.mpr c12
         have c12b1 : (x10_1 != 0) = true := bne_iff_ne.mpr c12
         by_cases c13 : x13_2 < x9_1
         ·rw [if_pos c13] at H
          have c13b0 : decide (x13_2 < x9_1) = true := decide_eq_true c13
          clear c13
          have H' := Aside0.mk H
          clear H
          go_wp2
          go_roundg k2
          case measure => have := HK1.out; have := HK2.out; omega
          case rel => exact ⟨(x10_1), (x13_2), (wrap64 (x10_1 + 1)), (by first | rfl | (simp; done) | (simp [*]; done)), (by first | rfl | (simp; done) | (simp [*]; done)), (by first | rfl | (simp; done) | (simp [*]; done)), H', ⟨by have := HK1.out; have := HK2.out; omega⟩, ⟨hz HB⟩⟩
         ·rw [if_neg c13] at H
          have c13b0 : decide (x13_2 < x9_1) = false := decide_eq_false c13
          clear c13
          have H' := Aside0.mk H
          clear H
          go_wp2
          go_roundg k2
          case measure => have := HK1.out; have := HK2.out; omega
          case rel => exact ⟨(x8_1), (x9_1), (wrap64 (x10_1 + 1)), (by first | rfl | (simp; done) | (simp [*]; done)), (by first | rfl | (simp; done) | (simp [*]; done)), (by first | rfl | (simp; done) | (simp [*]; done)), H', ⟨by have := HK1.out; have := HK2.out; omega⟩, ⟨hz HB⟩⟩
    ·rw [if_neg c6] at H
     have c6b0 : (t437 == 0) = false := beq_eq_false_iff_ne.mpr c6
     have c6b1 : (t437 != 0) = true := bne_iff_ne.mpr c6
     simp only [Option.some.injEq, Prod.mk.injEq] at H
     obtain ⟨rfl, rfl⟩ := H
     go_wp2_with (first | ((with_reducible refine gate_callee (f := 35) rfl ?_); refine gz 25 Try.func35 #[.int .i64 a0, .int .i64 x10_1, .string a1, .string a2] ?_; (with_reducible refine (vitrineref09_Do.calls k1 a0 x10_1 a1 a2 t436 t437 _ A5.out).mono ?_); rintro e w14 ⟨rfl, hb⟩; refine ⟨_, rfl, ?_⟩; have n0_ := Aside0.mk (below_step (hz HB) hb); clear HB; have HB := n0_; clear n0_; (try clear hb); (try clear hb2); (try clear hk); (try clear hi)))
     go_ret2
     exact ⟨by first | rfl | (simp [errW_none, errW_some] <;> rfl) | (simp [*, errW_none, errW_some] <;> rfl), by repeat (first | (with_reducible first | exact HB.out | apply below_alloc | apply pw_below_drewN | apply below_drew1) | exact HB.out)⟩
   ·rw [if_neg c4] at H
    have c4b0 : decide (x10_1 ≤ 4) = false := decide_eq_false c4
    clear c4
    simp only [Option.some.injEq, Prod.mk.injEq] at H
    obtain ⟨rfl, rfl⟩ := H
    go_wp2
    go_ret2
    exact ⟨by first | rfl | (simp [errW_none, errW_some] <;> rfl) | (simp [*, errW_none, errW_some] <;> rfl), by repeat (first | (with_reducible first | exact HB.out | apply below_alloc | apply pw_below_drewN | apply below_drew1) | exact HB.out)⟩

end Go.Proofs.Ytejljcglbkjgkaa.PL12

namespace Go.Proofs.Ytejljcglbkjgkaa.PL12
open Go.RowKit Go.Proofs.YtejljcglbkjgkaaW.PrintWords Go.Proofs.YtejljcglbkjgkaaW.PrintLast Go.Proofs.YtejljcglbkjgkaaW.PrintMore
attribute [local go_sem] max2_int min2_int max_two min_two max_three min_three max_four min_four   -- for this text's walks alone
set_option linter.unusedVariables false
set_option linter.unusedSimpArgs false

mutual
def vitrineref12_Pack.l0 : Nat → List Int → List Int → List Int → Int → List (S53) → Int → Int → Int → Int → Int → Int → Int → Option (ByteArray)
 | 0, _, _, _, _, _, _, _, _, _, _, _, _ => none
 | k + 1, x1, x2, x7, x8, x9, x10, x11, x439000, x439001, x439002, x439003, x439004 => if x11 < (x9.length : Int) then (if 0 ≤ x11 then (vitrineref12_Pack.l1 k x1 x2 x7 x8 x9 x10 x11 (⟨#[]⟩ : ByteArray) 0 x439000 x439001 x439002 x439003 x439004 ((rd_T53 x9 x11).f0) ((rd_T53 x9 x11).f1) ((rd_T53 x9 x11).f2) ((rd_T53 x9 x11).f3) ((rd_T53 x9 x11).f4) ((rd_T53 x9 x11).f5)) else (none)) else (some (strOfNums x7))
def vitrineref12_Pack.l1 : Nat → List Int → List Int → List Int → Int → List (S53) → Int → Int → ByteArray → Int → Int → Int → Int → Int → Int → Int → Int → Int → Int → Int → Int → Option (ByteArray)
 | 0, _, _, _, _, _, _, _, _, _, _, _, _, _, _, _, _, _, _, _, _ => none
 | k + 1, x1, x2, x7, x8, x9, x10, x11, x13, x14, x439000, x439001, x439002, x439003, x439004, x445000, x445001, x445002, x445003, x445004, x445005 => if x14 < x445005 then (vitrineref12_Pack.l2 k x1 x2 x7 x8 x9 x10 x11 x13 x14 ([] : List Int) 0 x439000 x439001 x439002 x439003 x439004 x445000 x445001 x445002 x445003 x445004 x445005) else (vitrineref12_Pack.l0 k x1 x2 x7 x8 x9 x10 (wrap64 (x11 + 1)) x439000 x439001 x439002 x439003 x439004)
def vitrineref12_Pack.l2 : Nat → List Int → List Int → List Int → Int → List (S53) → Int → Int → ByteArray → Int → List Int → Int → Int → Int → Int → Int → Int → Int → Int → Int → Int → Int → Int → Option (ByteArray)
 | 0, _, _, _, _, _, _, _, _, _, _, _, _, _, _, _, _, _, _, _, _, _, _ => none
 | k + 1, x1, x2, x7, x8, x9, x10, x11, x13, x14, x15, x16, x439000, x439001, x439002, x439003, x439004, x445000, x445001, x445002, x445003, x445004, x445005 => if x16 < x445004 then (if 0 ≤ (wrap64 (x8 * (wrap64 ((wrap64 ((wrap64 ((wrap64 (x445001 + (wrap64 (x14 * x445003)))) * x439000)) + x445000)) + (wrap64 (x16 * x445002)))))) then (if (wrap64 (x8 * (wrap64 ((wrap64 ((wrap64 ((wrap64 (x445001 + (wrap64 (x14 * x445003)))) * x439000)) + x445000)) + (wrap64 (x16 * x445002)))))) ≤ (wrap64 ((wrap64 (x8 * (wrap64 ((wrap64 ((wrap64 ((wrap64 (x445001 + (wrap64 (x14 * x445003)))) * x439000)) + x445000)) + (wrap64 (x16 * x445002)))))) + x8)) then (if (wrap64 ((wrap64 (x8 * (wrap64 ((wrap64 ((wrap64 ((wrap64 (x445001 + (wrap64 (x14 * x445003)))) * x439000)) + x445000)) + (wrap64 (x16 * x445002)))))) + x8)) ≤ (x1.length : Int) then (if x15.length + ((x1.take ((wrap64 ((wrap64 (x8 * (wrap64 ((wrap64 ((wrap64 ((wrap64 (x445001 + (wrap64 (x14 * x445003)))) * x439000)) + x445000)) + (wrap64 (x16 * x445002)))))) + x8)) : Int).toNat).drop ((wrap64 (x8 * (wrap64 ((wrap64 ((wrap64 ((wrap64 (x445001 + (wrap64 (x14 * x445003)))) * x439000)) + x445000)) + (wrap64 (x16 * x445002)))))) : Int).toNat).length < 17592186044416 then (vitrineref12_Pack.l2 k x1 x2 x7 x8 x9 x10 x11 x13 x14 (x15 ++ ((x1.take ((wrap64 ((wrap64 (x8 * (wrap64 ((wrap64 ((wrap64 ((wrap64 (x445001 + (wrap64 (x14 * x445003)))) * x439000)) + x445000)) + (wrap64 (x16 * x445002)))))) + x8)) : Int).toNat).drop ((wrap64 (x8 * (wrap64 ((wrap64 ((wrap64 ((wrap64 (x445001 + (wrap64 (x14 * x445003)))) * x439000)) + x445000)) + (wrap64 (x16 * x445002)))))) : Int).toNat)) (wrap64 (x16 + 1)) x439000 x439001 x439002 x439003 x439004 x445000 x445001 x445002 x445003 x445004 x445005) else (none)) else (none)) else (none)) else (none)) else ((vitrineref11_Pack.f k x439002 x15).bind fun bt449 => (if (x2.length : Int) = 0 then (none) else (if 0 ≤ (Int.tmod x10 (x2.length : Int)) then (if (Int.tmod x10 (x2.length : Int)) < (x2.length : Int) then (if (rd x2 (Int.tmod x10 (x2.length : Int))) < 0 then ((vitrineref12_Bytes.f k x439000 x439001 x439002 x439003 x439004).bind fun t452 => ((vitrineref09_Pick.f k t452 bt449.1 x13).bind fun bt453 => (vitrineref12_Pack.j3 k x1 x2 x7 x8 x9 (wrap64 (x10 + 1)) x11 x13 x14 bt449.1 bt453.1 x439000 x439001 x439002 x439003 x439004 x445000 x445001 x445002 x445003 x445004 x445005))) else (vitrineref12_Pack.j3 k x1 x2 x7 x8 x9 (wrap64 (x10 + 1)) x11 x13 x14 bt449.1 (rd x2 (Int.tmod x10 (x2.length : Int))) x439000 x439001 x439002 x439003 x439004 x445000 x445001 x445002 x445003 x445004 x445005)) else (none)) else (none))))
def vitrineref12_Pack.j3 : Nat → List Int → List Int → List Int → Int → List (S53) → Int → Int → ByteArray → Int → ByteArray → Int → Int → Int → Int → Int → Int → Int → Int → Int → Int → Int → Int → Option (ByteArray)
 | 0, _, _, _, _, _, _, _, _, _, _, _, _, _, _, _, _, _, _, _, _, _, _ => none
 | k + 1, x1, x2, x7, x8, x9, x10, x11, x13, x14, x18, x20, x439000, x439001, x439002, x439003, x439004, x445000, x445001, x445002, x445003, x445004, x445005 => (vitrineref12_Bytes.f k x439000 x439001 x439002 x439003 x439004).bind fun t455 => ((vitrineref09_Do.f k t455 x20 x18 x13).bind fun bt456 => (if x7.length < 140737488355328 then ((some (x7 ++ [(x20) % 256] : List Int)).bind fun y458 => (if y458.length + bt456.1.size < 140737488355328 then (vitrineref12_Pack.l1 k x1 x2 (y458 ++ bytesOf bt456.1) x8 x9 x10 x11 x18 (wrap64 (x14 + 1)) x439000 x439001 x439002 x439003 x439004 x445000 x445001 x445002 x445003 x445004 x445005) else (none))) else (none)))
end
def vitrineref12_Pack.f (k : Nat) (a0_0 : Int) (a0_1 : Int) (a0_2 : Int) (a0_3 : Int) (a0_4 : Int) (l1 : List Int) (l2 : List Int) : Option (ByteArray) := (vitrineref08_Samples.f k a0_3).bind fun t439 => ((vitrineref10_Passes.f k a0_0 a0_1 a0_2 a0_3 a0_4).bind fun t440 => (vitrineref12_Pack.l0 k l1 l2 ([] : List Int) t439 t440 0 0 a0_0 a0_1 a0_2 a0_3 a0_4))
set_option maxHeartbeats 40000000 in
set_option maxRecDepth 100000 in
theorem vitrineref12_Pack.calls (k : Nat) (a0_0 : Int) (a0_1 : Int) (a0_2 : Int) (a0_3 : Int) (a0_4 : Int) (A1 : Option Addr) (c1 : Nat) (l1 : List Int) (A2 : Option Addr) (c2 : Nat) (l2 : List Int) (r : ByteArray) (w : World) (hr1 : Kd.C (Kd.int .i64) w A1 l1.length l1) (hc1 : l1.length ≤ c1) (hr2 : Kd.C (Kd.int .i64) w A2 l2.length l2) (hc2 : l2.length ≤ c2) (h : vitrineref12_Pack.f k a0_0 a0_1 a0_2 a0_3 a0_4 l1 l2 = some r) :
  Calls Try.prog 17 #[.agg #[.int .i64 a0_0, .int .i64 a0_1, .int .i64 a0_2, .int .i64 a0_3, .int .i64 a0_4], .slice A1 l1.length c1, .slice A2 l2.length c2] w fun e w' => e = .returned (.string r) ∧ Below w.heap.size w w' := by
 have hu29 := Try.underlying29
 have hu53 := Try.underlying53
 have HR1 := Aside0.mk hr1
 have HC1 := Aside0.mk hc1
 clear hr1 hc1
 have HR2 := Aside0.mk hr2
 have HC2 := Aside0.mk hc2
 clear hr2 hc2
 have HB := Aside0.mk (Below.refl w.heap.size w)
 have H : ((vitrineref08_Samples.f k a0_3).bind fun t439 => ((vitrineref10_Passes.f k a0_0 a0_1 a0_2 a0_3 a0_4).bind fun t440 => (vitrineref12_Pack.l0 k l1 l2 ([] : List Int) t439 t440 0 0 a0_0 a0_1 a0_2 a0_3 a0_4))) = some r := h
 clear h
 replace H := Option.bind_eq_some_iff.mp H
 obtain ⟨t439, A40, H⟩ := H
 replace H : ((vitrineref10_Passes.f k a0_0 a0_1 a0_2 a0_3 a0_4).bind fun t440 => (vitrineref12_Pack.l0 k l1 l2 ([] : List Int) t439 t440 0 0 a0_0 a0_1 a0_2 a0_3 a0_4)) = some r := H
 have A4 := Aside0.mk A40
 clear A40
 replace H := Option.bind_eq_some_iff.mp H
 obtain ⟨t440, A50, H⟩ := H
 replace H : (vitrineref12_Pack.l0 k l1 l2 ([] : List Int) t439 t440 0 0 a0_0 a0_1 a0_2 a0_3 a0_4) = some r := H
 have A5 := Aside0.mk A50
 clear A50
 have H' := Aside0.mk H
 clear H
 go_enter Try.func17, Try.ntmps17
 go_wp2_with (first | ((with_reducible refine gate_dst (N := 3) rfl ?_); refine box_event ?hg (N := 3) ?hd (cs := #[.int .i64 a0_0, .int .i64 a0_1, .int .i64 a0_2, .int .i64 a0_3, .int .i64 a0_4]) (t := 29) ?hr ?_; (case hd => rfl); (case hg => rfl); (case hr => first | (go_simp; done) | (go_simp; rfl)); intro gb438 hg w6 hbox hb; have n0_ := Aside0.mk (below_step (hz HB) hb); have n1_ := Aside0.mk (hbox); have n2_ := Aside0.mk ((by rw [hg]; exact (below_size (hz HB)) : w.heap.size ≤ gb438)); have n3_ := Aside0.mk ((by rw [hg]; exact (below_size (hz HB)) : w.heap.size ≤ gb438)); clear HB; have HB := n0_; have BK438 := n1_; have GW438 := n2_; have GE438 := n3_; clear n0_ n1_ n2_ n3_; clear hb hbox hg; have hcz7_0 : w6.cell? ⟨gb438, 0, none⟩ = some (.int .i64 a0_0) := (blk_cell BK438.out 0).trans rfl; have hcz7_1 : w6.cell? ⟨gb438, 1, none⟩ = some (.int .i64 a0_1) := (blk_cell BK438.out 1).trans rfl; have hcz7_2 : w6.cell? ⟨gb438, 2, none⟩ = some (.int .i64 a0_2) := (blk_cell BK438.out 2).trans rfl; have hcz7_3 : w6.cell? ⟨gb438, 3, none⟩ = some (.int .i64 a0_3) := (blk_cell BK438.out 3).trans rfl; have hcz7_4 : w6.cell? ⟨gb438, 4, none⟩ = some (.int .i64 a0_4) := (blk_cell BK438.out 4).trans rfl; have hfz7_0 := blk_frozen BK438.out 0; have hfz7_1 := blk_frozen BK438.out 1; have hfz7_2 := blk_frozen BK438.out 2; have hfz7_3 := blk_frozen BK438.out 3; have hfz7_4 := blk_frozen BK438.out 4) | ((with_reducible refine gate_callee (f := 16) rfl ?_); refine gz 25 Try.func16 #[.int .i64 a0_3] ?_; (with_reducible refine (vitrineref08_Samples.calls k a0_3 t439 _ A4.out).mono ?_); rintro e w' ⟨rfl, ⟨nd, rfl⟩⟩; refine ⟨_, rfl, ?_⟩) | ((with_reducible refine gate_callee (f := 25) rfl ?_); refine gz 27 Try.func25 #[.agg #[.int .i64 a0_0, .int .i64 a0_1, .int .i64 a0_2, .int .i64 a0_3, .int .i64 a0_4]] ?_; (with_reducible refine (vitrineref10_Passes.calls k a0_0 a0_1 a0_2 a0_3 a0_4 t440 _ A5.out).mono ?_); rintro e w8 ⟨v441, rfl, ho0, hb⟩; refine ⟨_, rfl, ?_⟩; have n0_ := Aside0.mk (Kd.R_lower ho0 (below_size (hz HB))); have n1_ := Aside0.mk (blk_below (g := gb438) (o := .cells #[.int .i64 a0_0, .int .i64 a0_1, .int .i64 a0_2, .int .i64 a0_3, .int .i64 a0_4] 29 (0, 0)) (kz BK438) hb); have n2_ := Aside0.mk (below_step (hz HB) hb); clear BK438; clear HB; have HO442 := n0_; have BK438 := n1_; have HB := n2_; clear n0_ n1_ n2_; (try clear hb); (try clear hb2); (try clear hk); (try clear hi); (try clear ho0)))
 go_loopg [7, 10, 11] k (fun kq v7 v10 v11 w' => ∃ (x7_1 : List Int) (x10_1 : Int) (x11_1 : Int), v10 = .int .i64 x10_1 ∧ v11 = .int .i64 x11_1 ∧ Aside0 (vitrineref12_Pack.l0 kq l1 l2 x7_1 t439 t440 x10_1 x11_1 a0_0 a0_1 a0_2 a0_3 a0_4 = some r) ∧ Aside0 (kq ≤ k) ∧ Aside0 (Kd.R (Kd.int .u8) 5 w' w.heap.size (fun _ => True) v7 x7_1) ∧ Aside0 (Kd.R k53 53 w' w.heap.size (fun _ => True) v441 t440) ∧ Aside0 (w'.heap[gb438]? = some (.cells #[.int .i64 a0_0, .int .i64 a0_1, .int .i64 a0_2, .int .i64 a0_3, .int .i64 a0_4] 29 (0, 0))) ∧ Aside0 (Below w.heap.size w w'))
 case atStart => exact ⟨(([] : List Int)), (0), (0), (by first | rfl | (simp; done) | (simp [*]; done)), (by first | rfl | (simp; done) | (simp [*]; done)), H', ⟨Nat.le_refl _⟩, ⟨by first | exact Kd.R_nil _ _ _ _ _ | exact Kd.N_nil _ _ _ _ _ | exact Kd.V_nil _ _ _ _ _ | exact Kd.Q_nil _ _ _ _ _ | exact Kd.S_nil _ _ _ _ _⟩, ⟨oz HO442⟩, ⟨kz BK438⟩, ⟨hz HB⟩⟩
 case round =>
  clear H'
  try clear hcz7_0
  try clear hcz7_1
  try clear hcz7_2
  try clear hcz7_3
  try clear hcz7_4
  try clear hfz7_0
  try clear hfz7_1
  try clear hfz7_2
  try clear hfz7_3
  try clear hfz7_4
  obtain ⟨x7_1, x10_1, x11_1, rfl, rfl, HA, HK1, HO_7, HO_9, BK438, HB⟩ := hrel
  cases gk with
  | zero => exact absurd HA.out (by simp [vitrineref12_Pack.l0])
  | succ k1 =>
   have H := HA.out
   clear HA
   simp only [vitrineref12_Pack.l0] at H
   by_cases c9 : x11_1 < (t440.length : Int)
   ·rw [if_pos c9] at H
    have c9b0 : decide (x11_1 < (t440.length : Int)) = true := decide_eq_true c9
    clear c9
    by_cases c10 : 0 ≤ x11_1
    ·rw [if_pos c10] at H
     have c10b0 : decide (0 ≤ x11_1) = true := decide_eq_true c10
     clear c10
     have H' := Aside0.mk H
     clear H
     obtain ⟨Ao11, co11, eo11⟩ := Kd.R_slice HO_9.out
     subst eo11
     have p443 : 0 ≤ (x11_1 : Int) := of_decide_eq_true (by first | (with_reducible assumption) | assumption)
     have q443 : x11_1 < (t440.length : Int) := of_decide_eq_true (by first | (with_reducible assumption) | assumption)
     obtain ⟨ad443, e443, hx443_0, hx443_1, hx443_2, hx443_3, hx443_4, hx443_5⟩ := at_T53 (Kd.R_reads' HO_9.out).2.2 x11_1 p443 q443
     cases e443
     replace p443 := eq_true p443
     replace q443 := eq_true q443
     go_wp2_with (first | ((with_reducible refine gate_dst (N := 12) rfl ?_); refine box_event ?hg (N := 12) ?hd (cs := #[.int .i64 0, .int .i64 0, .int .i64 0, .int .i64 0, .int .i64 0, .int .i64 0]) (t := 53) ?hr ?_; (case hd => rfl); (case hg => rfl); (case hr => first | (go_simp; done) | (go_simp; rfl)); intro gb444 hg w12 hbox hb; have n0_ := Aside0.mk (Kd.R_below (oz HO_7) hb); have n1_ := Aside0.mk (Kd.R_below (Kd.R_elderB (oz HO_9) gb444 (Nat.le_of_eq hg.symm)) hb); have n2_ := Aside0.mk (blk_below (g := gb438) (o := .cells #[.int .i64 a0_0, .int .i64 a0_1, .int .i64 a0_2, .int .i64 a0_3, .int .i64 a0_4] 29 (0, 0)) (kz BK438) hb); have n3_ := Aside0.mk (below_step (hz HB) hb); have n4_ := Aside0.mk (hbox); have n5_ := Aside0.mk ((by rw [hg]; exact (below_size (hz HB)) : w.heap.size ≤ gb444)); have n6_ := Aside0.mk ((by rw [hg]; exact (below_size (hz HB)) : w.heap.size ≤ gb444)); have n7_ := Aside0.mk ((by rw [hg]; exact Nat.ne_of_lt (blk_lt (g := gb438) (o := .cells #[.int .i64 a0_0, .int .i64 a0_1, .int .i64 a0_2, .int .i64 a0_3, .int .i64 a0_4] 29 (0, 0)) (kz BK438)) : gb438 ≠ gb444)); have n8_ := Aside0.mk ((by rw [hg]; exact Nat.ne_of_gt (blk_lt (g := gb438) (o := .cells #[.int .i64 a0_0, .int .i64 a0_1, .int .i64 a0_2, .int .i64 a0_3, .int .i64 a0_4] 29 (0, 0)) (kz BK438)) : gb444 ≠ gb438)); clear HO_7; clear HO_9; clear BK438; clear HB; have HO_7 := n0_; have HO_9 := n1_; have BK438 := n2_; have HB := n3_; have BK444 := n4_; have GW444 := n5_; have GE444 := n6_; have NB438_444 := n7_; have NB444_438 := n8_; clear n0_ n1_ n2_ n3_ n4_ n5_ n6_ n7_ n8_; clear hb hbox hg; have hnb13 := NB444_438.out; have hnc13 := NB438_444.out; have hcz14_0 : w12.cell? ⟨gb444, 0, none⟩ = some (.int .i64 0) := (blk_cell BK444.out 0).trans rfl; have hcz14_1 : w12.cell? ⟨gb444, 1, none⟩ = some (.int .i64 0) := (blk_cell BK444.out 1).trans rfl; have hcz14_2 : w12.cell? ⟨gb444, 2, none⟩ = some (.int .i64 0) := (blk_cell BK444.out 2).trans rfl; have hcz14_3 : w12.cell? ⟨gb444, 3, none⟩ = some (.int .i64 0) := (blk_cell BK444.out 3).trans rfl; have hcz14_4 : w12.cell? ⟨gb444, 4, none⟩ = some (.int .i64 0) := (blk_cell BK444.out 4).trans rfl; have hcz14_5 : w12.cell? ⟨gb444, 5, none⟩ = some (.int .i64 0) := (blk_cell BK444.out 5).trans rfl; have hfz14_0 := blk_frozen BK444.out 0; have hfz14_1 := blk_frozen BK444.out 1; have hfz14_2 := blk_frozen BK444.out 2; have hfz14_3 := blk_frozen BK444.out 3; have hfz14_4 := blk_frozen BK444.out 4; have hfz14_5 := blk_frozen BK444.out 5))
     go_loopg [7, 10, 13, 14] k1 (fun kq v7 v10 v13 v14 w' => ∃ (x7_2 : List Int) (x10_2 : Int) (x13_2 : ByteArray) (x14_2 : Int), v10 = .int .i64 x10_2 ∧ v13 = .string x13_2 ∧ v14 = .int .i64 x14_2 ∧ Aside0 (vitrineref12_Pack.l1 kq l1 l2 x7_2 t439 t440 x10_2 x11_1 x13_2 x14_2 a0_0 a0_1 a0_2 a0_3 a0_4 ((rd_T53 t440 x11_1).f0) ((rd_T53 t440 x11_1).f1) ((rd_T53 t440 x11_1).f2) ((rd_T53 t440 x11_1).f3) ((rd_T53 t440 x11_1).f4) ((rd_T53 t440 x11_1).f5) = some r) ∧ Aside0 (kq ≤ k1) ∧ Aside0 (Kd.R (Kd.int .u8) 5 w' w.heap.size (fun _ => True) v7 x7_2) ∧ Aside0 (Kd.R k53 53 w' w.heap.size (fun k_ => k_ ≠ gb444) (.slice (some ad443) t440.length co11) t440) ∧ Aside0 (w'.heap[gb438]? = some (.cells #[.int .i64 a0_0, .int .i64 a0_1, .int .i64 a0_2, .int .i64 a0_3, .int .i64 a0_4] 29 (0, 0))) ∧ Aside0 (w'.heap[gb444]? = some (.cells #[.int .i64 ((rd_T53 t440 x11_1).f0), .int .i64 ((rd_T53 t440 x11_1).f1), .int .i64 ((rd_T53 t440 x11_1).f2), .int .i64 ((rd_T53 t440 x11_1).f3), .int .i64 ((rd_T53 t440 x11_1).f4), .int .i64 ((rd_T53 t440 x11_1).f5)] 53 (0, 0))) ∧ Aside0 (Below w.heap.size w w'))
     case atStart => exact ⟨(x7_1), (x10_1), ((⟨#[]⟩ : ByteArray)), (0), (by first | rfl | (simp; done) | (simp [*]; done)), (by first | rfl | (simp; done) | (simp [*]; done)), (by first | rfl | (simp; done) | (simp [*]; done)), H', ⟨Nat.le_refl _⟩, ⟨by (with_reducible repeat (first | apply Kd.R_alloc | apply Kd.R_drewN | apply Kd.R_drew)); exact Kd.R_mono (Kd.R_far (p := ⟨gb444, 5, none⟩) (Kd.R_far (p := ⟨gb444, 4, none⟩) (Kd.R_far (p := ⟨gb444, 3, none⟩) (Kd.R_far (p := ⟨gb444, 2, none⟩) (Kd.R_far (p := ⟨gb444, 1, none⟩) (Kd.R_far (p := ⟨gb444, 0, none⟩) (Kd.R_types HO_7.out BK444.out (by decide)) (fun _ hk => hk.2) (.int .i64 ((rd_T53 t440 x11_1).f0))) (fun _ hk => hk.2) (.int .i64 ((rd_T53 t440 x11_1).f1))) (fun _ hk => hk.2) (.int .i64 ((rd_T53 t440 x11_1).f2))) (fun _ hk => hk.2) (.int .i64 ((rd_T53 t440 x11_1).f3))) (fun _ hk => hk.2) (.int .i64 ((rd_T53 t440 x11_1).f4))) (fun _ hk => hk.2) (.int .i64 ((rd_T53 t440 x11_1).f5))) (fun _ hk => trivial)⟩, ⟨by (with_reducible repeat (first | apply Kd.R_alloc | apply Kd.R_drewN | apply Kd.R_drew)); exact Kd.R_mono (Kd.R_far (p := ⟨gb444, 5, none⟩) (Kd.R_far (p := ⟨gb444, 4, none⟩) (Kd.R_far (p := ⟨gb444, 3, none⟩) (Kd.R_far (p := ⟨gb444, 2, none⟩) (Kd.R_far (p := ⟨gb444, 1, none⟩) (Kd.R_far (p := ⟨gb444, 0, none⟩) (Kd.R_mono HO_9.out (fun k_ hk => (⟨hk, hk.2⟩ : _ ∧ k_ ≠ gb444))) (fun _ hk => hk.2) (.int .i64 ((rd_T53 t440 x11_1).f0))) (fun _ hk => hk.2) (.int .i64 ((rd_T53 t440 x11_1).f1))) (fun _ hk => hk.2) (.int .i64 ((rd_T53 t440 x11_1).f2))) (fun _ hk => hk.2) (.int .i64 ((rd_T53 t440 x11_1).f3))) (fun _ hk => hk.2) (.int .i64 ((rd_T53 t440 x11_1).f4))) (fun _ hk => hk.2) (.int .i64 ((rd_T53 t440 x11_1).f5))) (fun _ hk => hk.1.2)⟩, ⟨by (with_reducible repeat (first | refine blk_drewN ?_ _ | refine blk_drew ?_ | refine blk_alloc ?_ _)); refine blk_far ?_ NB438_444.out _; (with_reducible repeat (first | refine blk_drewN ?_ _ | refine blk_drew ?_ | refine blk_alloc ?_ _)); refine blk_far ?_ NB438_444.out _; (with_reducible repeat (first | refine blk_drewN ?_ _ | refine blk_drew ?_ | refine blk_alloc ?_ _)); refine blk_far ?_ NB438_444.out _; (with_reducible repeat (first | refine blk_drewN ?_ _ | refine blk_drew ?_ | refine blk_alloc ?_ _)); refine blk_far ?_ NB438_444.out _; (with_reducible repeat (first | refine blk_drewN ?_ _ | refine blk_drew ?_ | refine blk_alloc ?_ _)); refine blk_far ?_ NB438_444.out _; (with_reducible repeat (first | refine blk_drewN ?_ _ | refine blk_drew ?_ | refine blk_alloc ?_ _)); refine blk_far ?_ NB438_444.out _; (with_reducible repeat (first | refine blk_drewN ?_ _ | refine blk_drew ?_ | refine blk_alloc ?_ _)); exact BK438.out⟩, ⟨by (with_reducible repeat (first | refine blk_drewN ?_ _ | refine blk_drew ?_ | refine blk_alloc ?_ _)); refine blk_put (cs := #[.int .i64 ((rd_T53 t440 x11_1).f0), .int .i64 ((rd_T53 t440 x11_1).f1), .int .i64 ((rd_T53 t440 x11_1).f2), .int .i64 ((rd_T53 t440 x11_1).f3), .int .i64 ((rd_T53 t440 x11_1).f4), .int .i64 0]) ?_ 5 _ rfl; (with_reducible repeat (first | refine blk_drewN ?_ _ | refine blk_drew ?_ | refine blk_alloc ?_ _)); refine blk_put (cs := #[.int .i64 ((rd_T53 t440 x11_1).f0), .int .i64 ((rd_T53 t440 x11_1).f1), .int .i64 ((rd_T53 t440 x11_1).f2), .int .i64 ((rd_T53 t440 x11_1).f3), .int .i64 0, .int .i64 0]) ?_ 4 _ rfl; (with_reducible repeat (first | refine blk_drewN ?_ _ | refine blk_drew ?_ | refine blk_alloc ?_ _)); refine blk_put (cs := #[.int .i64 ((rd_T53 t440 x11_1).f0), .int .i64 ((rd_T53 t440 x11_1).f1), .int .i64 ((rd_T53 t440 x11_1).f2), .int .i64 0, .int .i64 0, .int .i64 0]) ?_ 3 _ rfl; (with_reducible repeat (first | refine blk_drewN ?_ _ | refine blk_drew ?_ | refine blk_alloc ?_ _)); refine blk_put (cs := #[.int .i64 ((rd_T53 t440 x11_1).f0), .int .i64 ((rd_T53 t440 x11_1).f1), .int .i64 0, .int .i64 0, .int .i64 0, .int .i64 0]) ?_ 2 _ rfl; (with_reducible repeat (first | refine blk_drewN ?_ _ | refine blk_drew ?_ | refine blk_alloc ?_ _)); refine blk_put (cs := #[.int .i64 ((rd_T53 t440 x11_1).f0), .int .i64 0, .int .i64 0, .int .i64 0, .int .i64 0, .int .i64 0]) ?_ 1 _ rfl; (with_reducible repeat (first | refine blk_drewN ?_ _ | refine blk_drew ?_ | refine blk_alloc ?_ _)); refine blk_put (cs := #[.int .i64 0, .int .i64 0, .int .i64 0, .int .i64 0, .int .i64 0, .int .i64 0]) ?_ 0 _ rfl; (with_reducible repeat (first | refine blk_drewN ?_ _ | refine blk_drew ?_ | refine blk_alloc ?_ _)); exact BK444.out⟩, ⟨hz HB⟩⟩
     case round =>
      clear H'
      try clear c9
      try clear c9b0
      try clear c10
      try clear c10b0
      try clear hcz14_0
      try clear hcz14_1
      try clear hcz14_2
      try clear hcz14_3
      try clear hcz14_4
      try clear hcz14_5
      try clear hcz7_0
      try clear hcz7_1
      try clear hcz7_2
      try clear hcz7_3
      try clear hcz7_4
      try clear hfz14_0
      try clear hfz14_1
      try clear hfz14_2
      try clear hfz14_3
      try clear hfz14_4
      try clear hfz14_5
      try clear hfz7_0
      try clear hfz7_1
      try clear hfz7_2
      try clear hfz7_3
      try clear hfz7_4
      try clear hx443_0
      try clear hx443_1
      try clear hx443_2
      try clear hx443_3
      try clear hx443_4
      try clear hx443_5
      try clear p443
      try clear q443
      obtain ⟨x7_2, x10_2, x13_2, x14_2, rfl, rfl, rfl, HA, HK2, HO_7, HO_9, BK438, BK444, HB⟩ := hrel
      cases gk with
      | zero => exact absurd HA.out (by simp [vitrineref12_Pack.l1])
      | succ k2 =>
       have H := HA.out
       clear HA
       simp only [vitrineref12_Pack.l1] at H
       by_cases c15 : x14_2 < ((rd_T53 t440 x11_1).f5)
       ·rw [if_pos c15] at H
        have c15b0 : decide (x14_2 < ((rd_T53 t440 x11_1).f5)) = true := decide_eq_true c15
        clear c15
        have H' := Aside0.mk H
        clear H
        have hnb16 := NB444_438.out
        have hnc16 := NB438_444.out
        have hcz17_0 : wr.cell? ⟨gb444, 0, none⟩ = some (.int .i64 ((rd_T53 t440 x11_1).f0)) := (blk_cell BK444.out 0).trans rfl
        have hcz17_1 : wr.cell? ⟨gb444, 1, none⟩ = some (.int .i64 ((rd_T53 t440 x11_1).f1)) := (blk_cell BK444.out 1).trans rfl
        have hcz17_2 : wr.cell? ⟨gb444, 2, none⟩ = some (.int .i64 ((rd_T53 t440 x11_1).f2)) := (blk_cell BK444.out 2).trans rfl
        have hcz17_3 : wr.cell? ⟨gb444, 3, none⟩ = some (.int .i64 ((rd_T53 t440 x11_1).f3)) := (blk_cell BK444.out 3).trans rfl
        have hcz17_4 : wr.cell? ⟨gb444, 4, none⟩ = some (.int .i64 ((rd_T53 t440 x11_1).f4)) := (blk_cell BK444.out 4).trans rfl
        have hcz17_5 : wr.cell? ⟨gb444, 5, none⟩ = some (.int .i64 ((rd_T53 t440 x11_1).f5)) := (blk_cell BK444.out 5).trans rfl
        have hfz17_0 := blk_frozen BK444.out 0
        have hfz17_1 := blk_frozen BK444.out 1
        have hfz17_2 := blk_frozen BK444.out 2
        have hfz17_3 := blk_frozen BK444.out 3
        have hfz17_4 := blk_frozen BK444.out 4
        have hfz17_5 := blk_frozen BK444.out 5
        go_wp2
        go_loopg [15, 16] k2 (fun kq v15 v16 w' => ∃ (x15_3 : List Int) (x16_3 : Int), v16 = .int .i64 x16_3 ∧ Aside0 (vitrineref12_Pack.l2 kq l1 l2 x7_2 t439 t440 x10_2 x11_1 x13_2 x14_2 x15_3 x16_3 a0_0 a0_1 a0_2 a0_3 a0_4 ((rd_T53 t440 x11_1).f0) ((rd_T53 t440 x11_1).f1) ((rd_T53 t440 x11_1).f2) ((rd_T53 t440 x11_1).f3) ((rd_T53 t440 x11_1).f4) ((rd_T53 t440 x11_1).f5) = some r) ∧ Aside0 (kq ≤ k2) ∧ Aside0 (Kd.R (Kd.int .u8) 5 w' w.heap.size (fun _ => True) u7 x7_2) ∧ Aside0 (Kd.R k53 53 w' w.heap.size (fun k_ => k_ ≠ gb444) (.slice (some ad443) t440.length co11) t440) ∧ Aside0 (Kd.R (Kd.int .i64) 3 w' w.heap.size (fun _ => True) v15 x15_3) ∧ Aside0 (w'.heap[gb438]? = some (.cells #[.int .i64 a0_0, .int .i64 a0_1, .int .i64 a0_2, .int .i64 a0_3, .int .i64 a0_4] 29 (0, 0))) ∧ Aside0 (w'.heap[gb444]? = some (.cells #[.int .i64 ((rd_T53 t440 x11_1).f0), .int .i64 ((rd_T53 t440 x11_1).f1), .int .i64 ((rd_T53 t440 x11_1).f2), .int .i64 ((rd_T53 t440 x11_1).f3), .int .i64 ((rd_T53 t440 x11_1).f4), .int .i64 ((rd_T53 t440 x11_1).f5)] 53 (0, 0))) ∧ Aside0 (Below w.heap.size w w'))
        case atStart => exact ⟨(([] : List Int)), (0), (by first | rfl | (simp; done) | (simp [*]; done)), H', ⟨Nat.le_refl _⟩, ⟨oz HO_7⟩, ⟨oz HO_9⟩, ⟨by first | exact Kd.R_nil _ _ _ _ _ | exact Kd.N_nil _ _ _ _ _ | exact Kd.V_nil _ _ _ _ _ | exact Kd.Q_nil _ _ _ _ _ | exact Kd.S_nil _ _ _ _ _⟩, ⟨kz BK438⟩, ⟨kz BK444⟩, ⟨hz HB⟩⟩
        case round =>
         clear H'
         try clear c9
         try clear c9b0
         try clear c10
         try clear c10b0
         try clear c15
         try clear c15b0
         try clear hcz14_0
         try clear hcz14_1
         try clear hcz14_2
         try clear hcz14_3
         try clear hcz14_4
         try clear hcz14_5
         try clear hcz17_0
         try clear hcz17_1
         try clear hcz17_2
         try clear hcz17_3
         try clear hcz17_4
         try clear hcz17_5
         try clear hcz7_0
         try clear hcz7_1
         try clear hcz7_2
         try clear hcz7_3
         try clear hcz7_4
         try clear hfz14_0
         try clear hfz14_1
         try clear hfz14_2
         try clear hfz14_3
         try clear hfz14_4
         try clear hfz14_5
         try clear hfz17_0
         try clear hfz17_1
         try clear hfz17_2
         try clear hfz17_3
         try clear hfz17_4
         try clear hfz17_5
         try clear hfz7_0
         try clear hfz7_1
         try clear hfz7_2
         try clear hfz7_3
         try clear hfz7_4
         try clear hx443_0
         try clear hx443_1
         try clear hx443_2
         try clear hx443_3
         try clear hx443_4
         try clear hx443_5
         try clear p443
         try clear q443
         obtain ⟨x15_3, x16_3, rfl, HA, HK3, HO_7, HO_9, HO_15, BK438, BK444, HB⟩ := hrel
         cases gk with
         | zero => exact absurd HA.out (by simp [vitrineref12_Pack.l2])
         | succ k3 =>
          have H := HA.out
          clear HA
          simp only [vitrineref12_Pack.l2] at H
          by_cases c18 : x16_3 < ((rd_T53 t440 x11_1).f4)
          ·rw [if_pos c18] at H
           have c18b0 : decide (x16_3 < ((rd_T53 t440 x11_1).f4)) = true := decide_eq_true c18
           clear c18
           obtain ⟨ji19, hji19⟩ : ∃ j_ : Int, (wrap64 (t439 * (wrap64 ((wrap64 ((wrap64 ((wrap64 (((rd_T53 t440 x11_1).f1) + (wrap64 (x14_2 * ((rd_T53 t440 x11_1).f3))))) * a0_0)) + ((rd_T53 t440 x11_1).f0))) + (wrap64 (x16_3 * ((rd_T53 t440 x11_1).f2))))))) = j_ := ⟨_, rfl⟩
           replace H : (if 0 ≤ (ji19) then (if (ji19) ≤ (wrap64 ((ji19) + t439)) then (if (wrap64 ((ji19) + t439)) ≤ (l1.length : Int) then (if x15_3.length + ((l1.take ((wrap64 ((ji19) + t439)) : Int).toNat).drop ((ji19) : Int).toNat).length < 17592186044416 then (vitrineref12_Pack.l2 k3 l1 l2 x7_2 t439 t440 x10_2 x11_1 x13_2 x14_2 (x15_3 ++ ((l1.take ((wrap64 ((ji19) + t439)) : Int).toNat).drop ((ji19) : Int).toNat)) (wrap64 (x16_3 + 1)) a0_0 a0_1 a0_2 a0_3 a0_4 ((rd_T53 t440 x11_1).f0) ((rd_T53 t440 x11_1).f1) ((rd_T53 t440 x11_1).f2) ((rd_T53 t440 x11_1).f3) ((rd_T53 t440 x11_1).f4) ((rd_T53 t440 x11_1).f5)) else (none)) else (none)) else (none)) else (none)) = some r := by first | (rw [hji19] at H; exact H) | (simp only [hji19] at H ⊢; exact H)
           have hji19w : (IntKind.i64.wrap (t439 * (wrap64 ((wrap64 ((wrap64 ((wrap64 (((rd_T53 t440 x11_1).f1) + (wrap64 (x14_2 * ((rd_T53 t440 x11_1).f3))))) * a0_0)) + ((rd_T53 t440 x11_1).f0))) + (wrap64 (x16_3 * ((rd_T53 t440 x11_1).f2))))))) = ji19 := (i64_w _).trans hji19
           by_cases c20 : 0 ≤ (ji19)
           ·rw [if_pos c20] at H
            have c20b0 := eq_true c20
            have c20b1 : decide (0 ≤ (ji19)) = true := decide_eq_true c20
            clear c20
            by_cases c21 : (ji19) ≤ (wrap64 ((ji19) + t439))
            ·rw [if_pos c21] at H
             have c21b0 := eq_true c21
             have c21b1 : decide ((ji19) ≤ (wrap64 ((ji19) + t439))) = true := decide_eq_true c21
             by_cases c22 : (wrap64 ((ji19) + t439)) ≤ (l1.length : Int)
             ·rw [if_pos c22] at H
              have c22b0 := eq_true c22
              have c22b1 : decide ((wrap64 ((ji19) + t439)) ≤ (l1.length : Int)) = true := decide_eq_true c22
              by_cases c23 : x15_3.length + ((l1.take ((wrap64 ((ji19) + t439)) : Int).toNat).drop ((ji19) : Int).toNat).length < 17592186044416
              ·rw [if_pos c23] at H
               have LMc23 := Aside0.mk c23
               clear c23
               obtain ⟨y446, hy446⟩ : ∃ y_ : List Int, y_ = (x15_3 ++ ((l1.take ((wrap64 ((ji19) + t439)) : Int).toNat).drop ((ji19) : Int).toNat)) := ⟨_, rfl⟩
               replace H : (vitrineref12_Pack.l2 k3 l1 l2 x7_2 t439 t440 x10_2 x11_1 x13_2 x14_2 y446 (wrap64 (x16_3 + 1)) a0_0 a0_1 a0_2 a0_3 a0_4 ((rd_T53 t440 x11_1).f0) ((rd_T53 t440 x11_1).f1) ((rd_T53 t440 x11_1).f2) ((rd_T53 t440 x11_1).f3) ((rd_T53 t440 x11_1).f4) ((rd_T53 t440 x11_1).f5)) = some r := by first | (rw [hy446]; with_reducible exact H) | (have H2_ := (Option.bind_some _ _).symm.trans H; rw [hy446]; with_reducible exact H2_) | (have H2_ := (Option.bind_some _ _).symm.trans H; with_reducible exact H2_) | with_reducible exact H | (rw [hy446]; exact H) | exact H
               have Ny446 := Aside0.mk hy446
               clear hy446
               have H' := Aside0.mk H
               clear H
               have hnb24 := NB444_438.out
               have hnc24 := NB438_444.out
               have hcz25_0 : wr.cell? ⟨gb444, 0, none⟩ = some (.int .i64 ((rd_T53 t440 x11_1).f0)) := (blk_cell BK444.out 0).trans rfl
               have hcz25_1 : wr.cell? ⟨gb444, 1, none⟩ = some (.int .i64 ((rd_T53 t440 x11_1).f1)) := (blk_cell BK444.out 1).trans rfl
               have hcz25_2 : wr.cell? ⟨gb444, 2, none⟩ = some (.int .i64 ((rd_T53 t440 x11_1).f2)) := (blk_cell BK444.out 2).trans rfl
               have hcz25_3 : wr.cell? ⟨gb444, 3, none⟩ = some (.int .i64 ((rd_T53 t440 x11_1).f3)) := (blk_cell BK444.out 3).trans rfl
               have hcz25_4 : wr.cell? ⟨gb444, 4, none⟩ = some (.int .i64 ((rd_T53 t440 x11_1).f4)) := (blk_cell BK444.out 4).trans rfl
               have hcz25_5 : wr.cell? ⟨gb444, 5, none⟩ = some (.int .i64 ((rd_T53 t440 x11_1).f5)) := (blk_cell BK444.out 5).trans rfl
               have hfz25_0 := blk_frozen BK444.out 0
               have hfz25_1 := blk_frozen BK444.out 1
               have hfz25_2 := blk_frozen BK444.out 2
               have hfz25_3 := blk_frozen BK444.out 3
               have hfz25_4 := blk_frozen BK444.out 4
               have hfz25_5 := blk_frozen BK444.out 5
               have hcz26_0 : wr.cell? ⟨gb438, 0, none⟩ = some (.int .i64 a0_0) := (blk_cell BK438.out 0).trans rfl
               have hcz26_1 : wr.cell? ⟨gb438, 1, none⟩ = some (.int .i64 a0_1) := (blk_cell BK438.out 1).trans rfl
               have hcz26_2 : wr.cell? ⟨gb438, 2, none⟩ = some (.int .i64 a0_2) := (blk_cell BK438.out 2).trans rfl
               have hcz26_3 : wr.cell? ⟨gb438, 3, none⟩ = some (.int .i64 a0_3) := (blk_cell BK438.out 3).trans rfl
               have hcz26_4 : wr.cell? ⟨gb438, 4, none⟩ = some (.int .i64 a0_4) := (blk_cell BK438.out 4).trans rfl
               have hfz26_0 := blk_frozen BK438.out 0
               have hfz26_1 := blk_frozen BK438.out 1
               have hfz26_2 := blk_frozen BK438.out 2
               have hfz26_3 := blk_frozen BK438.out 3
               have hfz26_4 := blk_frozen BK438.out 4
               obtain ⟨i027, hi027, _, hsz27, _⟩ := info_parts info3
               obtain ⟨A27, hcut27, hA27, hC27⟩ := print_mid_of (P := Try.prog) (Value.int .i64) 0 37 3 .i64 .i64 Try.underlying37 hi027 hsz27 A1 c1 l1 (ji19) (wrap64 ((ji19) + t439)) (of_decide_eq_true (by first | (with_reducible assumption) | assumption)) (by first | omega | exact of_decide_eq_true (by first | (with_reducible assumption) | assumption)) (of_decide_eq_true (by first | (with_reducible assumption) | assumption)) HC1.out
               have HR445 := Aside0.mk (Kd.C_of_reads (h1 := fun _ => rfl) (hA27 _ (Kd.reads_of_C HR1.out)))
               have HC445 := Aside0.mk hC27
               clear hA27 hC27 hi027 hsz27
               go_wp2_with (first | ((with_reducible refine gate_builtin (b := .append) (xs := #[.tmp 70, .tmp 76]) rfl ?_); at_builtin; refine Kd.R_append_rows (Kd.int .i64) (w0 := w) w.heap.size rfl (.tmp 70) (.tmp 76) 37 3 (.int .i64 0) 8 rfl Try.underlying37 info3 rfl (by decide) (by omega) u15 x15_3 ((l1.take ((wrap64 ((ji19) + t439)) : Int).toNat).drop ((ji19) : Int).toNat) _ _ _ (fun _ => True) (fun _ => False) rfl rfl ?aO ?aR (fun _ _ h => h) (fun _ h => h.elim) ?aF ?aB ?aS ?aL ?_; (case aR => first | (rw [← show ((l1.take ((wrap64 ((ji19) + t439)) : Int).toNat).drop ((ji19) : Int).toNat).length = ((wrap64 ((ji19) + t439)).toNat - (ji19).toNat) from (by rw [List.length_drop, List.length_take]; have h_ : ((wrap64 ((ji19) + t439)) : Int) ≤ (l1.length : Int) := of_decide_eq_true (by first | (with_reducible assumption) | assumption); omega)]; repeat (first | exact (Kd.C_below HR445.out HB.out) | (with_reducible refine Kd.C_alloc ?_ _) | (with_reducible refine Kd.C_drewN ?_ _) | (with_reducible refine Kd.C_drew ?_))) | (repeat (first | exact (Kd.C_below HR445.out HB.out) | (with_reducible refine Kd.C_alloc ?_ _) | (with_reducible refine Kd.C_drewN ?_ _) | (with_reducible refine Kd.C_drew ?_)))); (case aB => exact (hz HB)); (case aF => exact (fun _ _ => trivial)); (case aO => exact (oz HO_15)); (case aS => exact (below_size (hz HB))); (case aL => have := LMc23.out; have hlx_ := (show ((l1.take ((wrap64 ((ji19) + t439)) : Int).toNat).drop ((ji19) : Int).toNat).length = ((wrap64 ((ji19) + t439)).toNat - (ji19).toNat) from (by rw [List.length_drop, List.length_take]; have h_ : ((wrap64 ((ji19) + t439)) : Int) ≤ (l1.length : Int) := of_decide_eq_true (by first | (with_reducible assumption) | assumption); omega)); omega); intro v447 w28 ho hb hg hat; rw [← Ny446.out] at ho; have n0_ := Aside0.mk (Kd.R_over' (oz HO_7) (Kd.R_typed (oz HO_15)) (by decide) hg); have n1_ := Aside0.mk (Kd.R_over' (oz HO_9) (Kd.R_typed (oz HO_15)) (by decide) hg); have n2_ := Aside0.mk (blk_grown (g := gb438) (o := .cells #[.int .i64 a0_0, .int .i64 a0_1, .int .i64 a0_2, .int .i64 a0_3, .int .i64 a0_4] 29 (0, 0)) (kz BK438) hg (Kd.R_ne HO_15.out BK438.out (by decide))); have n3_ := Aside0.mk (blk_grown (g := gb444) (o := .cells #[.int .i64 ((rd_T53 t440 x11_1).f0), .int .i64 ((rd_T53 t440 x11_1).f1), .int .i64 ((rd_T53 t440 x11_1).f2), .int .i64 ((rd_T53 t440 x11_1).f3), .int .i64 ((rd_T53 t440 x11_1).f4), .int .i64 ((rd_T53 t440 x11_1).f5)] 53 (0, 0)) (kz BK444) hg (Kd.R_ne HO_15.out BK444.out (by decide))); have n4_ := Aside0.mk (hb); have n5_ := Aside0.mk (ho); clear HO_7; clear HO_9; clear BK438; clear BK444; clear HB; clear HO_15; have HO_7 := n0_; have HO_9 := n1_; have BK438 := n2_; have BK444 := n3_; have HB := n4_; have HO448 := n5_; clear n0_ n1_ n2_ n3_ n4_ n5_; clear ho hb hg hat))
               go_roundg k3
               case measure => have := HK1.out; have := HK2.out; have := HK3.out; omega
               case rel => exact ⟨(y446), (wrap64 (x16_3 + 1)), (by first | rfl | (simp; done) | (simp [*]; done)), H', ⟨by have := HK1.out; have := HK2.out; have := HK3.out; omega⟩, ⟨oz HO_7⟩, ⟨oz HO_9⟩, ⟨oz HO448⟩, ⟨kz BK438⟩, ⟨kz BK444⟩, ⟨hz HB⟩⟩
              ·rw [if_neg c23] at H
               exact absurd H (by simp)
             ·rw [if_neg c22] at H
              exact absurd H (by simp)
            ·rw [if_neg c21] at H
             exact absurd H (by simp)
           ·rw [if_neg c20] at H
            exact absurd H (by simp)
          ·rw [if_neg c18] at H
           have c18b0 : decide (x16_3 < ((rd_T53 t440 x11_1).f4)) = false := decide_eq_false c18
           clear c18
           replace H := Option.bind_eq_some_iff.mp H
           obtain ⟨⟨t449, t450⟩, A290, H⟩ := H
           replace H : (if (l2.length : Int) = 0 then (none) else (if 0 ≤ (Int.tmod x10_2 (l2.length : Int)) then (if (Int.tmod x10_2 (l2.length : Int)) < (l2.length : Int) then (if (rd l2 (Int.tmod x10_2 (l2.length : Int))) < 0 then ((vitrineref12_Bytes.f k3 a0_0 a0_1 a0_2 a0_3 a0_4).bind fun t452 => ((vitrineref09_Pick.f k3 t452 t449 x13_2).bind fun bt453 => (vitrineref12_Pack.j3 k3 l1 l2 x7_2 t439 t440 (wrap64 (x10_2 + 1)) x11_1 x13_2 x14_2 t449 bt453.1 a0_0 a0_1 a0_2 a0_3 a0_4 ((rd_T53 t440 x11_1).f0) ((rd_T53 t440 x11_1).f1) ((rd_T53 t440 x11_1).f2) ((rd_T53 t440 x11_1).f3) ((rd_T53 t440 x11_1).f4) ((rd_T53 t440 x11_1).f5)))) else (vitrineref12_Pack.j3 k3 l1 l2 x7_2 t439 t440 (wrap64 (x10_2 + 1)) x11_1 x13_2 x14_2 t449 (rd l2 (Int.tmod x10_2 (l2.length : Int))) a0_0 a0_1 a0_2 a0_3 a0_4 ((rd_T53 t440 x11_1).f0) ((rd_T53 t440 x11_1).f1) ((rd_T53 t440 x11_1).f2) ((rd_T53 t440 x11_1).f3) ((rd_T53 t440 x11_1).f4) ((rd_T53 t440 x11_1).f5))) else (none)) else (none))) = some r := H
           have A29 := Aside0.mk A290
           clear A290
           by_cases c30 : (l2.length : Int) = 0
           ·rw [if_pos c30] at H
            exact absurd H (by simp)
           ·rw [if_neg c30] at H
            have c30b0 : ((l2.length : Int) == 0) = false := beq_eq_false_iff_ne.mpr c30
            have c30b1 : ((l2.length : Int) != 0) = true := bne_iff_ne.mpr c30
            have c30b2 : ¬ (l2 = []) := fun h_ => c30 (by rw [h_]; rfl)
            obtain ⟨ji31, hji31⟩ : ∃ j_ : Int, (Int.tmod x10_2 (l2.length : Int)) = j_ := ⟨_, rfl⟩
            replace H : (if 0 ≤ (ji31) then (if (ji31) < (l2.length : Int) then (if (rd l2 (ji31)) < 0 then ((vitrineref12_Bytes.f k3 a0_0 a0_1 a0_2 a0_3 a0_4).bind fun t452 => ((vitrineref09_Pick.f k3 t452 t449 x13_2).bind fun bt453 => (vitrineref12_Pack.j3 k3 l1 l2 x7_2 t439 t440 (wrap64 (x10_2 + 1)) x11_1 x13_2 x14_2 t449 bt453.1 a0_0 a0_1 a0_2 a0_3 a0_4 ((rd_T53 t440 x11_1).f0) ((rd_T53 t440 x11_1).f1) ((rd_T53 t440 x11_1).f2) ((rd_T53 t440 x11_1).f3) ((rd_T53 t440 x11_1).f4) ((rd_T53 t440 x11_1).f5)))) else (vitrineref12_Pack.j3 k3 l1 l2 x7_2 t439 t440 (wrap64 (x10_2 + 1)) x11_1 x13_2 x14_2 t449 (rd l2 (ji31)) a0_0 a0_1 a0_2 a0_3 a0_4 ((rd_T53 t440 x11_1).f0) ((rd_T53 t440 x11_1).f1) ((rd_T53 t440 x11_1).f2) ((rd_T53 t440 x11_1).f3) ((rd_T53 t440 x11_1).f4) ((rd_T53 t440 x11_1).f5))) else (none)) else (none)) = some r := by first | (rw [hji31] at H; exact H) | (simp only [hji31] at H ⊢; exact H)
            (try rw [hji31] at A29)
            by_cases c32 : 0 ≤ (ji31)
            ·rw [if_pos c32] at H
             have c32b0 : decide (0 ≤ (ji31)) = true := decide_eq_true c32
             clear c32
             by_cases c33 : (ji31) < (l2.length : Int)
             ·rw [if_pos c33] at H
              have c33b0 : decide ((ji31) < (l2.length : Int)) = true := decide_eq_true c33
              clear c33
              have HC34 := Aside0.mk H
              clear H
              have hnb35 := NB444_438.out
              have hnc35 := NB438_444.out
              have hcz36_0 : wr.cell? ⟨gb444, 0, none⟩ = some (.int .i64 ((rd_T53 t440 x11_1).f0)) := (blk_cell BK444.out 0).trans rfl
              have hcz36_1 : wr.cell? ⟨gb444, 1, none⟩ = some (.int .i64 ((rd_T53 t440 x11_1).f1)) := (blk_cell BK444.out 1).trans rfl
              have hcz36_2 : wr.cell? ⟨gb444, 2, none⟩ = some (.int .i64 ((rd_T53 t440 x11_1).f2)) := (blk_cell BK444.out 2).trans rfl
              have hcz36_3 : wr.cell? ⟨gb444, 3, none⟩ = some (.int .i64 ((rd_T53 t440 x11_1).f3)) := (blk_cell BK444.out 3).trans rfl
              have hcz36_4 : wr.cell? ⟨gb444, 4, none⟩ = some (.int .i64 ((rd_T53 t440 x11_1).f4)) := (blk_cell BK444.out 4).trans rfl
              have hcz36_5 : wr.cell? ⟨gb444, 5, none⟩ = some (.int .i64 ((rd_T53 t440 x11_1).f5)) := (blk_cell BK444.out 5).trans rfl
              have hfz36_0 := blk_frozen BK444.out 0
              have hfz36_1 := blk_frozen BK444.out 1
              have hfz36_2 := blk_frozen BK444.out 2
              have hfz36_3 := blk_frozen BK444.out 3
              have hfz36_4 := blk_frozen BK444.out 4
              have hfz36_5 := blk_frozen BK444.out 5
              have hcz37_0 : wr.cell? ⟨gb438, 0, none⟩ = some (.int .i64 a0_0) := (blk_cell BK438.out 0).trans rfl
              have hcz37_1 : wr.cell? ⟨gb438, 1, none⟩ = some (.int .i64 a0_1) := (blk_cell BK438.out 1).trans rfl
              have hcz37_2 : wr.cell? ⟨gb438, 2, none⟩ = some (.int .i64 a0_2) := (blk_cell BK438.out 2).trans rfl
              have hcz37_3 : wr.cell? ⟨gb438, 3, none⟩ = some (.int .i64 a0_3) := (blk_cell BK438.out 3).trans rfl
              have hcz37_4 : wr.cell? ⟨gb438, 4, none⟩ = some (.int .i64 a0_4) := (blk_cell BK438.out 4).trans rfl
              have hfz37_0 := blk_frozen BK438.out 0
              have hfz37_1 := blk_frozen BK438.out 1
              have hfz37_2 := blk_frozen BK438.out 2
              have hfz37_3 := blk_frozen BK438.out 3
              have hfz37_4 := blk_frozen BK438.out 4
              obtain ⟨Ao38, co38, eo38⟩ := Kd.R_slice HO_15.out
              subst eo38
              go_upto_if 95 with (first | ((with_reducible refine gate_callee (f := 33) rfl ?_); refine gz 82 Try.func33 #[.int .i64 a0_2, .slice Ao38 x15_3.length co38] ?_; (with_reducible refine (vitrineref11_Pack.calls k3 a0_2 _ _ x15_3 t449 t450 _ ?side1 ?side2 A29.out).mono ?_); (case side1 => repeat (first | exact (Kd.R_reads' HO_15.out).2.2 | (with_reducible refine Kd.C_alloc ?_ _) | (with_reducible refine Kd.C_drewN ?_ _) | (with_reducible refine Kd.C_drew ?_))); (case side2 => exact (Kd.R_reads' HO_15.out).2.1); rintro e w39 ⟨rfl, hb⟩; refine ⟨_, rfl, ?_⟩; have n0_ := Aside0.mk (Kd.R_below (oz HO_7) hb); have n1_ := Aside0.mk (Kd.R_below (oz HO_9) hb); have n2_ := Aside0.mk (Kd.R_below (oz HO_15) hb); have n3_ := Aside0.mk (blk_below (g := gb438) (o := .cells #[.int .i64 a0_0, .int .i64 a0_1, .int .i64 a0_2, .int .i64 a0_3, .int .i64 a0_4] 29 (0, 0)) (kz BK438) hb); have n4_ := Aside0.mk (blk_below (g := gb444) (o := .cells #[.int .i64 ((rd_T53 t440 x11_1).f0), .int .i64 ((rd_T53 t440 x11_1).f1), .int .i64 ((rd_T53 t440 x11_1).f2), .int .i64 ((rd_T53 t440 x11_1).f3), .int .i64 ((rd_T53 t440 x11_1).f4), .int .i64 ((rd_T53 t440 x11_1).f5)] 53 (0, 0)) (kz BK444) hb); have n5_ := Aside0.mk (below_step (hz HB) hb); clear HO_7; clear HO_9; clear HO_15; clear BK438; clear BK444; clear HB; have HO_7 := n0_; have HO_9 := n1_; have HO_15 := n2_; have BK438 := n3_; have BK444 := n4_; have HB := n5_; clear n0_ n1_ n2_ n3_ n4_ n5_; (try clear hb); (try clear hb2); (try clear hk); (try clear hi); have p451 : 0 ≤ ((ji31) : Int) := of_decide_eq_true (by first | (with_reducible assumption) | assumption); have q451 : (ji31) < (l2.length : Int) := of_decide_eq_true (by first | (with_reducible assumption) | assumption); obtain ⟨ad451, e451, hx451_0⟩ := Kd.at_int HR2.out (ji31) p451 q451; cases e451; replace hx451_0 := (HB.out.cell (World.block_lt_of_cell? w _ hx451_0)).trans hx451_0; replace p451 := eq_true p451; replace q451 := eq_true q451))
              (try simp only [Act.put, List.setIfInBounds_toArray, List.set_cons_zero, List.set_cons_succ])
              go_cut [20] (fun v20 wc => ∃ (kq : Nat) (x20_33 : Int), v20 = .int .i64 x20_33 ∧ Aside0 (vitrineref12_Pack.j3 kq l1 l2 x7_2 t439 t440 (wrap64 (x10_2 + 1)) x11_1 x13_2 x14_2 t449 x20_33 a0_0 a0_1 a0_2 a0_3 a0_4 ((rd_T53 t440 x11_1).f0) ((rd_T53 t440 x11_1).f1) ((rd_T53 t440 x11_1).f2) ((rd_T53 t440 x11_1).f3) ((rd_T53 t440 x11_1).f4) ((rd_T53 t440 x11_1).f5) = some r) ∧ Aside0 (kq ≤ k3) ∧ Aside0 (Kd.R (Kd.int .u8) 5 wc w.heap.size (fun _ => True) u7 x7_2) ∧ Aside0 (Kd.R k53 53 wc w.heap.size (fun k_ => k_ ≠ gb444) (.slice (some ad443) t440.length co11) t440) ∧ Aside0 (wc.heap[gb438]? = some (.cells #[.int .i64 a0_0, .int .i64 a0_1, .int .i64 a0_2, .int .i64 a0_3, .int .i64 a0_4] 29 (0, 0))) ∧ Aside0 (wc.heap[gb444]? = some (.cells #[.int .i64 ((rd_T53 t440 x11_1).f0), .int .i64 ((rd_T53 t440 x11_1).f1), .int .i64 ((rd_T53 t440 x11_1).f2), .int .i64 ((rd_T53 t440 x11_1).f3), .int .i64 ((rd_T53 t440 x11_1).f4), .int .i64 ((rd_T53 t440 x11_1).f5)] 53 (0, 0))) ∧ Aside0 (Below w.heap.size w wc))
              case first =>
               have H := HC34.out
               clear HC34
               by_cases c40 : (rd l2 (ji31)) < 0
               ·rw [if_pos c40] at H
                have c40b0 : decide ((rd l2 (ji31)) < 0) = true := decide_eq_true c40
                clear c40
                (first | rw [c40b0] | (simp only [i64_w, i32_w]; rw [c40b0]) | skip)
                replace H := Option.bind_eq_some_iff.mp H
                obtain ⟨t452, A410, H⟩ := H
                replace H : ((vitrineref09_Pick.f k3 t452 t449 x13_2).bind fun bt453 => (vitrineref12_Pack.j3 k3 l1 l2 x7_2 t439 t440 (wrap64 (x10_2 + 1)) x11_1 x13_2 x14_2 t449 bt453.1 a0_0 a0_1 a0_2 a0_3 a0_4 ((rd_T53 t440 x11_1).f0) ((rd_T53 t440 x11_1).f1) ((rd_T53 t440 x11_1).f2) ((rd_T53 t440 x11_1).f3) ((rd_T53 t440 x11_1).f4) ((rd_T53 t440 x11_1).f5))) = some r := H
                have A41 := Aside0.mk A410
                clear A410
                replace H := Option.bind_eq_some_iff.mp H
                obtain ⟨⟨t453, t454⟩, A420, H⟩ := H
                replace H : (vitrineref12_Pack.j3 k3 l1 l2 x7_2 t439 t440 (wrap64 (x10_2 + 1)) x11_1 x13_2 x14_2 t449 t453 a0_0 a0_1 a0_2 a0_3 a0_4 ((rd_T53 t440 x11_1).f0) ((rd_T53 t440 x11_1).f1) ((rd_T53 t440 x11_1).f2) ((rd_T53 t440 x11_1).f3) ((rd_T53 t440 x11_1).f4) ((rd_T53 t440 x11_1).f5)) = some r := H
                have A42 := Aside0.mk A420
                clear A420
                have H' := Aside0.mk H
                clear H
                have hnb43 := NB438_444.out
                have hnc43 := NB444_438.out
                have hcz44_0 : w39.cell? ⟨gb438, 0, none⟩ = some (.int .i64 a0_0) := (blk_cell BK438.out 0).trans rfl
                have hcz44_1 : w39.cell? ⟨gb438, 1, none⟩ = some (.int .i64 a0_1) := (blk_cell BK438.out 1).trans rfl
                have hcz44_2 : w39.cell? ⟨gb438, 2, none⟩ = some (.int .i64 a0_2) := (blk_cell BK438.out 2).trans rfl
                have hcz44_3 : w39.cell? ⟨gb438, 3, none⟩ = some (.int .i64 a0_3) := (blk_cell BK438.out 3).trans rfl
                have hcz44_4 : w39.cell? ⟨gb438, 4, none⟩ = some (.int .i64 a0_4) := (blk_cell BK438.out 4).trans rfl
                have hfz44_0 := blk_frozen BK438.out 0
                have hfz44_1 := blk_frozen BK438.out 1
                have hfz44_2 := blk_frozen BK438.out 2
                have hfz44_3 := blk_frozen BK438.out 3
                have hfz44_4 := blk_frozen BK438.out 4
                go_wp2_with (first | ((with_reducible refine gate_callee (f := 28) rfl ?_); refine gz 98 Try.func28 #[.agg #[.int .i64 a0_0, .int .i64 a0_1, .int .i64 a0_2, .int .i64 a0_3, .int .i64 a0_4]] ?_; (with_reducible refine (vitrineref12_Bytes.calls k3 a0_0 a0_1 a0_2 a0_3 a0_4 t452 _ A41.out).mono ?_); rintro e w45 ⟨rfl, hb⟩; refine ⟨_, rfl, ?_⟩; have n0_ := Aside0.mk (Kd.R_below (oz HO_7) hb); have n1_ := Aside0.mk (Kd.R_below (oz HO_9) hb); have n2_ := Aside0.mk (Kd.R_below (oz HO_15) hb); have n3_ := Aside0.mk (blk_below (g := gb438) (o := .cells #[.int .i64 a0_0, .int .i64 a0_1, .int .i64 a0_2, .int .i64 a0_3, .int .i64 a0_4] 29 (0, 0)) (kz BK438) hb); have n4_ := Aside0.mk (blk_below (g := gb444) (o := .cells #[.int .i64 ((rd_T53 t440 x11_1).f0), .int .i64 ((rd_T53 t440 x11_1).f1), .int .i64 ((rd_T53 t440 x11_1).f2), .int .i64 ((rd_T53 t440 x11_1).f3), .int .i64 ((rd_T53 t440 x11_1).f4), .int .i64 ((rd_T53 t440 x11_1).f5)] 53 (0, 0)) (kz BK444) hb); have n5_ := Aside0.mk (below_step (hz HB) hb); clear HO_7; clear HO_9; clear HO_15; clear BK438; clear BK444; clear HB; have HO_7 := n0_; have HO_9 := n1_; have HO_15 := n2_; have BK438 := n3_; have BK444 := n4_; have HB := n5_; clear n0_ n1_ n2_ n3_ n4_ n5_; (try clear hb); (try clear hb2); (try clear hk); (try clear hi)) | ((with_reducible refine gate_callee (f := 34) rfl ?_); refine gz 101 Try.func34 #[.int .i64 t452, .string t449, .string x13_2] ?_; (with_reducible refine (vitrineref09_Pick.calls k3 t452 t449 x13_2 t453 t454 _ A42.out).mono ?_); rintro e w46 ⟨rfl, hb⟩; refine ⟨_, rfl, ?_⟩; have n0_ := Aside0.mk (Kd.R_below (oz HO_7) hb); have n1_ := Aside0.mk (Kd.R_below (oz HO_9) hb); have n2_ := Aside0.mk (Kd.R_below (oz HO_15) hb); have n3_ := Aside0.mk (blk_below (g := gb438) (o := .cells #[.int .i64 a0_0, .int .i64 a0_1, .int .i64 a0_2, .int .i64 a0_3, .int .i64 a0_4] 29 (0, 0)) (kz BK438) hb); have n4_ := Aside0.mk (blk_below (g := gb444) (o := .cells #[.int .i64 ((rd_T53 t440 x11_1).f0), .int .i64 ((rd_T53 t440 x11_1).f1), .int .i64 ((rd_T53 t440 x11_1).f2), .int .i64 ((rd_T53 t440 x11_1).f3), .int .i64 ((rd_T53 t440 x11_1).f4), .int .i64 ((rd_T53 t440 x11_1).f5)] 53 (0, 0)) (kz BK444) hb); have n5_ := Aside0.mk (below_step (hz HB) hb); clear HO_7; clear HO_9; clear HO_15; clear BK438; clear BK444; clear HB; have HO_7 := n0_; have HO_9 := n1_; have HO_15 := n2_; have BK438 := n3_; have BK444 := n4_; have HB := n5_; clear n0_ n1_ n2_ n3_ n4_ n5_; (try clear hb); (try clear hb2); (try clear hk); (try clear hi)))
                go_meet
                case rel => exact ⟨_, (t453), (by first | rfl | (simp; done) | (simp [*]; done)), H', ⟨by have := HK1.out; have := HK2.out; have := HK3.out; first | omega | exact Nat.le_refl _⟩, ⟨oz HO_7⟩, ⟨oz HO_9⟩, ⟨kz BK438⟩, ⟨kz BK444⟩, ⟨hz HB⟩⟩
               ·rw [if_neg c40] at H
                have c40b0 : decide ((rd l2 (ji31)) < 0) = false := decide_eq_false c40
                clear c40
                (first | rw [c40b0] | (simp only [i64_w, i32_w]; rw [c40b0]) | skip)
                have H' := Aside0.mk H
                clear H
                go_wp2
                go_meet
                case rel => exact ⟨_, (rd l2 (ji31)), (by first | rfl | (simp; done) | (simp only [← hji31] <;> (first | rfl | simp)) | (simp [*]; done)), H', ⟨by have := HK1.out; have := HK2.out; have := HK3.out; first | omega | exact Nat.le_refl _⟩, ⟨oz HO_7⟩, ⟨oz HO_9⟩, ⟨kz BK438⟩, ⟨kz BK444⟩, ⟨hz HB⟩⟩
              case rest =>
               clear HC34
               try clear c9
               try clear c9b0
               try clear c10
               try clear c10b0
               try clear c15
               try clear c15b0
               try clear c18
               try clear c18b0
               try clear c30
               try clear c30b0
               try clear c30b1
               try clear c30b2
               try clear c32
               try clear c32b0
               try clear c33
               try clear c33b0
               try clear hcz14_0
               try clear hcz14_1
               try clear hcz14_2
               try clear hcz14_3
               try clear hcz14_4
               try clear hcz14_5
               try clear hcz17_0
               try clear hcz17_1
               try clear hcz17_2
               try clear hcz17_3
               try clear hcz17_4
               try clear hcz17_5
               try clear hcz36_0
               try clear hcz36_1
               try clear hcz36_2
               try clear hcz36_3
               try clear hcz36_4
               try clear hcz36_5
               try clear hcz37_0
               try clear hcz37_1
               try clear hcz37_2
               try clear hcz37_3
               try clear hcz37_4
               try clear hcz7_0
               try clear hcz7_1
               try clear hcz7_2
               try clear hcz7_3
               try clear hcz7_4
               try clear hfz14_0
               try clear hfz14_1
               try clear hfz14_2
               try clear hfz14_3
               try clear hfz14_4
               try clear hfz14_5
               try clear hfz17_0
               try clear hfz17_1
               try clear hfz17_2
               try clear hfz17_3
               try clear hfz17_4
               try clear hfz17_5
               try clear hfz36_0
               try clear hfz36_1
               try clear hfz36_2
               try clear hfz36_3
               try clear hfz36_4
               try clear hfz36_5
               try clear hfz37_0
               try clear hfz37_1
               try clear hfz37_2
               try clear hfz37_3
               try clear hfz37_4
               try clear hfz7_0
               try clear hfz7_1
               try clear hfz7_2
               try clear hfz7_3
               try clear hfz7_4
               try clear hx443_0
               try clear hx443_1
               try clear hx443_2
               try clear hx443_3
               try clear hx443_4
               try clear hx443_5
               try clear hx451_0
               try clear p443
               try clear p451
               try clear q443
               try clear q451
               obtain ⟨kq, x20_33, rfl, HA, HJ33, HO_7, HO_9, BK438, BK444, HB⟩ := hcut
               cases kq with
               | zero => exact absurd HA.out (by simp [vitrineref12_Pack.j3])
               | succ kj33 =>
                have H := HA.out
                clear HA
                simp only [vitrineref12_Pack.j3] at H
                replace H := Option.bind_eq_some_iff.mp H
                obtain ⟨t455, A470, H⟩ := H
                replace H : ((vitrineref09_Do.f kj33 t455 x20_33 t449 x13_2).bind fun bt456 => (if x7_2.length < 140737488355328 then ((some (x7_2 ++ [(x20_33) % 256] : List Int)).bind fun y458 => (if y458.length + bt456.1.size < 140737488355328 then (vitrineref12_Pack.l1 kj33 l1 l2 (y458 ++ bytesOf bt456.1) t439 t440 (wrap64 (x10_2 + 1)) x11_1 t449 (wrap64 (x14_2 + 1)) a0_0 a0_1 a0_2 a0_3 a0_4 ((rd_T53 t440 x11_1).f0) ((rd_T53 t440 x11_1).f1) ((rd_T53 t440 x11_1).f2) ((rd_T53 t440 x11_1).f3) ((rd_T53 t440 x11_1).f4) ((rd_T53 t440 x11_1).f5)) else (none))) else (none))) = some r := H
                have A47 := Aside0.mk A470
                clear A470
                replace H := Option.bind_eq_some_iff.mp H
                obtain ⟨⟨t456, t457⟩, A480, H⟩ := H
                replace H : (if x7_2.length < 140737488355328 then ((some (x7_2 ++ [(x20_33) % 256] : List Int)).bind fun y458 => (if y458.length + t456.size < 140737488355328 then (vitrineref12_Pack.l1 kj33 l1 l2 (y458 ++ bytesOf t456) t439 t440 (wrap64 (x10_2 + 1)) x11_1 t449 (wrap64 (x14_2 + 1)) a0_0 a0_1 a0_2 a0_3 a0_4 ((rd_T53 t440 x11_1).f0) ((rd_T53 t440 x11_1).f1) ((rd_T53 t440 x11_1).f2) ((rd_T53 t440 x11_1).f3) ((rd_T53 t440 x11_1).f4) ((rd_T53 t440 x11_1).f5)) else (none))) else (none)) = some r := H
                have A48 := Aside0.mk A480
                clear A480
                by_cases c49 : x7_2.length < 140737488355328
                ·rw [if_pos c49] at H
                 have LMc49 := Aside0.mk c49
                 clear c49
                 obtain ⟨y458, hy458⟩ : ∃ y_ : List Int, y_ = (x7_2 ++ [(x20_33) % 256]) := ⟨_, rfl⟩
                 replace H : (if y458.length + t456.size < 140737488355328 then (vitrineref12_Pack.l1 kj33 l1 l2 (y458 ++ bytesOf t456) t439 t440 (wrap64 (x10_2 + 1)) x11_1 t449 (wrap64 (x14_2 + 1)) a0_0 a0_1 a0_2 a0_3 a0_4 ((rd_T53 t440 x11_1).f0) ((rd_T53 t440 x11_1).f1) ((rd_T53 t440 x11_1).f2) ((rd_T53 t440 x11_1).f3) ((rd_T53 t440 x11_1).f4) ((rd_T53 t440 x11_1).f5)) else (none)) = some r := by first | (rw [hy458]; with_reducible exact H) | (have H2_ := (Option.bind_some _ _).symm.trans H; rw [hy458]; with_reducible exact H2_) | (have H2_ := (Option.bind_some _ _).symm.trans H; with_reducible exact H2_) | with_reducible exact H | (rw [hy458]; exact H) | exact H
                 have Ny458 := Aside0.mk hy458
                 clear hy458
                 by_cases c50 : y458.length + t456.size < 140737488355328
                 ·rw [if_pos c50] at H
                  have LMc50 := Aside0.mk c50
                  clear c50
                  obtain ⟨y461, hy461⟩ : ∃ y_ : List Int, y_ = (y458 ++ bytesOf t456) := ⟨_, rfl⟩
                  replace H : (vitrineref12_Pack.l1 kj33 l1 l2 y461 t439 t440 (wrap64 (x10_2 + 1)) x11_1 t449 (wrap64 (x14_2 + 1)) a0_0 a0_1 a0_2 a0_3 a0_4 ((rd_T53 t440 x11_1).f0) ((rd_T53 t440 x11_1).f1) ((rd_T53 t440 x11_1).f2) ((rd_T53 t440 x11_1).f3) ((rd_T53 t440 x11_1).f4) ((rd_T53 t440 x11_1).f5)) = some r := by first | (rw [hy461]; with_reducible exact H) | (have H2_ := (Option.bind_some _ _).symm.trans H; rw [hy461]; with_reducible exact H2_) | (have H2_ := (Option.bind_some _ _).symm.trans H; with_reducible exact H2_) | with_reducible exact H | (rw [hy461]; exact H) | exact H
                  have Ny461 := Aside0.mk hy461
                  clear hy461
                  have H' := Aside0.mk H
                  clear H
                  have hnb51 := NB438_444.out
                  have hnc51 := NB444_438.out
                  have hcz52_0 : wc.cell? ⟨gb438, 0, none⟩ = some (.int .i64 a0_0) := (blk_cell BK438.out 0).trans rfl
                  have hcz52_1 : wc.cell? ⟨gb438, 1, none⟩ = some (.int .i64 a0_1) := (blk_cell BK438.out 1).trans rfl
                  have hcz52_2 : wc.cell? ⟨gb438, 2, none⟩ = some (.int .i64 a0_2) := (blk_cell BK438.out 2).trans rfl
                  have hcz52_3 : wc.cell? ⟨gb438, 3, none⟩ = some (.int .i64 a0_3) := (blk_cell BK438.out 3).trans rfl
                  have hcz52_4 : wc.cell? ⟨gb438, 4, none⟩ = some (.int .i64 a0_4) := (blk_cell BK438.out 4).trans rfl
                  have hfz52_0 := blk_frozen BK438.out 0
                  have hfz52_1 := blk_frozen BK438.out 1
                  have hfz52_2 := blk_frozen BK438.out 2
                  have hfz52_3 := blk_frozen BK438.out 3
                  have hfz52_4 := blk_frozen BK438.out 4
                  go_wp2_with (first | ((with_reducible refine gate_callee (f := 28) rfl ?_); refine gz 106 Try.func28 #[.agg #[.int .i64 a0_0, .int .i64 a0_1, .int .i64 a0_2, .int .i64 a0_3, .int .i64 a0_4]] ?_; (with_reducible refine (vitrineref12_Bytes.calls kj33 a0_0 a0_1 a0_2 a0_3 a0_4 t455 _ A47.out).mono ?_); rintro e w53 ⟨rfl, hb⟩; refine ⟨_, rfl, ?_⟩; have n0_ := Aside0.mk (Kd.R_below (oz HO_7) hb); have n1_ := Aside0.mk (Kd.R_below (oz HO_9) hb); have n2_ := Aside0.mk (blk_below (g := gb438) (o := .cells #[.int .i64 a0_0, .int .i64 a0_1, .int .i64 a0_2, .int .i64 a0_3, .int .i64 a0_4] 29 (0, 0)) (kz BK438) hb); have n3_ := Aside0.mk (blk_below (g := gb444) (o := .cells #[.int .i64 ((rd_T53 t440 x11_1).f0), .int .i64 ((rd_T53 t440 x11_1).f1), .int .i64 ((rd_T53 t440 x11_1).f2), .int .i64 ((rd_T53 t440 x11_1).f3), .int .i64 ((rd_T53 t440 x11_1).f4), .int .i64 ((rd_T53 t440 x11_1).f5)] 53 (0, 0)) (kz BK444) hb); have n4_ := Aside0.mk (below_step (hz HB) hb); clear HO_7; clear HO_9; clear BK438; clear BK444; clear HB; have HO_7 := n0_; have HO_9 := n1_; have BK438 := n2_; have BK444 := n3_; have HB := n4_; clear n0_ n1_ n2_ n3_ n4_; (try clear hb); (try clear hb2); (try clear hk); (try clear hi)) | ((with_reducible refine gate_callee (f := 35) rfl ?_); refine gz 110 Try.func35 #[.int .i64 t455, .int .i64 x20_33, .string t449, .string x13_2] ?_; (with_reducible refine (vitrineref09_Do.calls kj33 t455 x20_33 t449 x13_2 t456 t457 _ A48.out).mono ?_); rintro e w54 ⟨rfl, hb⟩; refine ⟨_, rfl, ?_⟩; have n0_ := Aside0.mk (Kd.R_below (oz HO_7) hb); have n1_ := Aside0.mk (Kd.R_below (oz HO_9) hb); have n2_ := Aside0.mk (blk_below (g := gb438) (o := .cells #[.int .i64 a0_0, .int .i64 a0_1, .int .i64 a0_2, .int .i64 a0_3, .int .i64 a0_4] 29 (0, 0)) (kz BK438) hb); have n3_ := Aside0.mk (blk_below (g := gb444) (o := .cells #[.int .i64 ((rd_T53 t440 x11_1).f0), .int .i64 ((rd_T53 t440 x11_1).f1), .int .i64 ((rd_T53 t440 x11_1).f2), .int .i64 ((rd_T53 t440 x11_1).f3), .int .i64 ((rd_T53 t440 x11_1).f4), .int .i64 ((rd_T53 t440 x11_1).f5)] 53 (0, 0)) (kz BK444) hb); have n4_ := Aside0.mk (below_step (hz HB) hb); clear HO_7; clear HO_9; clear BK438; clear BK444; clear HB; have HO_7 := n0_; have HO_9 := n1_; have BK438 := n2_; have BK444 := n3_; have HB := n4_; clear n0_ n1_ n2_ n3_ n4_; (try clear hb); (try clear hb2); (try clear hk); (try clear hi)) | ((with_reducible refine gate_builtin (b := .append) (xs := #[.tmp 113, .tmp 116]) rfl ?_); at_builtin; refine Kd.R_append (Kd.int .u8) (w0 := w) w.heap.size rfl (.tmp 113) (.tmp 116) 45 5 (.int .u8 0) 1 rfl Try.underlying45 info5 rfl (by decide) (by omega) u7 x7_2 ((x20_33) % 256) [.int .u8 ((x20_33) % 256)] (fun _ => True) (fun _ => False) rfl rfl ?aP (fun _ hk => hk.elim) ?aF ?aO ?aB ?aS ?aL ?_; (case aP => exact rfl); (case aB => exact (hz HB)); (case aF => exact (fun _ _ => trivial)); (case aO => exact (oz HO_7)); (case aS => exact (below_size (hz HB))); (case aL => have := LMc49.out; omega); intro v459 w55 ho hb hg hat; rw [← Ny458.out] at ho; have n0_ := Aside0.mk (Kd.R_over' (oz HO_9) (Kd.R_typed (oz HO_7)) (by decide) hg); have n1_ := Aside0.mk (blk_grown (g := gb438) (o := .cells #[.int .i64 a0_0, .int .i64 a0_1, .int .i64 a0_2, .int .i64 a0_3, .int .i64 a0_4] 29 (0, 0)) (kz BK438) hg (Kd.R_ne HO_7.out BK438.out (by decide))); have n2_ := Aside0.mk (blk_grown (g := gb444) (o := .cells #[.int .i64 ((rd_T53 t440 x11_1).f0), .int .i64 ((rd_T53 t440 x11_1).f1), .int .i64 ((rd_T53 t440 x11_1).f2), .int .i64 ((rd_T53 t440 x11_1).f3), .int .i64 ((rd_T53 t440 x11_1).f4), .int .i64 ((rd_T53 t440 x11_1).f5)] 53 (0, 0)) (kz BK444) hg (Kd.R_ne HO_7.out BK444.out (by decide))); have n3_ := Aside0.mk (hb); have n4_ := Aside0.mk (ho); clear HO_9; clear BK438; clear BK444; clear HB; clear HO_7; have HO_9 := n0_; have BK438 := n1_; have BK444 := n2_; have HB := n3_; have HO460 := n4_; clear n0_ n1_ n2_ n3_ n4_; clear ho hb hg hat) | (at_builtin; refine print_append_str (w0 := w) w.heap.size rfl (.tmp 118) _ 45 9 5 rfl Try.underlying45 Try.underlying9 info5 v459 y458 t456 rfl rfl ?aO ?aB ?aS ?aL ?_; (case aB => exact (hz HB)); (case aO => exact (Kd.own_of_R (oz HO460))); (case aS => exact (below_size (hz HB))); (case aL => have := LMc50.out; omega); intro v462 w56 ho0 hb hg; have ho := Kd.R_of_own (h1 := fun _ => rfl) (ok := fun _ => True) ho0 (fun _ _ => trivial); clear ho0; have hat := True.intro; rw [← Ny461.out] at ho; change Kd.R (Kd.int .u8) 5 w56 w.heap.size (fun _ => True) v462 y461 at ho; have n0_ := Aside0.mk (Kd.R_over' (oz HO_9) (Kd.R_typed (oz HO460)) (by decide) hg); have n1_ := Aside0.mk (blk_grown (g := gb438) (o := .cells #[.int .i64 a0_0, .int .i64 a0_1, .int .i64 a0_2, .int .i64 a0_3, .int .i64 a0_4] 29 (0, 0)) (kz BK438) hg (Kd.R_ne HO460.out BK438.out (by decide))); have n2_ := Aside0.mk (blk_grown (g := gb444) (o := .cells #[.int .i64 ((rd_T53 t440 x11_1).f0), .int .i64 ((rd_T53 t440 x11_1).f1), .int .i64 ((rd_T53 t440 x11_1).f2), .int .i64 ((rd_T53 t440 x11_1).f3), .int .i64 ((rd_T53 t440 x11_1).f4), .int .i64 ((rd_T53 t440 x11_1).f5)] 53 (0, 0)) (kz BK444) hg (Kd.R_ne HO460.out BK444.out (by decide))); have n3_ := Aside0.mk (hb); have n4_ := Aside0.mk (ho); clear HO_9; clear BK438; clear BK444; clear HB; clear HO460; have HO_9 := n0_; have BK438 := n1_; have BK444 := n2_; have HB := n3_; have HO463 := n4_; clear n0_ n1_ n2_ n3_ n4_; clear ho hb hg hat))
                  go_roundg kj33
                  case measure => have := HK1.out; have := HK2.out; have := HK3.out; have := HJ33.out; omega
                  case rel => exact ⟨(y461), ((wrap64 (x10_2 + 1))), (t449), (wrap64 (x14_2 + 1)), (by first | rfl | (simp; done) | (simp [*]; done)), (by first | rfl | (simp; done) | (simp [*]; done)), (by first | rfl | (simp; done) | (simp [*]; done)), H', ⟨by have := HK1.out; have := HK2.out; have := HK3.out; have := HJ33.out; omega⟩, ⟨oz HO463⟩, ⟨oz HO_9⟩, ⟨kz BK438⟩, ⟨kz BK444⟩, ⟨hz HB⟩⟩
                 ·rw [if_neg c50] at H
                  exact absurd H (by simp)
                ·rw [if_neg c49] at H
                 exact absurd H (by simp)
             ·rw [if_neg c33] at H
              exact absurd H (by simp)
            ·rw [if_neg c32] at H
             exact absurd H (by simp)
       ·rw [if_neg c15] at H
        have c15b0 : decide (x14_2 < ((rd_T53 t440 x11_1).f5)) = false := decide_eq_false c15
        clear c15
        have H' := Aside0.mk H
        clear H
        have hnb57 := NB444_438.out
        have hnc57 := NB438_444.out
        have hcz58_0 : wr.cell? ⟨gb444, 0, none⟩ = some (.int .i64 ((rd_T53 t440 x11_1).f0)) := (blk_cell BK444.out 0).trans rfl
        have hcz58_1 : wr.cell? ⟨gb444, 1, none⟩ = some (.int .i64 ((rd_T53 t440 x11_1).f1)) := (blk_cell BK444.out 1).trans rfl
        have hcz58_2 : wr.cell? ⟨gb444, 2, none⟩ = some (.int .i64 ((rd_T53 t440 x11_1).f2)) := (blk_cell BK444.out 2).trans rfl
        have hcz58_3 : wr.cell? ⟨gb444, 3, none⟩ = some (.int .i64 ((rd_T53 t440 x11_1).f3)) := (blk_cell BK444.out 3).trans rfl
        have hcz58_4 : wr.cell? ⟨gb444, 4, none⟩ = some (.int .i64 ((rd_T53 t440 x11_1).f4)) := (blk_cell BK444.out 4).trans rfl
        have hcz58_5 : wr.cell? ⟨gb444, 5, none⟩ = some (.int .i64 ((rd_T53 t440 x11_1).f5)) := (blk_cell BK444.out 5).trans rfl
        have hfz58_0 := blk_frozen BK444.out 0
        have hfz58_1 := blk_frozen BK444.out 1
        have hfz58_2 := blk_frozen BK444.out 2
        have hfz58_3 := blk_frozen BK444.out 3
        have hfz58_4 := blk_frozen BK444.out 4
        have hfz58_5 := blk_frozen BK444.out 5
        go_wp2
        go_roundg k2
        case measure => have := HK1.out; have := HK2.out; omega
        case rel => exact ⟨(x7_2), (x10_2), (wrap64 (x11_1 + 1)), (by first | rfl | (simp; done) | (simp [*]; done)), (by first | rfl | (simp; done) | (simp [*]; done)), H', ⟨by have := HK1.out; have := HK2.out; omega⟩, ⟨oz HO_7⟩, ⟨by (with_reducible repeat (first | apply Kd.R_alloc | apply Kd.R_drewN | apply Kd.R_drew)); exact Kd.R_mono HO_9.out (fun _ hk => trivial)⟩, ⟨kz BK438⟩, ⟨hz HB⟩⟩
    ·rw [if_neg c10] at H
     exact absurd H (by simp)
   ·rw [if_neg c9] at H
    have c9b0 : decide (x11_1 < (t440.length : Int)) = false := decide_eq_false c9
    clear c9
    obtain rfl := Option.some.inj H
    obtain ⟨Ao59, co59, eo59⟩ := Kd.R_slice HO_9.out
    subst eo59
    have hcv60 := own_string (P := Try.prog) Try.underlying45 Try.underlying5 Try.underlying9 (Kd.own_of_R HO_7.out)
    go_wp2
    go_ret
    exact ⟨by first | rfl | (simp [errW_none, errW_some] <;> rfl) | (simp [*, errW_none, errW_some] <;> rfl), by repeat (first | (with_reducible first | exact HB.out | apply below_alloc | apply pw_below_drewN | apply below_drew1 | refine below_set ?_ GE438.out) | exact HB.out)⟩

end Go.Proofs.Ytejljcglbkjgkaa.PL12
