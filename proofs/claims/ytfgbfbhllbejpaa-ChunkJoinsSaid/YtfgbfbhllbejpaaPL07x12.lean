/- Printed for this claim by a program of this session over the kit's print program: the Go functions as Lean functions, and proofs that the calls come to these answers. No conditions. -/
import Derived.Test.YtfgbfbhllbejpaaM
import Derived.Test.YtfgbfbhllbejpaaPL07x0
import Derived.Test.YtfgbfbhllbejpaaPL07x7
import Derived.Test.YtfgbfbhllbejpaaPL07x11
namespace Go.Proofs.Ytfgbfbhllbejpaa.PL07
open Go.RowKit Go.Proofs.YtfgbfbhllbejpaaW.PrintWords Go.Proofs.YtfgbfbhllbejpaaW.PrintLast Go.Proofs.YtfgbfbhllbejpaaW.PrintMore
attribute [local go_sem] max2_int min2_int max_two min_two max_three min_three max_four min_four   -- for this text's walks alone
set_option linter.unusedVariables false
set_option linter.unusedSimpArgs false

/-! ### vitrineref07_Join: function 15 -/
mutual
def vitrineref07_Join.l0 : Nat → List (S35) → List Int → Int → Option (ByteArray × Int)
  | 0, _, _, _ => none
  | k + 1, x0, x4, x5 => if x5 < (x0.length : Int) then (if 0 ≤ x5 then ((vitrineref07_right.f k ((rd_T35 x0 x5).f0)).bind fun t181 => (if t181 = true then (vitrineref07_Join.j1 k x0 x4 x5 (decide ((((rd_T35 x0 x5).f1).size : Int) > 2147483647))) else (vitrineref07_Join.j1 k x0 x4 x5 true))) else (none)) else (some (strOfNums x4, 0))
def vitrineref07_Join.j1 : Nat → List (S35) → List Int → Int → Bool → Option (ByteArray × Int)
  | 0, _, _, _, _ => none
  | k + 1, x0, x4, x5, x29 => if x29 = true then (some ((⟨#[]⟩ : ByteArray), 21)) else (if 0 ≤ x5 then (if x5 < (x0.length : Int) then ((vitrineref06_Four.f (((rd_T35 x0 x5).f1).size : Int)).bind fun t184 => (if x4.length + t184.size < 140737488355328 then ((some (x4 ++ bytesOf t184 : List Int)).bind fun y185 => (if y185.length + ((rd_T35 x0 x5).f0).size < 140737488355328 then ((some (y185 ++ bytesOf ((rd_T35 x0 x5).f0) : List Int)).bind fun y189 => (if y189.length + ((rd_T35 x0 x5).f1).size < 140737488355328 then ((some (y189 ++ bytesOf ((rd_T35 x0 x5).f1) : List Int)).bind fun y193 => (if ((rd_T35 x0 x5).f0).size + ((rd_T35 x0 x5).f1).size ≤ 9223372036854775807 then ((vitrineref01_Crc.f k (((rd_T35 x0 x5).f0) ++ ((rd_T35 x0 x5).f1))).bind fun t198 => ((vitrineref06_Four.f t198).bind fun t199 => (if y193.length + t199.size < 140737488355328 then (vitrineref07_Join.l0 k x0 (y193 ++ bytesOf t199) (wrap64 (x5 + 1))) else (none)))) else (none))) else (none))) else (none))) else (none))) else (none)) else (none))
end
def vitrineref07_Join.f (k : Nat) (l0 : List (S35)) : Option (ByteArray × Int) := vitrineref07_Join.l0 k l0 (([137, 80, 78, 71, 13, 10, 26, 10] : List Int)) 0
theorem vitrineref07_Join.mono_l : ∀ k, (∀ y0 y1 y2, LeO (vitrineref07_Join.l0 k y0 y1 y2) (vitrineref07_Join.l0 (k + 1) y0 y1 y2)) ∧ (∀ y0 y1 y2 y3, LeO (vitrineref07_Join.j1 k y0 y1 y2 y3) (vitrineref07_Join.j1 (k + 1) y0 y1 y2 y3))
  | 0 => ⟨fun _ _ _ r h => by simp [vitrineref07_Join.l0] at h, fun _ _ _ _ r h => by simp [vitrineref07_Join.j1] at h⟩
  | k + 1 => by
    obtain ⟨ih0, ih1⟩ := vitrineref07_Join.mono_l k
    refine ⟨?_, ?_⟩
    · intro y0 y1 y2
      unfold vitrineref07_Join.l0
      repeat' first
      | (with_reducible exact ih0 _ _ _)
      | (with_reducible exact ih1 _ _ _ _)
      | (with_reducible exact vitrineref01_Crc.mono _ _)
      | (with_reducible exact vitrineref07_right.mono _ _)
      | (with_reducible exact LeO.refl _)
      | (with_reducible exact LeO.none _)
      | (with_reducible refine LeO.ite ?_ ?_)
      | (with_reducible refine LeO.bind ?_ (fun _ => ?_))
      | exact ih0 _ _ _
      | exact ih1 _ _ _ _
      | exact vitrineref01_Crc.mono _ _
      | exact vitrineref07_right.mono _ _
      | exact LeO.none _
      | refine LeO.ite ?_ ?_
      | refine LeO.bind ?_ (fun _ => ?_)
    · intro y0 y1 y2 y3
      unfold vitrineref07_Join.j1
      repeat' first
      | (with_reducible exact ih0 _ _ _)
      | (with_reducible exact ih1 _ _ _ _)
      | (with_reducible exact vitrineref01_Crc.mono _ _)
      | (with_reducible exact vitrineref07_right.mono _ _)
      | (with_reducible exact LeO.refl _)
      | (with_reducible exact LeO.none _)
      | (with_reducible refine LeO.ite ?_ ?_)
      | (with_reducible refine LeO.bind ?_ (fun _ => ?_))
      | exact ih0 _ _ _
      | exact ih1 _ _ _ _
      | exact vitrineref01_Crc.mono _ _
      | exact vitrineref07_right.mono _ _
      | exact LeO.none _
      | refine LeO.ite ?_ ?_
      | refine LeO.bind ?_ (fun _ => ?_)
theorem vitrineref07_Join.mono : ∀ a0 k, LeO (vitrineref07_Join.f k a0) (vitrineref07_Join.f (k + 1) a0) := by
  intro a0 k
  obtain ⟨ih0, ih1⟩ := vitrineref07_Join.mono_l k
  unfold vitrineref07_Join.f
  repeat' first
      | (with_reducible exact ih0 _ _ _)
      | (with_reducible exact ih1 _ _ _ _)
      | (with_reducible exact vitrineref01_Crc.mono _ _)
      | (with_reducible exact vitrineref07_right.mono _ _)
      | (with_reducible exact LeO.refl _)
      | (with_reducible exact LeO.none _)
      | (with_reducible refine LeO.ite ?_ ?_)
      | (with_reducible refine LeO.bind ?_ (fun _ => ?_))
      | exact ih0 _ _ _
      | exact ih1 _ _ _ _
      | exact vitrineref01_Crc.mono _ _
      | exact vitrineref07_right.mono _ _
      | exact LeO.none _
      | refine LeO.ite ?_ ?_
      | refine LeO.bind ?_ (fun _ => ?_)
def vitrineref07_Join.T10 : Bool × List (List Nat × List Nat) := (true, [([], []), ([], []), ([], []), ([1, 2], [1, 2]), ([3], [3]), ([4], [4]), ([], []), ([], []), ([6, 7], [6, 7]), ([8], [8]), ([9], [9]), ([5, 10], [5, 10]), ([11], [11]), ([12, 12], [12]), ([0, 13, 13], [0, 13]), ([14, 14, 0, 1, 2, 3, 4, 5, 6, 7, 8, 9, 10, 11, 12, 13, 14], [0, 14])])
def vitrineref07_Join.B10 : List Nat := [0, 0, 0, 6, 14, 30, 0, 0, 192, 448, 960, 2046, 4094, 8190, 16383, 32767]
theorem vitrineref07_Join.tab10 : rtab .any (opsOf Try.f15 10) = vitrineref07_Join.T10 := by kernel_rfl
theorem vitrineref07_Join.bits10 : waitsOk vitrineref07_Join.T10.2 vitrineref07_Join.B10 = true := by kernel_rfl
set_option maxHeartbeats 40000000 in
set_option maxRecDepth 100000 in
theorem vitrineref07_Join.calls (k : Nat) (A0 : Option Addr) (c0 : Nat) (l0 : List (S35)) (r1 : ByteArray) (r2 : Int) (w : World) (hr0 : Kd.C k35 w A0 l0.length l0) (hc0 : l0.length ≤ c0) (h : vitrineref07_Join.f k l0 = some (r1, r2)) :
    Calls Try.prog 15 #[.slice A0 l0.length c0] w fun e w' => e = .returned (.tuple #[.string r1, .int .i64 r2]) ∧ Below w.heap.size w w' := by
  have HR0 := Aside0.mk hr0
  have HC0 := Aside0.mk hc0
  clear hr0 hc0
  have HB := Aside0.mk (Below.refl w.heap.size w)
  have H : (vitrineref07_Join.l0 k l0 (([137, 80, 78, 71, 13, 10, 26, 10] : List Int)) 0) = some (r1, r2) := h
  clear h
  obtain ⟨y177, hy177⟩ : ∃ y_ : List Int, y_ = (([137, 80, 78, 71, 13, 10, 26, 10] : List Int)) := ⟨_, rfl⟩
  replace H : (vitrineref07_Join.l0 k l0 y177 0) = some (r1, r2) := by first | (rw [hy177]; with_reducible exact H) | (have H2_ := (Option.bind_some _ _).symm.trans H; rw [hy177]; with_reducible exact H2_) | (have H2_ := (Option.bind_some _ _).symm.trans H; with_reducible exact H2_) | with_reducible exact H | (rw [hy177]; exact H) | exact H
  have Ny177 := Aside0.mk hy177
  clear hy177
  have H' := Aside0.mk H
  clear H
  go_enter Try.func15, Try.ntmps15
  go_wp2_with (first | ((with_reducible refine gate_dst (N := 6) rfl ?_); (try (refine gate_guard (by rfl) ?_; dsimp only)); refine Kd.R_lit (Kd.int .u8) _ 5 ?hg (N := 6) ?hd (xs := ([137, 80, 78, 71, 13, 10, 26, 10] : List Int)) (inner := [.int .u8 137, .int .u8 80, .int .u8 78, .int .u8 71, .int .u8 13, .int .u8 10, .int .u8 26, .int .u8 10]) (ok := fun _ => True) (okp := fun _ => True) ?hr ?hp (fun _ hk => hk) trivial (Below.refl _ _) (Nat.le_refl _) (by simp) ?_; (case hd => rfl); (case hg => rfl); (case hr => first | (go_simp; done) | (go_simp; rfl)); (case hp => exact (Reps.one (show Kd.M (Kd.int .u8) _ _ _ 137 [.int .u8 137] from rfl) (Reps.one (show Kd.M (Kd.int .u8) _ _ _ 80 [.int .u8 80] from rfl) (Reps.one (show Kd.M (Kd.int .u8) _ _ _ 78 [.int .u8 78] from rfl) (Reps.one (show Kd.M (Kd.int .u8) _ _ _ 71 [.int .u8 71] from rfl) (Reps.one (show Kd.M (Kd.int .u8) _ _ _ 13 [.int .u8 13] from rfl) (Reps.one (show Kd.M (Kd.int .u8) _ _ _ 10 [.int .u8 10] from rfl) (Reps.one (show Kd.M (Kd.int .u8) _ _ _ 26 [.int .u8 26] from rfl) (Reps.one (show Kd.M (Kd.int .u8) _ _ _ 10 [.int .u8 10] from rfl) (Reps.none _ _)))))))))); intro v178 w2 ho3 hb hg_ hnew_; clear hg_ hnew_; (first | rw [← Ny177.out] at ho3 | (simp only [Int.reduceToNat] at ho3; rw [← Ny177.out] at ho3)); have n0_ := Aside0.mk (Kd.R_lower ho3 (below_size (by repeat (first | (with_reducible first | exact HB.out | apply below_alloc | apply pw_below_drewN | apply below_drew1) | exact HB.out)))); have n1_ := Aside0.mk (below_step (by repeat (first | (with_reducible first | exact HB.out | apply below_alloc | apply pw_below_drewN | apply below_drew1) | exact HB.out)) hb); clear HB; have HO179 := n0_; have HB := n1_; clear n0_ n1_; clear hb ho3) | ((with_reducible refine gate_dst (N := 7) rfl ?_); refine Go.Proofs.YtfgbfbhllbejpaaM.mark_event (Kd.int .u8) (w0 := w) w.heap.size rfl (N := 7) rfl (.tmp 6) 36 5 rfl Try.underlying36 Try.underlying5 _ y177 rfl (fun _ => True) HO179.out (by rw [Ny177.out]; decide) HB.out ?_; intro w03_ ho hb hg; have n0_ := Aside0.mk ho; have n1_ := Aside0.mk hb; clear HO179; clear HB; have HO179 := n0_; have HB := n1_; clear n0_ n1_ ho hb hg))
  go_loopg [4, 5] k (fun kq v4 v5 w' => ∃ (x4_1 : List Int) (x5_1 : Int), v5 = .int .i64 x5_1 ∧ Aside0 (vitrineref07_Join.l0 kq l0 x4_1 x5_1 = some (r1, r2)) ∧ Aside0 (kq ≤ k) ∧ Aside0 (Go.Proofs.YtfgbfbhllbejpaaM.RM (Kd.int .u8) 5 w' w.heap.size (fun _ => True) v4 x4_1) ∧ Aside0 (Below w.heap.size w w'))
  case atStart => exact ⟨(y177), (0), (by first | rfl | (simp; done) | (simp [*]; done)), H', ⟨Nat.le_refl _⟩, ⟨by (with_reducible repeat (first | apply Go.Proofs.YtfgbfbhllbejpaaM.RM_alloc | apply Go.Proofs.YtfgbfbhllbejpaaM.RM_drewN | apply Go.Proofs.YtfgbfbhllbejpaaM.RM_drew)); exact HO179.out⟩, ⟨by repeat (first | (with_reducible first | exact HB.out | apply below_alloc | apply pw_below_drewN | apply below_drew1) | exact HB.out)⟩⟩
  case round =>
    clear H'
    try clear c1
    try clear p2
    obtain ⟨x4_1, x5_1, rfl, HA, HK1, HO_4, HB⟩ := hrel
    cases gk with
    | zero => exact absurd HA.out (by simp [vitrineref07_Join.l0])
    | succ k1 =>
      have H := HA.out
      clear HA
      simp only [vitrineref07_Join.l0] at H
      by_cases c5 : x5_1 < (l0.length : Int)
      · rw [if_pos c5] at H
        have c5b0 : decide (x5_1 < (l0.length : Int)) = true := decide_eq_true c5
        clear c5
        have HC6 := Aside0.mk H
        clear H
        go_upto_region 5 with (fail)
        go_cut [29] (fun v29 wc => ∃ (kq : Nat) (x29_5 : Bool), v29 = .bool x29_5 ∧ Aside0 (vitrineref07_Join.j1 kq l0 x4_1 x5_1 x29_5 = some (r1, r2)) ∧ Aside0 (kq ≤ k1) ∧ Aside0 (Go.Proofs.YtfgbfbhllbejpaaM.RM (Kd.int .u8) 5 wc w.heap.size (fun _ => True) u4 x4_1) ∧ Aside0 (Below w.heap.size w wc))
        case first =>
          have H := HC6.out
          clear HC6
          by_cases c7 : 0 ≤ x5_1
          · rw [if_pos c7] at H
            have c7b0 : decide (0 ≤ x5_1) = true := decide_eq_true c7
            clear c7
            (first | rw [c7b0] | (simp only [i64_w, i32_w]; rw [c7b0]) | skip)
            replace H := Option.bind_eq_some_iff.mp H
            obtain ⟨t181, A80, H⟩ := H
            replace H : (if t181 = true then (vitrineref07_Join.j1 k1 l0 x4_1 x5_1 (decide ((((rd_T35 l0 x5_1).f1).size : Int) > 2147483647))) else (vitrineref07_Join.j1 k1 l0 x4_1 x5_1 true)) = some (r1, r2) := H
            have A8 := Aside0.mk A80
            clear A80
            by_cases c9 : t181 = true
            · subst c9
              have H1 : (vitrineref07_Join.j1 k1 l0 x4_1 x5_1 (decide ((((rd_T35 l0 x5_1).f1).size : Int) > 2147483647))) = some (r1, r2) := by rw [if_pos rfl] at H; exact H
              clear H
              have H := H1
              clear H1
              have H' := Aside0.mk H
              clear H
              have p180 : 0 ≤ (x5_1 : Int) := of_decide_eq_true (by first | (with_reducible assumption) | assumption)
              have q180 : x5_1 < (l0.length : Int) := of_decide_eq_true (by first | (with_reducible assumption) | assumption)
              obtain ⟨ad180, e180, hx180_0, hx180_1⟩ := at_T35 HR0.out x5_1 p180 q180
              cases e180
              replace hx180_0 := (HB.out.cell (World.block_lt_of_cell? w _ hx180_0)).trans hx180_0
              replace hx180_1 := (HB.out.cell (World.block_lt_of_cell? w _ hx180_1)).trans hx180_1
              replace p180 := eq_true p180
              replace q180 := eq_true q180
              go_wp2_with (first | ((with_reducible refine gate_callee (f := 20) rfl ?_); refine goesL_ (some 19) rfl rfl Try.func20 (by kernel_rfl) rfl #[.string ((rd_T35 l0 x5_1).f0)] rfl (by (try simp only [List.map_toArray, List.map_cons, List.map_nil]); first | done | rfl | (simp only [List.length_drop, List.length_take]; rfl) | (simp only [ByteArray.size_extract, Nat.min_self]; done) | (simp only [ByteArray.size_extract, Nat.min_self]; rfl)) ?_; (with_reducible refine (vitrineref07_right.calls k1 ((rd_T35 l0 x5_1).f0) true _ A8.out).mono ?_); rintro e w' ⟨rfl, ⟨nd, rfl⟩⟩; refine ⟨_, rfl, ?_⟩; have p182 : 0 ≤ (x5_1 : Int) := of_decide_eq_true (by first | (with_reducible assumption) | assumption); have q182 : x5_1 < (l0.length : Int) := of_decide_eq_true (by first | (with_reducible assumption) | assumption); obtain ⟨ad182, e182, hx182_0, hx182_1⟩ := at_T35 HR0.out x5_1 p182 q182; obtain rfl : ad180 = ad182 := (by injection e182); replace hx182_0 := (HB.out.cell (World.block_lt_of_cell? w _ hx182_0)).trans hx182_0; replace hx182_1 := (HB.out.cell (World.block_lt_of_cell? w _ hx182_1)).trans hx182_1; replace p182 := eq_true p182; replace q182 := eq_true q182))
              go_meet
              case rel => exact ⟨_, (decide ((((rd_T35 l0 x5_1).f1).size : Int) > 2147483647)), (by first | rfl | (simp; done) | (simp [*]; done)), H', ⟨by have := HK1.out; first | omega | exact Nat.le_refl _⟩, ⟨by (with_reducible repeat (first | apply Go.Proofs.YtfgbfbhllbejpaaM.RM_alloc | apply Go.Proofs.YtfgbfbhllbejpaaM.RM_drewN | apply Go.Proofs.YtfgbfbhllbejpaaM.RM_drew)); exact HO_4.out⟩, ⟨by repeat (first | (with_reducible first | exact HB.out | apply below_alloc | apply pw_below_drewN | apply below_drew1) | exact HB.out)⟩⟩
            · replace c9 := Bool.eq_false_iff.mpr c9
              subst c9
              have H1 : (vitrineref07_Join.j1 k1 l0 x4_1 x5_1 true) = some (r1, r2) := by rw [if_neg (show ¬ (false = true) by decide)] at H; exact H
              clear H
              have H := H1
              clear H1
              have H' := Aside0.mk H
              clear H
              have p180 : 0 ≤ (x5_1 : Int) := of_decide_eq_true (by first | (with_reducible assumption) | assumption)
              have q180 : x5_1 < (l0.length : Int) := of_decide_eq_true (by first | (with_reducible assumption) | assumption)
              obtain ⟨ad180, e180, hx180_0, hx180_1⟩ := at_T35 HR0.out x5_1 p180 q180
              cases e180
              replace hx180_0 := (HB.out.cell (World.block_lt_of_cell? w _ hx180_0)).trans hx180_0
              replace hx180_1 := (HB.out.cell (World.block_lt_of_cell? w _ hx180_1)).trans hx180_1
              replace p180 := eq_true p180
              replace q180 := eq_true q180
              go_wp2_with (first | ((with_reducible refine gate_callee (f := 20) rfl ?_); refine goesL_ (some 19) rfl rfl Try.func20 (by kernel_rfl) rfl #[.string ((rd_T35 l0 x5_1).f0)] rfl (by (try simp only [List.map_toArray, List.map_cons, List.map_nil]); first | done | rfl | (simp only [List.length_drop, List.length_take]; rfl) | (simp only [ByteArray.size_extract, Nat.min_self]; done) | (simp only [ByteArray.size_extract, Nat.min_self]; rfl)) ?_; (with_reducible refine (vitrineref07_right.calls k1 ((rd_T35 l0 x5_1).f0) false _ A8.out).mono ?_); rintro e w' ⟨rfl, ⟨nd, rfl⟩⟩; refine ⟨_, rfl, ?_⟩))
              go_meet
              case rel => exact ⟨_, (true), (by first | rfl | (simp; done) | (simp [*]; done)), H', ⟨by have := HK1.out; first | omega | exact Nat.le_refl _⟩, ⟨by (with_reducible repeat (first | apply Go.Proofs.YtfgbfbhllbejpaaM.RM_alloc | apply Go.Proofs.YtfgbfbhllbejpaaM.RM_drewN | apply Go.Proofs.YtfgbfbhllbejpaaM.RM_drew)); exact HO_4.out⟩, ⟨by repeat (first | (with_reducible first | exact HB.out | apply below_alloc | apply pw_below_drewN | apply below_drew1) | exact HB.out)⟩⟩
          · rw [if_neg c7] at H
            exact absurd H (by simp)
        case rest =>
          clear HC6
          try clear c1
          try clear p1
          try clear q1
          try clear hx1
          try clear c2
          try clear p2
          try clear c5
          try clear c5b0
          try clear c7
          try clear c7b0
          try clear c9
          try clear hx180_0
          try clear hx180_1
          try clear hx182_0
          try clear hx182_1
          try clear p180
          try clear p182
          try clear p2
          try clear q180
          try clear q182
          obtain ⟨kq, x29_5, rfl, HA, HJ5, HO_4, HB⟩ := hcut
          cases kq with
          | zero => exact absurd HA.out (by simp [vitrineref07_Join.j1])
          | succ kj5 =>
            have H := HA.out
            clear HA
            simp only [vitrineref07_Join.j1] at H
            by_cases c10 : x29_5 = true
            · subst c10
              have H1 : (some ((⟨#[]⟩ : ByteArray), 21)) = some (r1, r2) := by rw [if_pos rfl] at H; exact H
              clear H
              have H := H1
              clear H1
              simp only [Option.some.injEq, Prod.mk.injEq] at H
              obtain ⟨rfl, rfl⟩ := H
              go_wp2
              go_ret2
              exact ⟨by first | rfl | (simp [errW_none, errW_some] <;> rfl) | (simp [*, errW_none, errW_some] <;> rfl), by repeat (first | (with_reducible first | exact HB.out | apply below_alloc | apply pw_below_drewN | apply below_drew1) | exact HB.out)⟩
            · replace c10 := Bool.eq_false_iff.mpr c10
              subst c10
              have H1 : (if 0 ≤ x5_1 then (if x5_1 < (l0.length : Int) then ((vitrineref06_Four.f (((rd_T35 l0 x5_1).f1).size : Int)).bind fun t184 => (if x4_1.length + t184.size < 140737488355328 then ((some (x4_1 ++ bytesOf t184 : List Int)).bind fun y185 => (if y185.length + ((rd_T35 l0 x5_1).f0).size < 140737488355328 then ((some (y185 ++ bytesOf ((rd_T35 l0 x5_1).f0) : List Int)).bind fun y189 => (if y189.length + ((rd_T35 l0 x5_1).f1).size < 140737488355328 then ((some (y189 ++ bytesOf ((rd_T35 l0 x5_1).f1) : List Int)).bind fun y193 => (if ((rd_T35 l0 x5_1).f0).size + ((rd_T35 l0 x5_1).f1).size ≤ 9223372036854775807 then ((vitrineref01_Crc.f kj5 (((rd_T35 l0 x5_1).f0) ++ ((rd_T35 l0 x5_1).f1))).bind fun t198 => ((vitrineref06_Four.f t198).bind fun t199 => (if y193.length + t199.size < 140737488355328 then (vitrineref07_Join.l0 kj5 l0 (y193 ++ bytesOf t199) (wrap64 (x5_1 + 1))) else (none)))) else (none))) else (none))) else (none))) else (none))) else (none)) else (none)) = some (r1, r2) := by rw [if_neg (show ¬ (false = true) by decide)] at H; exact H
              clear H
              have H := H1
              clear H1
              by_cases c11 : 0 ≤ x5_1
              · rw [if_pos c11] at H
                have c11b0 : decide (0 ≤ x5_1) = true := decide_eq_true c11
                clear c11
                by_cases c12 : x5_1 < (l0.length : Int)
                · rw [if_pos c12] at H
                  have c12b0 : decide (x5_1 < (l0.length : Int)) = true := decide_eq_true c12
                  clear c12
                  replace H := Option.bind_eq_some_iff.mp H
                  obtain ⟨t184, A130, H⟩ := H
                  replace H : (if x4_1.length + t184.size < 140737488355328 then ((some (x4_1 ++ bytesOf t184 : List Int)).bind fun y185 => (if y185.length + ((rd_T35 l0 x5_1).f0).size < 140737488355328 then ((some (y185 ++ bytesOf ((rd_T35 l0 x5_1).f0) : List Int)).bind fun y189 => (if y189.length + ((rd_T35 l0 x5_1).f1).size < 140737488355328 then ((some (y189 ++ bytesOf ((rd_T35 l0 x5_1).f1) : List Int)).bind fun y193 => (if ((rd_T35 l0 x5_1).f0).size + ((rd_T35 l0 x5_1).f1).size ≤ 9223372036854775807 then ((vitrineref01_Crc.f kj5 (((rd_T35 l0 x5_1).f0) ++ ((rd_T35 l0 x5_1).f1))).bind fun t198 => ((vitrineref06_Four.f t198).bind fun t199 => (if y193.length + t199.size < 140737488355328 then (vitrineref07_Join.l0 kj5 l0 (y193 ++ bytesOf t199) (wrap64 (x5_1 + 1))) else (none)))) else (none))) else (none))) else (none))) else (none)) = some (r1, r2) := H
                  have A13 := Aside0.mk A130
                  clear A130
                  by_cases c14 : x4_1.length + t184.size < 140737488355328
                  · rw [if_pos c14] at H
                    have LMc14 := Aside0.mk c14
                    clear c14
                    obtain ⟨y185, hy185⟩ : ∃ y_ : List Int, y_ = (x4_1 ++ bytesOf t184) := ⟨_, rfl⟩
                    replace H : (if y185.length + ((rd_T35 l0 x5_1).f0).size < 140737488355328 then ((some (y185 ++ bytesOf ((rd_T35 l0 x5_1).f0) : List Int)).bind fun y189 => (if y189.length + ((rd_T35 l0 x5_1).f1).size < 140737488355328 then ((some (y189 ++ bytesOf ((rd_T35 l0 x5_1).f1) : List Int)).bind fun y193 => (if ((rd_T35 l0 x5_1).f0).size + ((rd_T35 l0 x5_1).f1).size ≤ 9223372036854775807 then ((vitrineref01_Crc.f kj5 (((rd_T35 l0 x5_1).f0) ++ ((rd_T35 l0 x5_1).f1))).bind fun t198 => ((vitrineref06_Four.f t198).bind fun t199 => (if y193.length + t199.size < 140737488355328 then (vitrineref07_Join.l0 kj5 l0 (y193 ++ bytesOf t199) (wrap64 (x5_1 + 1))) else (none)))) else (none))) else (none))) else (none)) = some (r1, r2) := by first | (rw [hy185]; with_reducible exact H) | (have H2_ := (Option.bind_some _ _).symm.trans H; rw [hy185]; with_reducible exact H2_) | (have H2_ := (Option.bind_some _ _).symm.trans H; with_reducible exact H2_) | with_reducible exact H | (rw [hy185]; exact H) | exact H
                    have Ny185 := Aside0.mk hy185
                    clear hy185
                    by_cases c15 : y185.length + ((rd_T35 l0 x5_1).f0).size < 140737488355328
                    · rw [if_pos c15] at H
                      have LMc15 := Aside0.mk c15
                      clear c15
                      obtain ⟨y189, hy189⟩ : ∃ y_ : List Int, y_ = (y185 ++ bytesOf ((rd_T35 l0 x5_1).f0)) := ⟨_, rfl⟩
                      replace H : (if y189.length + ((rd_T35 l0 x5_1).f1).size < 140737488355328 then ((some (y189 ++ bytesOf ((rd_T35 l0 x5_1).f1) : List Int)).bind fun y193 => (if ((rd_T35 l0 x5_1).f0).size + ((rd_T35 l0 x5_1).f1).size ≤ 9223372036854775807 then ((vitrineref01_Crc.f kj5 (((rd_T35 l0 x5_1).f0) ++ ((rd_T35 l0 x5_1).f1))).bind fun t198 => ((vitrineref06_Four.f t198).bind fun t199 => (if y193.length + t199.size < 140737488355328 then (vitrineref07_Join.l0 kj5 l0 (y193 ++ bytesOf t199) (wrap64 (x5_1 + 1))) else (none)))) else (none))) else (none)) = some (r1, r2) := by first | (rw [hy189]; with_reducible exact H) | (have H2_ := (Option.bind_some _ _).symm.trans H; rw [hy189]; with_reducible exact H2_) | (have H2_ := (Option.bind_some _ _).symm.trans H; with_reducible exact H2_) | with_reducible exact H | (rw [hy189]; exact H) | exact H
                      have Ny189 := Aside0.mk hy189
                      clear hy189
                      by_cases c16 : y189.length + ((rd_T35 l0 x5_1).f1).size < 140737488355328
                      · rw [if_pos c16] at H
                        have LMc16 := Aside0.mk c16
                        clear c16
                        obtain ⟨y193, hy193⟩ : ∃ y_ : List Int, y_ = (y189 ++ bytesOf ((rd_T35 l0 x5_1).f1)) := ⟨_, rfl⟩
                        replace H : (if ((rd_T35 l0 x5_1).f0).size + ((rd_T35 l0 x5_1).f1).size ≤ 9223372036854775807 then ((vitrineref01_Crc.f kj5 (((rd_T35 l0 x5_1).f0) ++ ((rd_T35 l0 x5_1).f1))).bind fun t198 => ((vitrineref06_Four.f t198).bind fun t199 => (if y193.length + t199.size < 140737488355328 then (vitrineref07_Join.l0 kj5 l0 (y193 ++ bytesOf t199) (wrap64 (x5_1 + 1))) else (none)))) else (none)) = some (r1, r2) := by first | (rw [hy193]; with_reducible exact H) | (have H2_ := (Option.bind_some _ _).symm.trans H; rw [hy193]; with_reducible exact H2_) | (have H2_ := (Option.bind_some _ _).symm.trans H; with_reducible exact H2_) | with_reducible exact H | (rw [hy193]; exact H) | exact H
                        have Ny193 := Aside0.mk hy193
                        clear hy193
                        by_cases c17 : ((rd_T35 l0 x5_1).f0).size + ((rd_T35 l0 x5_1).f1).size ≤ 9223372036854775807
                        · rw [if_pos c17] at H
                          have c17b0 := eq_true c17
                          have c17b1 : decide (((rd_T35 l0 x5_1).f0).size + ((rd_T35 l0 x5_1).f1).size ≤ 9223372036854775807) = true := decide_eq_true c17
                          try have c17b2 : (9223372036854775807 < ((rd_T35 l0 x5_1).f0).size + ((rd_T35 l0 x5_1).f1).size) = False := eq_false (Nat.not_lt.2 c17)
                          replace H := Option.bind_eq_some_iff.mp H
                          obtain ⟨t198, A180, H⟩ := H
                          replace H : ((vitrineref06_Four.f t198).bind fun t199 => (if y193.length + t199.size < 140737488355328 then (vitrineref07_Join.l0 kj5 l0 (y193 ++ bytesOf t199) (wrap64 (x5_1 + 1))) else (none))) = some (r1, r2) := H
                          have A18 := Aside0.mk A180
                          clear A180
                          replace H := Option.bind_eq_some_iff.mp H
                          obtain ⟨t199, A190, H⟩ := H
                          replace H : (if y193.length + t199.size < 140737488355328 then (vitrineref07_Join.l0 kj5 l0 (y193 ++ bytesOf t199) (wrap64 (x5_1 + 1))) else (none)) = some (r1, r2) := H
                          have A19 := Aside0.mk A190
                          clear A190
                          by_cases c20 : y193.length + t199.size < 140737488355328
                          · rw [if_pos c20] at H
                            have LMc20 := Aside0.mk c20
                            clear c20
                            obtain ⟨y200, hy200⟩ : ∃ y_ : List Int, y_ = (y193 ++ bytesOf t199) := ⟨_, rfl⟩
                            replace H : (vitrineref07_Join.l0 kj5 l0 y200 (wrap64 (x5_1 + 1))) = some (r1, r2) := by first | (rw [hy200]; with_reducible exact H) | (have H2_ := (Option.bind_some _ _).symm.trans H; rw [hy200]; with_reducible exact H2_) | (have H2_ := (Option.bind_some _ _).symm.trans H; with_reducible exact H2_) | with_reducible exact H | (rw [hy200]; exact H) | exact H
                            have Ny200 := Aside0.mk hy200
                            clear hy200
                            have H' := Aside0.mk H
                            clear H
                            have p183 : 0 ≤ (x5_1 : Int) := of_decide_eq_true (by first | (with_reducible assumption) | assumption)
                            have q183 : x5_1 < (l0.length : Int) := of_decide_eq_true (by first | (with_reducible assumption) | assumption)
                            obtain ⟨ad183, e183, hx183_0, hx183_1⟩ := at_T35 HR0.out x5_1 p183 q183
                            cases e183
                            replace hx183_0 := (HB.out.cell (World.block_lt_of_cell? w _ hx183_0)).trans hx183_0
                            replace hx183_1 := (HB.out.cell (World.block_lt_of_cell? w _ hx183_1)).trans hx183_1
                            replace p183 := eq_true p183
                            replace q183 := eq_true q183
                            try go_wp2_with (first | ((with_reducible refine gate_callee (f := 27) rfl ?_); refine goesL_ (some 37) rfl rfl Try.func27 (by kernel_rfl) rfl #[.int .i64 (((rd_T35 l0 x5_1).f1).size : Int)] rfl (by (try simp only [List.map_toArray, List.map_cons, List.map_nil]); first | done | rfl | (simp only [List.length_drop, List.length_take]; rfl) | (simp only [ByteArray.size_extract, Nat.min_self]; done) | (simp only [ByteArray.size_extract, Nat.min_self]; rfl)) ?_; (with_reducible refine (vitrineref06_Four.calls (((rd_T35 l0 x5_1).f1).size : Int) t184 _ A13.out).mono ?_); rintro e w21 ⟨rfl, hb⟩; refine ⟨_, rfl, ?_⟩; have n0_ := Aside0.mk (Go.Proofs.YtfgbfbhllbejpaaM.RM_below (by (with_reducible repeat (first | apply Go.Proofs.YtfgbfbhllbejpaaM.RM_alloc | apply Go.Proofs.YtfgbfbhllbejpaaM.RM_drewN | apply Go.Proofs.YtfgbfbhllbejpaaM.RM_drew)); exact HO_4.out) hb); have n1_ := Aside0.mk (below_step (by repeat (first | (with_reducible first | exact HB.out | apply below_alloc | apply pw_below_drewN | apply below_drew1) | exact HB.out)) hb); clear HO_4; clear HB; have HO_4 := n0_; have HB := n1_; clear n0_ n1_; (try clear hb); (try clear hb2); (try clear hk); (try clear hi)) | (at_builtin; refine Go.Proofs.YtfgbfbhllbejpaaM.wpM_append_str (d := Kd.int .u8) (ok := fun _ => True) (w0 := w) w.heap.size rfl (.tmp 30) _ 36 9 5 rfl Try.underlying36 Try.underlying9 info5 u4 x4_1 t184 rfl rfl ?aO ?aB ?aS ?aL ?_; (case aB => exact (by repeat (first | (with_reducible first | exact HB.out | apply below_alloc | apply pw_below_drewN | apply below_drew1) | exact HB.out))); (case aO => exact (id (by (with_reducible repeat (first | apply Go.Proofs.YtfgbfbhllbejpaaM.RM_alloc | apply Go.Proofs.YtfgbfbhllbejpaaM.RM_drewN | apply Go.Proofs.YtfgbfbhllbejpaaM.RM_drew)); exact HO_4.out))); (case aS => exact (below_size (by repeat (first | (with_reducible first | exact HB.out | apply below_alloc | apply pw_below_drewN | apply below_drew1) | exact HB.out)))); (case aL => have := LMc14.out; omega); intro v186 w22 ho0 hb hg; have ho := ho0; clear ho0; have hat := True.intro; rw [← Ny185.out] at ho; change Go.Proofs.YtfgbfbhllbejpaaM.RM (Kd.int .u8) 5 w22 w.heap.size (fun _ => True) v186 y185 at ho; have n0_ := Aside0.mk (hb); have n1_ := Aside0.mk (ho); clear HB; clear HO_4; have HB := n0_; have HO187 := n1_; clear n0_ n1_; clear ho hb hg hat; have p188 : 0 ≤ (x5_1 : Int) := of_decide_eq_true (by first | (with_reducible assumption) | assumption); have q188 : x5_1 < (l0.length : Int) := of_decide_eq_true (by first | (with_reducible assumption) | assumption); obtain ⟨ad188, e188, hx188_0, hx188_1⟩ := at_T35 HR0.out x5_1 p188 q188; obtain rfl : ad183 = ad188 := (by injection e188); replace hx188_0 := (HB.out.cell (World.block_lt_of_cell? w _ hx188_0)).trans hx188_0; replace hx188_1 := (HB.out.cell (World.block_lt_of_cell? w _ hx188_1)).trans hx188_1; replace p188 := eq_true p188; replace q188 := eq_true q188) | (at_builtin; refine Go.Proofs.YtfgbfbhllbejpaaM.wpM_append_str (d := Kd.int .u8) (ok := fun _ => True) (w0 := w) w.heap.size rfl (.tmp 39) _ 36 9 5 rfl Try.underlying36 Try.underlying9 info5 v186 y185 ((rd_T35 l0 x5_1).f0) rfl rfl ?aO ?aB ?aS ?aL ?_; (case aB => exact (by repeat (first | (with_reducible first | exact HB.out | apply below_alloc | apply pw_below_drewN | apply below_drew1) | exact HB.out))); (case aO => exact (id (by (with_reducible repeat (first | apply Go.Proofs.YtfgbfbhllbejpaaM.RM_alloc | apply Go.Proofs.YtfgbfbhllbejpaaM.RM_drewN | apply Go.Proofs.YtfgbfbhllbejpaaM.RM_drew)); exact HO187.out))); (case aS => exact (below_size (by repeat (first | (with_reducible first | exact HB.out | apply below_alloc | apply pw_below_drewN | apply below_drew1) | exact HB.out)))); (case aL => have := LMc15.out; omega); intro v190 w23 ho0 hb hg; have ho := ho0; clear ho0; have hat := True.intro; rw [← Ny189.out] at ho; change Go.Proofs.YtfgbfbhllbejpaaM.RM (Kd.int .u8) 5 w23 w.heap.size (fun _ => True) v190 y189 at ho; have n0_ := Aside0.mk (hb); have n1_ := Aside0.mk (ho); clear HB; clear HO187; have HB := n0_; have HO191 := n1_; clear n0_ n1_; clear ho hb hg hat; have p192 : 0 ≤ (x5_1 : Int) := of_decide_eq_true (by first | (with_reducible assumption) | assumption); have q192 : x5_1 < (l0.length : Int) := of_decide_eq_true (by first | (with_reducible assumption) | assumption); obtain ⟨ad192, e192, hx192_0, hx192_1⟩ := at_T35 HR0.out x5_1 p192 q192; obtain rfl : ad183 = ad192 := (by injection e192); replace hx192_0 := (HB.out.cell (World.block_lt_of_cell? w _ hx192_0)).trans hx192_0; replace hx192_1 := (HB.out.cell (World.block_lt_of_cell? w _ hx192_1)).trans hx192_1; replace p192 := eq_true p192; replace q192 := eq_true q192) | (at_builtin; refine Go.Proofs.YtfgbfbhllbejpaaM.wpM_append_str (d := Kd.int .u8) (ok := fun _ => True) (w0 := w) w.heap.size rfl (.tmp 46) _ 36 9 5 rfl Try.underlying36 Try.underlying9 info5 v190 y189 ((rd_T35 l0 x5_1).f1) rfl rfl ?aO ?aB ?aS ?aL ?_; (case aB => exact (by repeat (first | (with_reducible first | exact HB.out | apply below_alloc | apply pw_below_drewN | apply below_drew1) | exact HB.out))); (case aO => exact (id (by (with_reducible repeat (first | apply Go.Proofs.YtfgbfbhllbejpaaM.RM_alloc | apply Go.Proofs.YtfgbfbhllbejpaaM.RM_drewN | apply Go.Proofs.YtfgbfbhllbejpaaM.RM_drew)); exact HO191.out))); (case aS => exact (below_size (by repeat (first | (with_reducible first | exact HB.out | apply below_alloc | apply pw_below_drewN | apply below_drew1) | exact HB.out)))); (case aL => have := LMc16.out; omega); intro v194 w24 ho0 hb hg; have ho := ho0; clear ho0; have hat := True.intro; rw [← Ny193.out] at ho; change Go.Proofs.YtfgbfbhllbejpaaM.RM (Kd.int .u8) 5 w24 w.heap.size (fun _ => True) v194 y193 at ho; have n0_ := Aside0.mk (hb); have n1_ := Aside0.mk (ho); clear HB; clear HO191; have HB := n0_; have HO195 := n1_; clear n0_ n1_; clear ho hb hg hat))
                            have n0_ := Aside0.mk (Go.Proofs.YtfgbfbhllbejpaaM.RM_drew HO195.out)
                            have n1_ := Aside0.mk (below_drew1 HB.out)
                            clear HO195
                            clear HB
                            have HO195 := n0_
                            have HB := n1_
                            clear n0_ n1_
                            have p196 : 0 ≤ (x5_1 : Int) := of_decide_eq_true (by first | (with_reducible assumption) | assumption)
                            have q196 : x5_1 < (l0.length : Int) := of_decide_eq_true (by first | (with_reducible assumption) | assumption)
                            obtain ⟨ad196, e196, hx196_0, hx196_1⟩ := at_T35 HR0.out x5_1 p196 q196
                            have hw196_1 := hx196_1
                            have hw196_0 := hx196_0
                            obtain rfl : ad183 = ad196 := (by injection e196)
                            replace hx196_0 := (HB.out.cell (World.block_lt_of_cell? w _ hx196_0)).trans hx196_0
                            replace hx196_1 := (HB.out.cell (World.block_lt_of_cell? w _ hx196_1)).trans hx196_1
                            replace p196 := eq_true p196
                            replace q196 := eq_true q196
                            have p197 : 0 ≤ (x5_1 : Int) := of_decide_eq_true (by first | (with_reducible assumption) | assumption)
                            have q197 : x5_1 < (l0.length : Int) := of_decide_eq_true (by first | (with_reducible assumption) | assumption)
                            obtain ⟨ad197, e197, hx197_0, hx197_1⟩ := at_T35 HR0.out x5_1 p197 q197
                            have hw197_1 := hx197_1
                            have hw197_0 := hx197_0
                            obtain rfl : ad183 = ad197 := (by injection e197)
                            replace hx197_0 := (HB.out.cell (World.block_lt_of_cell? w _ hx197_0)).trans hx197_0
                            replace hx197_1 := (HB.out.cell (World.block_lt_of_cell? w _ hx197_1)).trans hx197_1
                            replace p197 := eq_true p197
                            replace q197 := eq_true q197
                            refine start_ (n := 16) (S := fun w' => w'.cell? (ad183.add ((x5_1).toNat * 2)) = some (.string ((rd_T35 l0 x5_1).f0)) ∧ w'.cell? ⟨(ad183.add ((x5_1).toNat * 2)).block, (ad183.add ((x5_1).toNat * 2)).off + 1, none⟩ = some (.string ((rd_T35 l0 x5_1).f1)) ∧ w'.cell? (ad183.add ((x5_1).toNat * 2)) = some (.string ((rd_T35 l0 x5_1).f0)) ∧ w'.cell? ⟨(ad183.add ((x5_1).toNat * 2)).block, (ad183.add ((x5_1).toNat * 2)).off + 1, none⟩ = some (.string ((rd_T35 l0 x5_1).f1))) (ds := []) #[false, false, false, false, false, false, false, false, false, false, false, false, false, false, false, false] (by kernel_rfl) rfl rfl ⟨((HB.out.cell (World.block_lt_of_cell? w _ hw196_0)).trans hw196_0), ((HB.out.cell (World.block_lt_of_cell? w _ hw196_1)).trans hw196_1), ((HB.out.cell (World.block_lt_of_cell? w _ hw197_0)).trans hw197_0), ((HB.out.cell (World.block_lt_of_cell? w _ hw197_1)).trans hw197_1)⟩ (fun hHeld => ?_); refine with_tabW vitrineref07_Join.tab10 vitrineref07_Join.bits10 (fun HT_ HW_ => ?_)
                            generalize w24.drew = w25 at HO195 HB hx196_0 hx196_1 hx197_0 hx197_1 hHeld ⊢
                            refine pure_ (i := 0) (N := some 53) (v := ?_) (a' := ?_) #[true, false, false, false, false, false, false, false, false, false, false, false, false, false, false, false] rfl rfl (any_of HT_.out (by kernel_rfl)) (fun _ _ _ h => h) (Or.inl ⟨by rfl, ?_⟩) ?_ ?_
                            rotate_left
                            · intro w'
                              go_simp
                              with_reducible rfl
                            rotate_left
                            · simp only [Act.put, List.setIfInBounds_toArray, List.set_cons_zero, List.set_cons_succ, i64_w, i32_w]
                              rfl
                            refine pure_ (i := 1) (N := some 54) (v := ?_) (a' := ?_) #[true, true, false, false, false, false, false, false, false, false, false, false, false, false, false, false] rfl rfl (any_of HT_.out (by kernel_rfl)) (fun _ _ _ h => h) (Or.inl ⟨by rfl, ?_⟩) ?_ ?_
                            rotate_left
                            · intro w'
                              go_simp
                              with_reducible rfl
                            rotate_left
                            · simp only [Act.put, List.setIfInBounds_toArray, List.set_cons_zero, List.set_cons_succ, i64_w, i32_w]
                              rfl
                            refine pure_ (i := 2) (N := some 55) (v := ?_) (a' := ?_) #[true, true, true, false, false, false, false, false, false, false, false, false, false, false, false, false] rfl rfl (any_of HT_.out (by kernel_rfl)) (fun _ _ _ h => h) (Or.inl ⟨by rfl, ?_⟩) ?_ ?_
                            rotate_left
                            · intro w'
                              go_simp
                              with_reducible rfl
                            rotate_left
                            · simp only [Act.put, List.setIfInBounds_toArray, List.set_cons_zero, List.set_cons_succ, i64_w, i32_w]
                              rfl
                            refine pure_ (i := 3) (N := some 56) (v := ?_) (a' := ?_) #[true, true, true, true, false, false, false, false, false, false, false, false, false, false, false, false] rfl rfl (any_of HT_.out (by kernel_rfl)) (fun _ _ _ h => h) (Or.inl ⟨by rfl, ?_⟩) ?_ ?_
                            rotate_left
                            · intro w'
                              go_simp
                              with_reducible rfl
                            rotate_left
                            · simp only [Act.put, List.setIfInBounds_toArray, List.set_cons_zero, List.set_cons_succ, i64_w, i32_w]
                              rfl
                            refine pure_ (i := 4) (N := some 57) (v := ?_) (a' := ?_) #[true, true, true, true, true, false, false, false, false, false, false, false, false, false, false, false] rfl rfl (any_of HT_.out (by kernel_rfl)) (fun _ _ _ h => h) (Or.inl ⟨by rfl, ?_⟩) ?_ ?_
                            rotate_left
                            · intro w'
                              go_simp
                              with_reducible rfl
                            rotate_left
                            · simp only [Act.put, List.setIfInBounds_toArray, List.set_cons_zero, List.set_cons_succ, i64_w, i32_w]
                              rfl
                            refine pure_ (i := 6) (N := some 59) (v := ?_) (a' := ?_) #[true, true, true, true, true, false, true, false, false, false, false, false, false, false, false, false] rfl rfl (any_of HT_.out (by kernel_rfl)) (fun _ _ _ h => h) (Or.inl ⟨by rfl, ?_⟩) ?_ ?_
                            rotate_left
                            · intro w'
                              go_simp
                              with_reducible rfl
                            rotate_left
                            · simp only [Act.put, List.setIfInBounds_toArray, List.set_cons_zero, List.set_cons_succ, i64_w, i32_w]
                              rfl
                            refine pure_ (i := 7) (N := some 60) (v := ?_) (a' := ?_) #[true, true, true, true, true, false, true, true, false, false, false, false, false, false, false, false] rfl rfl (any_of HT_.out (by kernel_rfl)) (fun _ _ _ h => h) (Or.inl ⟨by rfl, ?_⟩) ?_ ?_
                            rotate_left
                            · intro w'
                              go_simp
                              with_reducible rfl
                            rotate_left
                            · simp only [Act.put, List.setIfInBounds_toArray, List.set_cons_zero, List.set_cons_succ, i64_w, i32_w]
                              rfl
                            refine pure_ (i := 8) (N := some 61) (v := ?_) (a' := ?_) #[true, true, true, true, true, false, true, true, true, false, false, false, false, false, false, false] rfl rfl (any_of HT_.out (by kernel_rfl)) (fun _ _ _ h => h) (Or.inl ⟨by rfl, ?_⟩) ?_ ?_
                            rotate_left
                            · intro w'
                              go_simp
                              with_reducible rfl
                            rotate_left
                            · simp only [Act.put, List.setIfInBounds_toArray, List.set_cons_zero, List.set_cons_succ, i64_w, i32_w]
                              rfl
                            refine pure_ (i := 9) (N := some 62) (v := ?_) (a' := ?_) #[true, true, true, true, true, false, true, true, true, true, false, false, false, false, false, false] rfl rfl (any_of HT_.out (by kernel_rfl)) (fun _ _ _ h => h) (Or.inl ⟨by rfl, ?_⟩) ?_ ?_
                            rotate_left
                            · intro w'
                              go_simp
                              with_reducible rfl
                            rotate_left
                            · simp only [Act.put, List.setIfInBounds_toArray, List.set_cons_zero, List.set_cons_succ, i64_w, i32_w]
                              rfl
                            refine take_ (i := 5) (N := some 58) (v := ?_) (a' := ?_) #[true, true, true, true, true, true, true, true, true, true, false, false, false, false, false, false] rfl rfl (take_ofW HT_.out HW_.out (by kernel_rfl)) (fun _ _ _ h => h) (Or.inl ⟨by rfl, ?_⟩) hHeld ?_ ?_
                            rotate_left
                            · rintro w' ⟨s0, s1, s2, s3⟩
                              go_simp
                              with_reducible rfl
                            rotate_left
                            · simp only [Act.put, List.setIfInBounds_toArray, List.set_cons_zero, List.set_cons_succ, i64_w, i32_w]
                              rfl
                            refine take_ (i := 10) (N := some 63) (v := ?_) (a' := ?_) #[true, true, true, true, true, true, true, true, true, true, true, false, false, false, false, false] rfl rfl (take_ofW HT_.out HW_.out (by kernel_rfl)) (fun _ _ _ h => h) (Or.inl ⟨by rfl, ?_⟩) hHeld ?_ ?_
                            rotate_left
                            · rintro w' ⟨s0, s1, s2, s3⟩
                              go_simp
                              with_reducible rfl
                            rotate_left
                            · simp only [Act.put, List.setIfInBounds_toArray, List.set_cons_zero, List.set_cons_succ, i64_w, i32_w]
                              rfl
                            refine pure_ (i := 11) (N := some 64) (v := ?_) (a' := ?_) #[true, true, true, true, true, true, true, true, true, true, true, true, false, false, false, false] rfl rfl (any_of HT_.out (by kernel_rfl)) (fun _ _ _ h => h) (Or.inl ⟨by rfl, ?_⟩) ?_ ?_
                            rotate_left
                            · intro w'
                              go_simp
                              with_reducible rfl
                            rotate_left
                            · simp only [Act.put, List.setIfInBounds_toArray, List.set_cons_zero, List.set_cons_succ, i64_w, i32_w]
                              rfl
                            refine one_ (i := 12) (N := some 65) #[true, true, true, true, true, true, true, true, true, true, true, true, true, false, false, false] rfl rfl (one_of HT_.out (by kernel_rfl)) (by decide) (fun K hK => ?_)
                            refine goes_ Try.func21 (by kernel_rfl) rfl #[.string (((rd_T35 l0 x5_1).f0) ++ ((rd_T35 l0 x5_1).f1))] (by rfl) rfl rfl (by (try simp only [List.map_toArray, List.map_cons, List.map_nil]); first | done | rfl | (simp only [List.length_drop, List.length_take]; rfl) | (simp only [ByteArray.size_extract, Nat.min_self]; done) | (simp only [ByteArray.size_extract, Nat.min_self]; rfl)) ?_
                            with_reducible refine (vitrineref01_Crc.calls kj5 (((rd_T35 l0 x5_1).f0) ++ ((rd_T35 l0 x5_1).f1)) t198 _ A18.out).mono ?_
                            rintro e w' ⟨rfl, ⟨nd, rfl⟩⟩
                            refine ⟨_, rfl, ?_⟩
                            refine hK.out _ _ ⟨((HB.out.cell (World.block_lt_of_cell? w _ hw196_0)).trans hw196_0), ((HB.out.cell (World.block_lt_of_cell? w _ hw196_1)).trans hw196_1), ((HB.out.cell (World.block_lt_of_cell? w _ hw197_0)).trans hw197_0), ((HB.out.cell (World.block_lt_of_cell? w _ hw197_1)).trans hw197_1)⟩ (fun hHeld => ?_)
                            clear hK K
                            refine norm_ (a' := ?_) ?_ ?_
                            rotate_left
                            · show Act.put _ (some 65) _ = _
                              simp only [Act.put, List.setIfInBounds_toArray, List.set_cons_zero, List.set_cons_succ, i64_w, i32_w]
                              rfl
                            refine one_ (i := 13) (N := some 66) #[true, true, true, true, true, true, true, true, true, true, true, true, true, true, false, false] rfl rfl (one_of HT_.out (by kernel_rfl)) (by decide) (fun K hK => ?_)
                            refine goes_ Try.func27 (by kernel_rfl) rfl #[.int .i64 t198] (by rfl) rfl rfl (by (try simp only [List.map_toArray, List.map_cons, List.map_nil]); first | done | rfl | (simp only [List.length_drop, List.length_take]; rfl) | (simp only [ByteArray.size_extract, Nat.min_self]; done) | (simp only [ByteArray.size_extract, Nat.min_self]; rfl)) ?_
                            with_reducible refine (vitrineref06_Four.calls t198 t199 _ A19.out).mono ?_
                            rintro e w26 ⟨rfl, hb⟩
                            refine ⟨_, rfl, ?_⟩
                            have n0_ := Aside0.mk (Go.Proofs.YtfgbfbhllbejpaaM.RM_below (by (with_reducible repeat (first | apply Go.Proofs.YtfgbfbhllbejpaaM.RM_alloc | apply Go.Proofs.YtfgbfbhllbejpaaM.RM_drewN | apply Go.Proofs.YtfgbfbhllbejpaaM.RM_drew)); exact HO195.out) hb)
                            have n1_ := Aside0.mk (below_step (by repeat (first | (with_reducible first | exact HB.out | apply below_alloc | apply pw_below_drewN | apply below_drew1) | exact HB.out)) hb)
                            clear HO195
                            clear HB
                            have HO195 := n0_
                            have HB := n1_
                            clear n0_ n1_
                            (try clear hb)
                            (try clear hb2)
                            (try clear hk)
                            (try clear hi)
                            refine hK.out _ _ ⟨((HB.out.cell (World.block_lt_of_cell? w _ hw196_0)).trans hw196_0), ((HB.out.cell (World.block_lt_of_cell? w _ hw196_1)).trans hw196_1), ((HB.out.cell (World.block_lt_of_cell? w _ hw197_0)).trans hw197_0), ((HB.out.cell (World.block_lt_of_cell? w _ hw197_1)).trans hw197_1)⟩ (fun hHeld => ?_)
                            clear hK K
                            refine norm_ (a' := ?_) ?_ ?_
                            rotate_left
                            · show Act.put _ (some 66) _ = _
                              simp only [Act.put, List.setIfInBounds_toArray, List.set_cons_zero, List.set_cons_succ, i64_w, i32_w]
                              rfl
                            refine one_ (i := 14) (N := some 67) #[true, true, true, true, true, true, true, true, true, true, true, true, true, true, true, false] rfl rfl (one_of HT_.out (by kernel_rfl)) (by decide) (fun K hK => ?_)
                            refine Go.Proofs.YtfgbfbhllbejpaaM.stepM_append_str (d := Kd.int .u8) (ok := fun _ => True) (w0 := w) w.heap.size (by rfl) (.tmp 53) _ 36 9 5 (by rfl) Try.underlying36 Try.underlying9 info5 v194 y193 t199 rfl rfl ?aO ?aB ?aS ?aL ?_
                            (case aB => exact (by repeat (first | (with_reducible first | exact HB.out | apply below_alloc | apply pw_below_drewN | apply below_drew1) | exact HB.out)))
                            (case aO => exact (id (by (with_reducible repeat (first | apply Go.Proofs.YtfgbfbhllbejpaaM.RM_alloc | apply Go.Proofs.YtfgbfbhllbejpaaM.RM_drewN | apply Go.Proofs.YtfgbfbhllbejpaaM.RM_drew)); exact HO195.out)))
                            (case aS => exact (below_size (by repeat (first | (with_reducible first | exact HB.out | apply below_alloc | apply pw_below_drewN | apply below_drew1) | exact HB.out))))
                            (case aL => have := LMc20.out; omega)
                            intro v201 w27 ho0 hb hg
                            have ho := ho0
                            clear ho0
                            have hat := True.intro
                            rw [← Ny200.out] at ho
                            change Go.Proofs.YtfgbfbhllbejpaaM.RM (Kd.int .u8) 5 w27 w.heap.size (fun _ => True) v201 y200 at ho
                            have n0_ := Aside0.mk (hb)
                            have n1_ := Aside0.mk (ho)
                            clear HB
                            clear HO195
                            have HB := n0_
                            have HO202 := n1_
                            clear n0_ n1_
                            clear ho hb hg hat
                            refine hK.out _ _ ⟨((HB.out.cell (World.block_lt_of_cell? w _ hw196_0)).trans hw196_0), ((HB.out.cell (World.block_lt_of_cell? w _ hw196_1)).trans hw196_1), ((HB.out.cell (World.block_lt_of_cell? w _ hw197_0)).trans hw197_0), ((HB.out.cell (World.block_lt_of_cell? w _ hw197_1)).trans hw197_1)⟩ (fun hHeld => ?_)
                            clear hK K
                            refine norm_ (a' := ?_) ?_ ?_
                            rotate_left
                            · show Act.put _ (some 67) _ = _
                              simp only [Act.put, List.setIfInBounds_toArray, List.set_cons_zero, List.set_cons_succ, i64_w, i32_w]
                              rfl
                            refine pure_ (i := 15) (N := some 4) (v := ?_) (a' := ?_) #[true, true, true, true, true, true, true, true, true, true, true, true, true, true, true, true] rfl rfl (any_of HT_.out (by kernel_rfl)) (fun _ _ _ h => h) (Or.inl ⟨by rfl, ?_⟩) ?_ ?_
                            rotate_left
                            · intro w'
                              go_simp
                              with_reducible rfl
                            rotate_left
                            · simp only [Act.put, List.setIfInBounds_toArray, List.set_cons_zero, List.set_cons_succ, i64_w, i32_w]
                              rfl
                            refine done_ (done_of HT_.out (by kernel_rfl)) ?_
                            try go_wp2
                            go_roundg kj5
                            case measure => have := HK1.out; have := HJ5.out; omega
                            case rel => exact ⟨(y200), (wrap64 (x5_1 + 1)), (by first | rfl | (simp; done) | (simp [*]; done)), H', ⟨by have := HK1.out; have := HJ5.out; omega⟩, ⟨by (with_reducible repeat (first | apply Go.Proofs.YtfgbfbhllbejpaaM.RM_alloc | apply Go.Proofs.YtfgbfbhllbejpaaM.RM_drewN | apply Go.Proofs.YtfgbfbhllbejpaaM.RM_drew)); exact HO202.out⟩, ⟨by repeat (first | (with_reducible first | exact HB.out | apply below_alloc | apply pw_below_drewN | apply below_drew1) | exact HB.out)⟩⟩
                          · rw [if_neg c20] at H
                            exact absurd H (by simp)
                        · rw [if_neg c17] at H
                          exact absurd H (by simp)
                      · rw [if_neg c16] at H
                        exact absurd H (by simp)
                    · rw [if_neg c15] at H
                      exact absurd H (by simp)
                  · rw [if_neg c14] at H
                    exact absurd H (by simp)
                · rw [if_neg c12] at H
                  exact absurd H (by simp)
              · rw [if_neg c11] at H
                exact absurd H (by simp)
      · rw [if_neg c5] at H
        have c5b0 : decide (x5_1 < (l0.length : Int)) = false := decide_eq_false c5
        clear c5
        simp only [Option.some.injEq, Prod.mk.injEq] at H
        obtain ⟨rfl, rfl⟩ := H
        have hcv28 := Go.Proofs.YtfgbfbhllbejpaaM.RM_string (P := Try.prog) Try.underlying36 Try.underlying5 Try.underlying9 (HO_4.out)
        go_wp2
        go_ret2
        exact ⟨by first | rfl | (simp [errW_none, errW_some] <;> rfl) | (simp [*, errW_none, errW_some] <;> rfl), by repeat (first | (with_reducible first | exact HB.out | apply below_alloc | apply pw_below_drewN | apply below_drew1) | exact HB.out)⟩

end Go.Proofs.Ytfgbfbhllbejpaa.PL07
