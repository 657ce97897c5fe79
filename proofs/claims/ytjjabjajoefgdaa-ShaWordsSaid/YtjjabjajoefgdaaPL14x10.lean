/- Printed for this claim by a program of this session over the kit's print program: the Go functions as Lean functions, and proofs that the calls come to these answers. No conditions. -/
import Derived.Test.YtjjabjajoefgdaaPL14x0
import Derived.Test.YtjjabjajoefgdaaPL14x5
namespace Go.Proofs.Ytjjabjajoefgdaa.PL14
open Go.RowKit Go.Proofs.YtjjabjajoefgdaaW.PrintWords Go.Proofs.YtjjabjajoefgdaaW.PrintLast Go.Proofs.YtjjabjajoefgdaaW.PrintMore
attribute [local go_sem] max2_int min2_int max_two min_two max_three min_three max_four min_four   -- for this text's walks alone
set_option linter.unusedVariables false
set_option linter.unusedSimpArgs false

/-! ### vitrinelaw14_ShaWords: function 6 -/
mutual
def vitrinelaw14_ShaWords.l0 : Nat → Int → ByteArray → Int → Int → Option (Bool)
  | 0, _, _, _, _ => none
  | k + 1, x0, x3, x4, x5 => if x5 < 2 then (if 0 ≤ x5 then (if x5 < (x3.size : Int) then (if (wrap64 (bt x3 x5)) ≥ 48 then (vitrinelaw14_ShaWords.j1 k x0 x3 x4 x5 (wrap64 (bt x3 x5)) (decide ((wrap64 (bt x3 x5)) ≤ 57))) else (vitrinelaw14_ShaWords.j1 k x0 x3 x4 x5 (wrap64 (bt x3 x5)) false)) else (none)) else (none)) else (if x4 = (wrap64 (x0)) then ((vitrinelaw14_awake.f k).bind fun t225 => (some t225)) else (some false))
def vitrinelaw14_ShaWords.j1 : Nat → Int → ByteArray → Int → Int → Int → Bool → Option (Bool)
  | 0, _, _, _, _, _, _ => none
  | k + 1, x0, x3, x4, x5, x6, x27 => if x27 = true then (vitrinelaw14_ShaWords.l0 k x0 x3 (wrap64 ((wrap64 ((wrap64 (16 * x4)) + x6)) - 48)) (wrap64 (x5 + 1))) else (if x6 ≥ 97 then (if x6 ≤ 102 then (vitrinelaw14_ShaWords.l0 k x0 x3 (wrap64 ((wrap64 ((wrap64 ((wrap64 (16 * x4)) + x6)) - 97)) + 10)) (wrap64 (x5 + 1))) else (some false)) else (some false))
end
def vitrinelaw14_ShaWords.f (k : Nat) (a0 : Int) : Option (Bool) := (sha_Hex.f k (strOfNums (([a0] : List Int)))).bind fun t224 => (if (t224.size : Int) = 2 then (vitrinelaw14_ShaWords.l0 k a0 t224 0 0) else (some false))
theorem vitrinelaw14_ShaWords.mono_l : ∀ k, (∀ y0 y1 y2 y3, LeO (vitrinelaw14_ShaWords.l0 k y0 y1 y2 y3) (vitrinelaw14_ShaWords.l0 (k + 1) y0 y1 y2 y3)) ∧ (∀ y0 y1 y2 y3 y4 y5, LeO (vitrinelaw14_ShaWords.j1 k y0 y1 y2 y3 y4 y5) (vitrinelaw14_ShaWords.j1 (k + 1) y0 y1 y2 y3 y4 y5))
  | 0 => ⟨fun _ _ _ _ r h => by simp [vitrinelaw14_ShaWords.l0] at h, fun _ _ _ _ _ _ r h => by simp [vitrinelaw14_ShaWords.j1] at h⟩
  | k + 1 => by
    obtain ⟨ih0, ih1⟩ := vitrinelaw14_ShaWords.mono_l k
    refine ⟨?_, ?_⟩
    · intro y0 y1 y2 y3
      unfold vitrinelaw14_ShaWords.l0
      repeat' first
      | (with_reducible exact ih0 _ _ _ _)
      | (with_reducible exact ih1 _ _ _ _ _ _)
      | (with_reducible exact sha_Hex.mono _ _)
      | (with_reducible exact vitrinelaw14_awake.mono _)
      | (with_reducible exact LeO.refl _)
      | (with_reducible exact LeO.none _)
      | (with_reducible refine LeO.ite ?_ ?_)
      | (with_reducible refine LeO.bind ?_ (fun _ => ?_))
      | exact ih0 _ _ _ _
      | exact ih1 _ _ _ _ _ _
      | exact sha_Hex.mono _ _
      | exact vitrinelaw14_awake.mono _
      | exact LeO.none _
      | refine LeO.ite ?_ ?_
      | refine LeO.bind ?_ (fun _ => ?_)
    · intro y0 y1 y2 y3 y4 y5
      unfold vitrinelaw14_ShaWords.j1
      repeat' first
      | (with_reducible exact ih0 _ _ _ _)
      | (with_reducible exact ih1 _ _ _ _ _ _)
      | (with_reducible exact sha_Hex.mono _ _)
      | (with_reducible exact vitrinelaw14_awake.mono _)
      | (with_reducible exact LeO.refl _)
      | (with_reducible exact LeO.none _)
      | (with_reducible refine LeO.ite ?_ ?_)
      | (with_reducible refine LeO.bind ?_ (fun _ => ?_))
      | exact ih0 _ _ _ _
      | exact ih1 _ _ _ _ _ _
      | exact sha_Hex.mono _ _
      | exact vitrinelaw14_awake.mono _
      | exact LeO.none _
      | refine LeO.ite ?_ ?_
      | refine LeO.bind ?_ (fun _ => ?_)
theorem vitrinelaw14_ShaWords.mono : ∀ a0 k, LeO (vitrinelaw14_ShaWords.f k a0) (vitrinelaw14_ShaWords.f (k + 1) a0) := by
  intro a0 k
  obtain ⟨ih0, ih1⟩ := vitrinelaw14_ShaWords.mono_l k
  unfold vitrinelaw14_ShaWords.f
  repeat' first
      | (with_reducible exact ih0 _ _ _ _)
      | (with_reducible exact ih1 _ _ _ _ _ _)
      | (with_reducible exact sha_Hex.mono _ _)
      | (with_reducible exact vitrinelaw14_awake.mono _)
      | (with_reducible exact LeO.refl _)
      | (with_reducible exact LeO.none _)
      | (with_reducible refine LeO.ite ?_ ?_)
      | (with_reducible refine LeO.bind ?_ (fun _ => ?_))
      | exact ih0 _ _ _ _
      | exact ih1 _ _ _ _ _ _
      | exact sha_Hex.mono _ _
      | exact vitrinelaw14_awake.mono _
      | exact LeO.none _
      | refine LeO.ite ?_ ?_
      | refine LeO.bind ?_ (fun _ => ?_)
set_option maxHeartbeats 40000000 in
set_option maxRecDepth 100000 in
theorem vitrinelaw14_ShaWords.calls (k : Nat) (a0 : Int) (r : Bool) (w : World) (h : vitrinelaw14_ShaWords.f k a0 = some r) :
    Calls Try.prog 6 #[.int .u8 a0] w fun e w' => e = .returned (.bool r) ∧ Below w.heap.size w w' := by
  have HB := Aside0.mk (Below.refl w.heap.size w)
  have H : ((sha_Hex.f k (strOfNums (([a0] : List Int)))).bind fun t224 => (if (t224.size : Int) = 2 then (vitrinelaw14_ShaWords.l0 k a0 t224 0 0) else (some false))) = some r := h
  clear h
  obtain ⟨y221, hy221⟩ : ∃ y_ : List Int, y_ = (([a0] : List Int)) := ⟨_, rfl⟩
  replace H : ((sha_Hex.f k (strOfNums y221)).bind fun t224 => (if (t224.size : Int) = 2 then (vitrinelaw14_ShaWords.l0 k a0 t224 0 0) else (some false))) = some r := by first | (rw [hy221]; with_reducible exact H) | (have H2_ := (Option.bind_some _ _).symm.trans H; rw [hy221]; with_reducible exact H2_) | (have H2_ := (Option.bind_some _ _).symm.trans H; with_reducible exact H2_) | with_reducible exact H | (rw [hy221]; exact H) | exact H
  have Ny221 := Aside0.mk hy221
  clear hy221
  replace H := Option.bind_eq_some_iff.mp H
  obtain ⟨t224, A20, H⟩ := H
  replace H : (if (t224.size : Int) = 2 then (vitrinelaw14_ShaWords.l0 k a0 t224 0 0) else (some false)) = some r := H
  have A2 := Aside0.mk A20
  clear A20
  by_cases c3 : (t224.size : Int) = 2
  · rw [if_pos c3] at H
    have c3b0 : ((t224.size : Int) == 2) = true := beq_iff_eq.mpr c3
    have c3b1 : ((t224.size : Int) != 2) = false := bne_eq_false_iff_eq.mpr c3
    clear c3
    have H' := Aside0.mk H
    clear H
    go_enter Try.func6, Try.ntmps6
    go_wp2_with (first | ((with_reducible refine gate_dst (N := 8) rfl ?_); refine Kd.R_lit (Kd.int .u8) _ 5 ?hg (N := 8) ?hd (xs := ([a0] : List Int)) (inner := [.int .u8 a0]) (ok := fun _ => True) (okp := fun _ => True) ?hr ?hp (fun _ hk => hk) trivial (Below.refl _ _) (Nat.le_refl _) (by simp) ?_; (case hd => rfl); (case hg => rfl); (case hr => first | (go_simp; done) | (go_simp; rfl)); (case hp => exact (Reps.one (show Kd.M (Kd.int .u8) _ _ _ a0 [.int .u8 a0] from rfl) (Reps.none _ _))); intro v222 w4 ho5 hb hg_ hnew_; clear hg_ hnew_; (first | rw [← Ny221.out] at ho5 | (simp only [Int.reduceToNat] at ho5; rw [← Ny221.out] at ho5)); have n0_ := Aside0.mk (Kd.R_lower ho5 (below_size (by repeat (first | (with_reducible first | exact HB.out | apply below_alloc | apply pw_below_drewN | apply below_drew1) | exact HB.out)))); have n1_ := Aside0.mk (below_step (by repeat (first | (with_reducible first | exact HB.out | apply below_alloc | apply pw_below_drewN | apply below_drew1) | exact HB.out)) hb); clear HB; have HO223 := n0_; have HB := n1_; clear n0_ n1_; clear hb ho5; have hcv6 := own_string (P := Try.prog) Try.underlying26 Try.underlying5 Try.underlying9 (Kd.own_of_R HO223.out)) | ((with_reducible refine gate_callee (f := 10) rfl ?_); refine goesL_ (some 10) rfl rfl Try.func10 (by kernel_rfl) rfl #[.string (strOfNums y221)] rfl (by (try simp only [List.map_toArray, List.map_cons, List.map_nil]); first | done | rfl | (simp only [List.length_drop, List.length_take]; rfl) | (simp only [ByteArray.size_extract, Nat.min_self]; done) | (simp only [ByteArray.size_extract, Nat.min_self]; rfl)) ?_; (with_reducible refine (sha_Hex.calls k (strOfNums y221) t224 _ A2.out).mono ?_); rintro e w7 ⟨rfl, hb⟩; refine ⟨_, rfl, ?_⟩; have n0_ := Aside0.mk (Kd.R_below (by (with_reducible repeat (first | apply Kd.R_alloc | apply Kd.R_drewN | apply Kd.R_drew)); exact HO223.out) hb); have n1_ := Aside0.mk (below_step (by repeat (first | (with_reducible first | exact HB.out | apply below_alloc | apply pw_below_drewN | apply below_drew1) | exact HB.out)) hb); clear HO223; clear HB; have HO223 := n0_; have HB := n1_; clear n0_ n1_; (try clear hb); (try clear hb2); (try clear hk); (try clear hi)))
    go_loopg [4, 5] k (fun kq v4 v5 w' => ∃ (x4_1 : Int) (x5_1 : Int), v4 = .int .i64 x4_1 ∧ v5 = .int .i64 x5_1 ∧ Aside0 (vitrinelaw14_ShaWords.l0 kq a0 t224 x4_1 x5_1 = some r) ∧ Aside0 (kq ≤ k) ∧ Aside0 (Below w.heap.size w w'))
    case atStart => exact ⟨(0), (0), (by first | rfl | (simp; done) | (simp [*]; done)), (by first | rfl | (simp; done) | (simp [*]; done)), H', ⟨Nat.le_refl _⟩, ⟨by repeat (first | (with_reducible first | exact HB.out | apply below_alloc | apply pw_below_drewN | apply below_drew1) | exact HB.out)⟩⟩
    case round =>
      clear H'
      try clear c1
      try clear p2
      try clear c3
      try clear c3b0
      try clear c3b1
      try clear c6
      try clear hcv6
      obtain ⟨x4_1, x5_1, rfl, rfl, HA, HK1, HB⟩ := hrel
      cases gk with
      | zero => exact absurd HA.out (by simp [vitrinelaw14_ShaWords.l0])
      | succ k1 =>
        have H := HA.out
        clear HA
        simp only [vitrinelaw14_ShaWords.l0] at H
        by_cases c8 : x5_1 < 2
        · rw [if_pos c8] at H
          have c8b0 : decide (x5_1 < 2) = true := decide_eq_true c8
          clear c8
          by_cases c9 : 0 ≤ x5_1
          · rw [if_pos c9] at H
            have c9b0 : decide (0 ≤ x5_1) = true := decide_eq_true c9
            clear c9
            by_cases c10 : x5_1 < (t224.size : Int)
            · rw [if_pos c10] at H
              have c10b0 : decide (x5_1 < (t224.size : Int)) = true := decide_eq_true c10
              clear c10
              have HC12 := Aside0.mk H
              clear H
              have p11 : 0 ≤ (x5_1 : Int) := of_decide_eq_true (by first | (with_reducible assumption) | assumption)
              have q11 : x5_1 < (t224.size : Int) := of_decide_eq_true (by first | (with_reducible assumption) | assumption)
              have hx11 := bt_at t224 x5_1
              replace p11 := eq_true p11
              replace q11 := eq_true q11
              go_upto_region 9 with (fail)
              go_cut [27] (fun v27 wc => ∃ (kq : Nat) (x27_11 : Bool), v27 = .bool x27_11 ∧ Aside0 (vitrinelaw14_ShaWords.j1 kq a0 t224 x4_1 x5_1 (wrap64 (bt t224 x5_1)) x27_11 = some r) ∧ Aside0 (kq ≤ k1) ∧ Aside0 (Below w.heap.size w wc))
              case first =>
                have H := HC12.out
                clear HC12
                by_cases c13 : (wrap64 (bt t224 x5_1)) ≥ 48
                · rw [if_pos c13] at H
                  have c13b0 : decide (48 ≤ (wrap64 (bt t224 x5_1))) = true := decide_eq_true c13
                  clear c13
                  (first | rw [c13b0] | (simp only [i64_w, i32_w]; rw [c13b0]) | skip)
                  have H' := Aside0.mk H
                  clear H
                  go_wp2
                  go_meet
                  case rel => exact ⟨_, (decide ((wrap64 (bt t224 x5_1)) ≤ 57)), (by first | rfl | (simp; done) | (simp [*]; done)), H', ⟨by have := HK1.out; first | omega | exact Nat.le_refl _⟩, ⟨by repeat (first | (with_reducible first | exact HB.out | apply below_alloc | apply pw_below_drewN | apply below_drew1) | exact HB.out)⟩⟩
                · rw [if_neg c13] at H
                  have c13b0 : decide (48 ≤ (wrap64 (bt t224 x5_1))) = false := decide_eq_false c13
                  clear c13
                  (first | rw [c13b0] | (simp only [i64_w, i32_w]; rw [c13b0]) | skip)
                  have H' := Aside0.mk H
                  clear H
                  go_wp2
                  go_meet
                  case rel => exact ⟨_, (false), (by first | rfl | (simp; done) | (simp [*]; done)), H', ⟨by have := HK1.out; first | omega | exact Nat.le_refl _⟩, ⟨by repeat (first | (with_reducible first | exact HB.out | apply below_alloc | apply pw_below_drewN | apply below_drew1) | exact HB.out)⟩⟩
              case rest =>
                clear HC12
                try clear c1
                try clear p1
                try clear q1
                try clear hx1
                try clear p2
                try clear c3
                try clear c3b0
                try clear c3b1
                try clear c6
                try clear p6
                try clear hcv6
                try clear c8
                try clear c8b0
                try clear c9
                try clear c9b0
                try clear c10
                try clear c10b0
                try clear p11
                try clear q11
                try clear hx11
                try clear c13
                try clear c13b0
                try clear p11
                try clear p2
                try clear q11
                obtain ⟨kq, x27_11, rfl, HA, HJ11, HB⟩ := hcut
                cases kq with
                | zero => exact absurd HA.out (by simp [vitrinelaw14_ShaWords.j1])
                | succ kj11 =>
                  have H := HA.out
                  clear HA
                  simp only [vitrinelaw14_ShaWords.j1] at H
                  by_cases c14 : x27_11 = true
                  · subst c14
                    have H1 : (vitrinelaw14_ShaWords.l0 kj11 a0 t224 (wrap64 ((wrap64 ((wrap64 (16 * x4_1)) + (wrap64 (bt t224 x5_1)))) - 48)) (wrap64 (x5_1 + 1))) = some r := by rw [if_pos rfl] at H; exact H
                    clear H
                    have H := H1
                    clear H1
                    have H' := Aside0.mk H
                    clear H
                    go_wp2
                    go_roundg kj11
                    case measure => have := HK1.out; have := HJ11.out; omega
                    case rel => exact ⟨(wrap64 ((wrap64 ((wrap64 (16 * x4_1)) + (wrap64 (bt t224 x5_1)))) - 48)), (wrap64 (x5_1 + 1)), (by first | rfl | (simp; done) | (simp [*]; done)), (by first | rfl | (simp; done) | (simp [*]; done)), H', ⟨by have := HK1.out; have := HJ11.out; omega⟩, ⟨by repeat (first | (with_reducible first | exact HB.out | apply below_alloc | apply pw_below_drewN | apply below_drew1) | exact HB.out)⟩⟩
                  · replace c14 := Bool.eq_false_iff.mpr c14
                    subst c14
                    have H1 : (if (wrap64 (bt t224 x5_1)) ≥ 97 then (if (wrap64 (bt t224 x5_1)) ≤ 102 then (vitrinelaw14_ShaWords.l0 kj11 a0 t224 (wrap64 ((wrap64 ((wrap64 ((wrap64 (16 * x4_1)) + (wrap64 (bt t224 x5_1)))) - 97)) + 10)) (wrap64 (x5_1 + 1))) else (some false)) else (some false)) = some r := by rw [if_neg (show ¬ (false = true) by decide)] at H; exact H
                    clear H
                    have H := H1
                    clear H1
                    by_cases c15 : (wrap64 (bt t224 x5_1)) ≥ 97
                    · rw [if_pos c15] at H
                      have c15b0 : decide (97 ≤ (wrap64 (bt t224 x5_1))) = true := decide_eq_true c15
                      clear c15
                      by_cases c16 : (wrap64 (bt t224 x5_1)) ≤ 102
                      · rw [if_pos c16] at H
                        have c16b0 : decide ((wrap64 (bt t224 x5_1)) ≤ 102) = true := decide_eq_true c16
                        clear c16
                        have H' := Aside0.mk H
                        clear H
                        go_wp2
                        go_roundg kj11
                        case measure => have := HK1.out; have := HJ11.out; omega
                        case rel => exact ⟨(wrap64 ((wrap64 ((wrap64 ((wrap64 (16 * x4_1)) + (wrap64 (bt t224 x5_1)))) - 97)) + 10)), (wrap64 (x5_1 + 1)), (by first | rfl | (simp; done) | (simp [*]; done)), (by first | rfl | (simp; done) | (simp [*]; done)), H', ⟨by have := HK1.out; have := HJ11.out; omega⟩, ⟨by repeat (first | (with_reducible first | exact HB.out | apply below_alloc | apply pw_below_drewN | apply below_drew1) | exact HB.out)⟩⟩
                      · rw [if_neg c16] at H
                        have c16b0 : decide ((wrap64 (bt t224 x5_1)) ≤ 102) = false := decide_eq_false c16
                        clear c16
                        obtain rfl := Option.some.inj H
                        go_wp2
                        go_ret
                        exact ⟨by first | rfl | (simp [errW_none, errW_some] <;> rfl) | (simp [*, errW_none, errW_some] <;> rfl), by repeat (first | (with_reducible first | exact HB.out | apply below_alloc | apply pw_below_drewN | apply below_drew1) | exact HB.out)⟩
                    · rw [if_neg c15] at H
                      have c15b0 : decide (97 ≤ (wrap64 (bt t224 x5_1))) = false := decide_eq_false c15
                      clear c15
                      obtain rfl := Option.some.inj H
                      go_wp2
                      go_ret
                      exact ⟨by first | rfl | (simp [errW_none, errW_some] <;> rfl) | (simp [*, errW_none, errW_some] <;> rfl), by repeat (first | (with_reducible first | exact HB.out | apply below_alloc | apply pw_below_drewN | apply below_drew1) | exact HB.out)⟩
            · rw [if_neg c10] at H
              exact absurd H (by simp)
          · rw [if_neg c9] at H
            exact absurd H (by simp)
        · rw [if_neg c8] at H
          have c8b0 : decide (x5_1 < 2) = false := decide_eq_false c8
          clear c8
          by_cases c17 : x4_1 = (wrap64 (a0))
          · rw [if_pos c17] at H
            have c17b0 : (x4_1 == (wrap64 (a0))) = true := beq_iff_eq.mpr c17
            have c17b1 : (x4_1 != (wrap64 (a0))) = false := bne_eq_false_iff_eq.mpr c17
            clear c17
            replace H := Option.bind_eq_some_iff.mp H
            obtain ⟨t225, A180, H⟩ := H
            replace H : (some t225) = some r := H
            have A18 := Aside0.mk A180
            clear A180
            obtain rfl := Option.some.inj H
            go_wp2_with (first | (go_at_call 9; (with_reducible refine (vitrinelaw14_awake.calls k1  t225 _ A18.out).mono ?_); rintro e w19 ⟨rfl, hb⟩; have n0_ := Aside0.mk (below_step (by repeat (first | (with_reducible first | exact HB.out | apply below_alloc | apply pw_below_drewN | apply below_drew1) | exact HB.out)) hb); clear HB; have HB := n0_; clear n0_; (try clear hb); (try clear hb2); (try clear hk); (try clear hi)))
            go_ret
            exact ⟨by first | rfl | (simp [errW_none, errW_some] <;> rfl) | (simp [*, errW_none, errW_some] <;> rfl), by repeat (first | (with_reducible first | exact HB.out | apply below_alloc | apply pw_below_drewN | apply below_drew1) | exact HB.out)⟩
          · rw [if_neg c17] at H
            have c17b0 : (x4_1 == (wrap64 (a0))) = false := beq_eq_false_iff_ne.mpr c17
            have c17b1 : (x4_1 != (wrap64 (a0))) = true := bne_iff_ne.mpr c17
            obtain rfl := Option.some.inj H
            go_wp2
            go_ret
            exact ⟨by first | rfl | (simp [errW_none, errW_some] <;> rfl) | (simp [*, errW_none, errW_some] <;> rfl), by repeat (first | (with_reducible first | exact HB.out | apply below_alloc | apply pw_below_drewN | apply below_drew1) | exact HB.out)⟩
  · rw [if_neg c3] at H
    have c3b0 : ((t224.size : Int) == 2) = false := beq_eq_false_iff_ne.mpr c3
    have c3b1 : ((t224.size : Int) != 2) = true := bne_iff_ne.mpr c3
    obtain rfl := Option.some.inj H
    go_enter Try.func6, Try.ntmps6
    go_wp2_with (first | ((with_reducible refine gate_dst (N := 8) rfl ?_); refine Kd.R_lit (Kd.int .u8) _ 5 ?hg (N := 8) ?hd (xs := ([a0] : List Int)) (inner := [.int .u8 a0]) (ok := fun _ => True) (okp := fun _ => True) ?hr ?hp (fun _ hk => hk) trivial (Below.refl _ _) (Nat.le_refl _) (by simp) ?_; (case hd => rfl); (case hg => rfl); (case hr => first | (go_simp; done) | (go_simp; rfl)); (case hp => exact (Reps.one (show Kd.M (Kd.int .u8) _ _ _ a0 [.int .u8 a0] from rfl) (Reps.none _ _))); intro v222 w20 ho21 hb hg_ hnew_; clear hg_ hnew_; (first | rw [← Ny221.out] at ho21 | (simp only [Int.reduceToNat] at ho21; rw [← Ny221.out] at ho21)); have n0_ := Aside0.mk (Kd.R_lower ho21 (below_size (by repeat (first | (with_reducible first | exact HB.out | apply below_alloc | apply pw_below_drewN | apply below_drew1) | exact HB.out)))); have n1_ := Aside0.mk (below_step (by repeat (first | (with_reducible first | exact HB.out | apply below_alloc | apply pw_below_drewN | apply below_drew1) | exact HB.out)) hb); clear HB; have HO223 := n0_; have HB := n1_; clear n0_ n1_; clear hb ho21; have hcv22 := own_string (P := Try.prog) Try.underlying26 Try.underlying5 Try.underlying9 (Kd.own_of_R HO223.out)) | ((with_reducible refine gate_callee (f := 10) rfl ?_); refine goesL_ (some 10) rfl rfl Try.func10 (by kernel_rfl) rfl #[.string (strOfNums y221)] rfl (by (try simp only [List.map_toArray, List.map_cons, List.map_nil]); first | done | rfl | (simp only [List.length_drop, List.length_take]; rfl) | (simp only [ByteArray.size_extract, Nat.min_self]; done) | (simp only [ByteArray.size_extract, Nat.min_self]; rfl)) ?_; (with_reducible refine (sha_Hex.calls k (strOfNums y221) t224 _ A2.out).mono ?_); rintro e w23 ⟨rfl, hb⟩; refine ⟨_, rfl, ?_⟩; have n0_ := Aside0.mk (Kd.R_below (by (with_reducible repeat (first | apply Kd.R_alloc | apply Kd.R_drewN | apply Kd.R_drew)); exact HO223.out) hb); have n1_ := Aside0.mk (below_step (by repeat (first | (with_reducible first | exact HB.out | apply below_alloc | apply pw_below_drewN | apply below_drew1) | exact HB.out)) hb); clear HO223; clear HB; have HO223 := n0_; have HB := n1_; clear n0_ n1_; (try clear hb); (try clear hb2); (try clear hk); (try clear hi)))
    go_ret
    exact ⟨by first | rfl | (simp [errW_none, errW_some] <;> rfl) | (simp [*, errW_none, errW_some] <;> rfl), by repeat (first | (with_reducible first | exact HB.out | apply below_alloc | apply pw_below_drewN | apply below_drew1) | exact HB.out)⟩

end Go.Proofs.Ytjjabjajoefgdaa.PL14
