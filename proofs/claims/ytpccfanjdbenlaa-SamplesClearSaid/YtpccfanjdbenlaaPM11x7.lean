/- Printed for this claim by a program of this session over the kit's print program: the Go functions as Lean functions, and proofs that the calls come to these answers. No conditions. -/
import Derived.Test.YtpccfanjdbenlaaPM11x0
import Derived.Test.YtpccfanjdbenlaaPM11x1
namespace Go.Proofs.Ytpccfanjdbenlaa.PM11
open Go.RowKit Go.Proofs.YtpccfanjdbenlaaW.PrintWords Go.Proofs.YtpccfanjdbenlaaW.PrintLast Go.Proofs.YtpccfanjdbenlaaW.PrintMore
attribute [local go_sem] max2_int min2_int max_two min_two max_three min_three max_four min_four   -- for this text's walks alone
set_option linter.unusedVariables false
set_option linter.unusedSimpArgs false

/-! ### samples_Wide: function 17 -/
def samples_Wide.f (k : Nat) (a0 : Int) (a1 : Int) : Option (Int) := (samples_known.f k a1).bind fun t127 => (if t127 = true then (if 0 ≤ a1 then (if (wrap64 ((shl .i64 1 a1) - 1)) = 0 then (none) else (some (wrap64 ((Go.bits .and .i64 a0 (wrap64 ((shl .i64 1 a1) - 1))) * (wrap64 (Int.tdiv 65535 (wrap64 ((shl .i64 1 a1) - 1)))))))) else (none)) else (some 0))
theorem samples_Wide.mono : ∀ a0 a1 k, LeO (samples_Wide.f k a0 a1) (samples_Wide.f (k + 1) a0 a1) := by
  intro a0 a1 k
  unfold samples_Wide.f
  repeat' first
      | (with_reducible exact samples_known.mono _ _)
      | (with_reducible exact LeO.refl _)
      | (with_reducible exact LeO.none _)
      | (with_reducible refine LeO.ite ?_ ?_)
      | (with_reducible refine LeO.bind ?_ (fun _ => ?_))
      | exact samples_known.mono _ _
      | exact LeO.none _
      | refine LeO.ite ?_ ?_
      | refine LeO.bind ?_ (fun _ => ?_)
set_option maxHeartbeats 8000000 in
set_option maxRecDepth 100000 in
theorem samples_Wide.calls (k : Nat) (a0 : Int) (a1 : Int) (r : Int) (w : World) (h : samples_Wide.f k a0 a1 = some r) :
    Calls Try.prog 17 #[.int .i64 a0, .int .i64 a1] w fun e w' => e = .returned (.int .i64 r) ∧ Below w.heap.size w w' := by
  have HB := Aside0.mk (Below.refl w.heap.size w)
  have H : ((samples_known.f k a1).bind fun t127 => (if t127 = true then (if 0 ≤ a1 then (if (wrap64 ((shl .i64 1 a1) - 1)) = 0 then (none) else (some (wrap64 ((Go.bits .and .i64 a0 (wrap64 ((shl .i64 1 a1) - 1))) * (wrap64 (Int.tdiv 65535 (wrap64 ((shl .i64 1 a1) - 1)))))))) else (none)) else (some 0))) = some r := h
  clear h
  replace H := Option.bind_eq_some_iff.mp H
  obtain ⟨t127, A30, H⟩ := H
  replace H : (if t127 = true then (if 0 ≤ a1 then (if (wrap64 ((shl .i64 1 a1) - 1)) = 0 then (none) else (some (wrap64 ((Go.bits .and .i64 a0 (wrap64 ((shl .i64 1 a1) - 1))) * (wrap64 (Int.tdiv 65535 (wrap64 ((shl .i64 1 a1) - 1)))))))) else (none)) else (some 0)) = some r := H
  have A3 := Aside0.mk A30
  clear A30
  by_cases c4 : t127 = true
  · subst c4
    have H1 : (if 0 ≤ a1 then (if (wrap64 ((shl .i64 1 a1) - 1)) = 0 then (none) else (some (wrap64 ((Go.bits .and .i64 a0 (wrap64 ((shl .i64 1 a1) - 1))) * (wrap64 (Int.tdiv 65535 (wrap64 ((shl .i64 1 a1) - 1)))))))) else (none)) = some r := by rw [if_pos rfl] at H; exact H
    clear H
    have H := H1
    clear H1
    by_cases c5 : 0 ≤ a1
    · rw [if_pos c5] at H
      have c5b0 := eq_true c5
      have c5b1 : decide (0 ≤ a1) = true := decide_eq_true c5
      clear c5
      obtain ⟨ji6, hji6⟩ : ∃ j_ : Int, (shl .i64 1 a1) = j_ := ⟨_, rfl⟩
      replace H : (if (wrap64 ((ji6) - 1)) = 0 then (none) else (some (wrap64 ((Go.bits .and .i64 a0 (wrap64 ((ji6) - 1))) * (wrap64 (Int.tdiv 65535 (wrap64 ((ji6) - 1)))))))) = some r := by first | (rw [hji6] at H; exact H) | (simp only [hji6] at H ⊢; exact H)
      (try rw [hji6] at A3)
      have hji6_ : (IntKind.i64.wrap (1 * 2 ^ min a1.toNat 64)) = ji6 := hji6
      have hji6z : a1 ≤ 64 → (IntKind.i64.wrap (1 * 2 ^ a1.toNat)) = ji6 := shl_small hji6
      have hji6u : (IntKind.i64.wrap (2 ^ min a1.toNat 64)) = ji6 := by have h_ := hji6_; rw [Int.one_mul] at h_; exact h_
      have hji6v : a1 ≤ 64 → (IntKind.i64.wrap (2 ^ a1.toNat)) = ji6 := fun hle_ => by have h_ := hji6z hle_; rw [Int.one_mul] at h_; exact h_
      have hji6y : (wrap64 (1 * 2 ^ min a1.toNat 64)) = ji6 := (i64_w _).symm.trans hji6_
      have hji6x : a1 ≤ 64 → (wrap64 (1 * 2 ^ a1.toNat)) = ji6 := fun h_ => (i64_w _).symm.trans (hji6z h_)
      by_cases c7 : (wrap64 ((ji6) - 1)) = 0
      · rw [if_pos c7] at H
        exact absurd H (by simp)
      · rw [if_neg c7] at H
        have c7b0 : ((wrap64 ((ji6) - 1)) == 0) = false := beq_eq_false_iff_ne.mpr c7
        have c7b1 : ((wrap64 ((ji6) - 1)) != 0) = true := bne_iff_ne.mpr c7
        obtain rfl := Option.some.inj H
        go_enter Try.func17, Try.ntmps17
        go_wp2_with (first | ((with_reducible refine gate_callee (f := 21) rfl ?_); refine goesL_ (some 7) rfl rfl Try.func21 (by kernel_rfl) rfl #[.int .i64 a1] rfl (by (try simp only [List.map_toArray, List.map_cons, List.map_nil]); first | done | rfl | (simp only [List.length_drop, List.length_take]; rfl)) ?_; (with_reducible refine (samples_known.calls k a1 true _ A3.out).mono ?_); rintro e w8 ⟨rfl, hb⟩; refine ⟨_, rfl, ?_⟩; have n0_ := Aside0.mk (below_step (by repeat (first | (with_reducible first | exact HB.out | apply below_alloc | apply pw_below_drewN | apply below_drew1) | exact HB.out)) hb); clear HB; have HB := n0_; clear n0_; (try clear hb); (try clear hb2); (try clear hk); (try clear hi)))
        go_ret
        exact ⟨by first | rfl | (simp [errW_none, errW_some] <;> rfl) | (simp only [← hji6]; first | rfl | (simp [errW_none, errW_some] <;> rfl)) | (simp [*, errW_none, errW_some] <;> rfl), by repeat (first | (with_reducible first | exact HB.out | apply below_alloc | apply pw_below_drewN | apply below_drew1) | exact HB.out)⟩
    · rw [if_neg c5] at H
      exact absurd H (by simp)
  · replace c4 := Bool.eq_false_iff.mpr c4
    subst c4
    have H1 : (some 0) = some r := by rw [if_neg (show ¬ (false = true) by decide)] at H; exact H
    clear H
    have H := H1
    clear H1
    obtain rfl := Option.some.inj H
    go_enter Try.func17, Try.ntmps17
    go_wp2_with (first | ((with_reducible refine gate_callee (f := 21) rfl ?_); refine goesL_ (some 7) rfl rfl Try.func21 (by kernel_rfl) rfl #[.int .i64 a1] rfl (by (try simp only [List.map_toArray, List.map_cons, List.map_nil]); first | done | rfl | (simp only [List.length_drop, List.length_take]; rfl)) ?_; (with_reducible refine (samples_known.calls k a1 false _ A3.out).mono ?_); rintro e w9 ⟨rfl, hb⟩; refine ⟨_, rfl, ?_⟩; have n0_ := Aside0.mk (below_step (by repeat (first | (with_reducible first | exact HB.out | apply below_alloc | apply pw_below_drewN | apply below_drew1) | exact HB.out)) hb); clear HB; have HB := n0_; clear n0_; (try clear hb); (try clear hb2); (try clear hk); (try clear hi)))
    go_ret
    exact ⟨by first | rfl | (simp [errW_none, errW_some] <;> rfl) | (simp [*, errW_none, errW_some] <;> rfl), by repeat (first | (with_reducible first | exact HB.out | apply below_alloc | apply pw_below_drewN | apply below_drew1) | exact HB.out)⟩

/-! ### head_Samples: function 23 -/
def head_Samples.f (k : Nat) (a0 : Int) : Option (Int) := (slices_Index_int_int.f k (([0, 4, 2, 6] : List Int)) a0).bind fun t131 => (if a0 = 3 then (some (0 + 1)) else (some (wrap64 (t131 + 1))))
theorem head_Samples.mono : ∀ a0 k, LeO (head_Samples.f k a0) (head_Samples.f (k + 1) a0) := by
  intro a0 k
  unfold head_Samples.f
  repeat' first
      | (with_reducible exact slices_Index_int_int.mono _ _ _)
      | (with_reducible exact LeO.refl _)
      | (with_reducible exact LeO.none _)
      | (with_reducible refine LeO.ite ?_ ?_)
      | (with_reducible refine LeO.bind ?_ (fun _ => ?_))
      | exact slices_Index_int_int.mono _ _ _
      | exact LeO.none _
      | refine LeO.ite ?_ ?_
      | refine LeO.bind ?_ (fun _ => ?_)
set_option maxHeartbeats 8000000 in
set_option maxRecDepth 100000 in
theorem head_Samples.calls (k : Nat) (a0 : Int) (r : Int) (w : World) (h : head_Samples.f k a0 = some r) :
    Calls Try.prog 23 #[.int .i64 a0] w fun e w' => e = .returned (.int .i64 r) ∧ Below w.heap.size w w' := by
  have HB := Aside0.mk (Below.refl w.heap.size w)
  have H : ((slices_Index_int_int.f k (([0, 4, 2, 6] : List Int)) a0).bind fun t131 => (if a0 = 3 then (some (0 + 1)) else (some (wrap64 (t131 + 1))))) = some r := h
  clear h
  obtain ⟨y128, hy128⟩ : ∃ y_ : List Int, y_ = (([0, 4, 2, 6] : List Int)) := ⟨_, rfl⟩
  replace H : ((slices_Index_int_int.f k y128 a0).bind fun t131 => (if a0 = 3 then (some (0 + 1)) else (some (wrap64 (t131 + 1))))) = some r := by first | (rw [hy128]; with_reducible exact H) | (have H2_ := (Option.bind_some _ _).symm.trans H; rw [hy128]; with_reducible exact H2_) | (have H2_ := (Option.bind_some _ _).symm.trans H; with_reducible exact H2_) | with_reducible exact H | (rw [hy128]; exact H) | exact H
  have Ny128 := Aside0.mk hy128
  clear hy128
  replace H := Option.bind_eq_some_iff.mp H
  obtain ⟨t131, A20, H⟩ := H
  replace H : (if a0 = 3 then (some (0 + 1)) else (some (wrap64 (t131 + 1)))) = some r := H
  have A2 := Aside0.mk A20
  clear A20
  by_cases c3 : a0 = 3
  · rw [if_pos c3] at H
    have c3b0 : (a0 == 3) = true := beq_iff_eq.mpr c3
    have c3b1 : (a0 != 3) = false := bne_eq_false_iff_eq.mpr c3
    clear c3
    obtain rfl := Option.some.inj H
    go_enter Try.func23, Try.ntmps23
    go_wp2_with (first | ((with_reducible refine gate_dst (N := 4) rfl ?_); refine Kd.R_lit (Kd.int .i64) _ 3 ?hg (N := 4) ?hd (xs := ([0, 4, 2, 6] : List Int)) (inner := [.int .i64 0, .int .i64 4, .int .i64 2, .int .i64 6]) (ok := fun _ => True) (okp := fun _ => True) ?hr ?hp (fun _ hk => hk) trivial (Below.refl _ _) (Nat.le_refl _) (by simp) ?_; (case hd => rfl); (case hg => rfl); (case hr => first | (go_simp; done) | (go_simp; rfl)); (case hp => exact (Reps.one (show Kd.M (Kd.int .i64) _ _ _ 0 [.int .i64 0] from rfl) (Reps.one (show Kd.M (Kd.int .i64) _ _ _ 4 [.int .i64 4] from rfl) (Reps.one (show Kd.M (Kd.int .i64) _ _ _ 2 [.int .i64 2] from rfl) (Reps.one (show Kd.M (Kd.int .i64) _ _ _ 6 [.int .i64 6] from rfl) (Reps.none _ _)))))); intro v129 w4 ho5 hb hg_ hnew_; clear hg_ hnew_; (first | rw [← Ny128.out] at ho5 | (simp only [Int.reduceToNat] at ho5; rw [← Ny128.out] at ho5)); have n0_ := Aside0.mk (Kd.R_lower ho5 (below_size (by repeat (first | (with_reducible first | exact HB.out | apply below_alloc | apply pw_below_drewN | apply below_drew1) | exact HB.out)))); have n1_ := Aside0.mk (below_step (by repeat (first | (with_reducible first | exact HB.out | apply below_alloc | apply pw_below_drewN | apply below_drew1) | exact HB.out)) hb); clear HB; have HO130 := n0_; have HB := n1_; clear n0_ n1_; clear hb ho5; obtain ⟨Ao6, co6, eo6⟩ := Kd.R_slice HO130.out; subst eo6) | ((with_reducible refine gate_callee (f := 33) rfl ?_); refine goesL_ (some 6) rfl rfl Try.func33 (by kernel_rfl) rfl #[.slice Ao6 y128.length co6, .int .i64 a0] rfl (by (try simp only [List.map_toArray, List.map_cons, List.map_nil]); first | done | rfl | (simp only [List.length_drop, List.length_take]; rfl)) ?_; (with_reducible refine (slices_Index_int_int.calls k _ _ y128 a0 t131 _ ?side1 ?side2 A2.out).mono ?_); (case side1 => repeat (first | exact (Kd.R_reads' HO130.out).2.2 | (with_reducible refine Kd.C_alloc ?_ _) | (with_reducible refine Kd.C_drewN ?_ _) | (with_reducible refine Kd.C_drew ?_))); (case side2 => exact (Kd.R_reads' HO130.out).2.1); rintro e w' ⟨rfl, ⟨nd, rfl⟩⟩; refine ⟨_, rfl, ?_⟩))
    go_ret
    exact ⟨by first | rfl | (simp [errW_none, errW_some] <;> rfl) | (simp [*, errW_none, errW_some] <;> rfl), by repeat (first | (with_reducible first | exact HB.out | apply below_alloc | apply pw_below_drewN | apply below_drew1) | exact HB.out)⟩
  · rw [if_neg c3] at H
    have c3b0 : (a0 == 3) = false := beq_eq_false_iff_ne.mpr c3
    have c3b1 : (a0 != 3) = true := bne_iff_ne.mpr c3
    obtain rfl := Option.some.inj H
    go_enter Try.func23, Try.ntmps23
    go_wp2_with (first | ((with_reducible refine gate_dst (N := 4) rfl ?_); refine Kd.R_lit (Kd.int .i64) _ 3 ?hg (N := 4) ?hd (xs := ([0, 4, 2, 6] : List Int)) (inner := [.int .i64 0, .int .i64 4, .int .i64 2, .int .i64 6]) (ok := fun _ => True) (okp := fun _ => True) ?hr ?hp (fun _ hk => hk) trivial (Below.refl _ _) (Nat.le_refl _) (by simp) ?_; (case hd => rfl); (case hg => rfl); (case hr => first | (go_simp; done) | (go_simp; rfl)); (case hp => exact (Reps.one (show Kd.M (Kd.int .i64) _ _ _ 0 [.int .i64 0] from rfl) (Reps.one (show Kd.M (Kd.int .i64) _ _ _ 4 [.int .i64 4] from rfl) (Reps.one (show Kd.M (Kd.int .i64) _ _ _ 2 [.int .i64 2] from rfl) (Reps.one (show Kd.M (Kd.int .i64) _ _ _ 6 [.int .i64 6] from rfl) (Reps.none _ _)))))); intro v129 w7 ho8 hb hg_ hnew_; clear hg_ hnew_; (first | rw [← Ny128.out] at ho8 | (simp only [Int.reduceToNat] at ho8; rw [← Ny128.out] at ho8)); have n0_ := Aside0.mk (Kd.R_lower ho8 (below_size (by repeat (first | (with_reducible first | exact HB.out | apply below_alloc | apply pw_below_drewN | apply below_drew1) | exact HB.out)))); have n1_ := Aside0.mk (below_step (by repeat (first | (with_reducible first | exact HB.out | apply below_alloc | apply pw_below_drewN | apply below_drew1) | exact HB.out)) hb); clear HB; have HO130 := n0_; have HB := n1_; clear n0_ n1_; clear hb ho8; obtain ⟨Ao9, co9, eo9⟩ := Kd.R_slice HO130.out; subst eo9) | ((with_reducible refine gate_callee (f := 33) rfl ?_); refine goesL_ (some 6) rfl rfl Try.func33 (by kernel_rfl) rfl #[.slice Ao9 y128.length co9, .int .i64 a0] rfl (by (try simp only [List.map_toArray, List.map_cons, List.map_nil]); first | done | rfl | (simp only [List.length_drop, List.length_take]; rfl)) ?_; (with_reducible refine (slices_Index_int_int.calls k _ _ y128 a0 t131 _ ?side1 ?side2 A2.out).mono ?_); (case side1 => repeat (first | exact (Kd.R_reads' HO130.out).2.2 | (with_reducible refine Kd.C_alloc ?_ _) | (with_reducible refine Kd.C_drewN ?_ _) | (with_reducible refine Kd.C_drew ?_))); (case side2 => exact (Kd.R_reads' HO130.out).2.1); rintro e w' ⟨rfl, ⟨nd, rfl⟩⟩; refine ⟨_, rfl, ?_⟩))
    go_ret
    exact ⟨by first | rfl | (simp [errW_none, errW_some] <;> rfl) | (simp [*, errW_none, errW_some] <;> rfl), by repeat (first | (with_reducible first | exact HB.out | apply below_alloc | apply pw_below_drewN | apply below_drew1) | exact HB.out)⟩

-- NOT PRINTED: function 34 (slices_IndexFunc_int_int)

/-! ### slices_ContainsFunc_int_int: function 24 -/
/-- Is a sample none of its depth? -/
def pbad (d v : Int) : Bool := decide (v < 0) || decide (v ≥ 2 ^ d.toNat)
/-- The closure of samples.Pixel. -/
theorem samples_Pixel_bad.calls (g : Nat) (v s0 s1 s2 s3 s4 : Int) (s5 s6 : ByteArray) (s7 : Bool) (w : World) (hd : s2 = 1 ∨ s2 = 2 ∨ s2 = 4 ∨ s2 = 8 ∨ s2 = 16)
    (hb : w.heap[g]? = some (.cells #[.int .i64 s0, .int .i64 s1, .int .i64 s2, .int .i64 s3, .int .i64 s4, .string s5, .string s6, .bool s7] 38 (0, 0))) :
    Calls Try.prog 25 #[.int .i64 v, .pointer (some ⟨g, 0, none⟩)] w fun e w' => e = .returned (.bool (pbad s2 v)) ∧ w = w' := by
  have hc := (blk_cell hb 2).trans rfl
  unfold pbad
  by_cases h0 : v < 0
  · have h0b : decide (v < 0) = true := decide_eq_true h0
    rw [h0b, Bool.true_or]
    clear hb hd h0
    go_enter Try.func25, Try.ntmps25
    go_wp2
    go_ret
    exact ⟨rfl, rfl⟩
  · have h0b : decide (v < 0) = false := decide_eq_false h0
    rw [h0b, Bool.false_or]
    clear h0 hb
    rcases hd with rfl | rfl | rfl | rfl | rfl
    all_goals
      go_enter Try.func25, Try.ntmps25
      go_wp2
      go_ret
      exact ⟨by first | rfl | (simp; done), rfl⟩
def pbadIdx : Nat → Int → List Int → Int → Option Int
  | 0, _, _, _ => none
  | k + 1, d, l, i => if i < (l.length : Int) then (if 0 ≤ i then (if pbad d (rd l i) = true then some i else pbadIdx k d l (wrap64 (i + 1))) else none) else some (-1)
theorem pbadIdx_mono : ∀ (k : Nat) (d : Int) (l : List Int) (i : Int), LeO (pbadIdx k d l i) (pbadIdx (k + 1) d l i)
  | 0 => fun _ _ _ r h => by simp [pbadIdx] at h
  | k + 1 => by
    intro d l i
    unfold pbadIdx
    refine LeO.ite (LeO.ite (LeO.ite (LeO.refl _) (pbadIdx_mono k _ _ _)) (LeO.refl _)) (LeO.refl _)
set_option maxHeartbeats 8000000 in
set_option maxRecDepth 100000 in
theorem samples_Pixel_badIndex.calls (k : Nat) (A : Option Addr) (c : Nat) (l : List Int) (g : Nat) (s0 s1 s2 s3 s4 : Int) (s5 s6 : ByteArray) (s7 : Bool) (r : Int) (w : World) (hd : s2 = 1 ∨ s2 = 2 ∨ s2 = 4 ∨ s2 = 8 ∨ s2 = 16)
    (hr : Kd.C (Kd.int .i64) w A l.length l) (hl : l.length ≤ c)
    (hb : w.heap[g]? = some (.cells #[.int .i64 s0, .int .i64 s1, .int .i64 s2, .int .i64 s3, .int .i64 s4, .string s5, .string s6, .bool s7] 38 (0, 0))) (h : pbadIdx k s2 l 0 = some r) :
    Calls Try.prog 34 #[.slice A l.length c, .func (.func 25) #[] #[.pointer (some ⟨g, 0, none⟩)]] w fun e w' => e = .returned (.int .i64 r) ∧ Drawn0 w w' := by
  have HR0 := Aside0.mk hr
  have HC0 := Aside0.mk hl
  have HBX := Aside0.mk hb
  have HD := Aside0.mk hd
  have H' := Aside0.mk h
  clear hr hl hb hd h
  go_enter Try.func34, Try.ntmps34
  go_wp2
  go_loopg [8] k (fun kq v8 w' => ∃ (x8_1 : Int), v8 = .int .i64 x8_1 ∧ Aside0 (pbadIdx kq s2 l x8_1 = some r) ∧ Aside0 (kq ≤ k) ∧ Drawn0 w w')
  case atStart => exact ⟨(0), (by first | rfl | (simp; done) | (simp [*]; done)), H', ⟨Nat.le_refl _⟩, by repeat (first | exact Drawn0.refl _ | apply Drawn0.step)⟩
  case round =>
    clear H'
    obtain ⟨x8_1, rfl, HA, HK1, ⟨m1, rfl⟩⟩ := hrel
    cases gk with
    | zero => exact absurd HA.out (by simp [pbadIdx])
    | succ k1 =>
      have H := HA.out
      clear HA
      simp only [pbadIdx] at H
      by_cases c3 : x8_1 < (l.length : Int)
      · rw [if_pos c3] at H
        have c3b0 : decide (x8_1 < (l.length : Int)) = true := decide_eq_true c3
        by_cases c4 : 0 ≤ x8_1
        · rw [if_pos c4] at H
          have p101 : 0 ≤ (x8_1 : Int) := c4
          have q101 : x8_1 < (l.length : Int) := c3
          clear c3
          have c4b0 : decide (0 ≤ x8_1) = true := decide_eq_true c4
          clear c4
          obtain ⟨ad101, e101, hx101_0⟩ := Kd.at_int HR0.out x8_1 p101 q101
          cases e101
          replace p101 := eq_true p101
          replace q101 := eq_true q101
          have cl := Aside0.mk (samples_Pixel_bad.calls g (rd l x8_1) s0 s1 s2 s3 s4 s5 s6 s7 (w.drewN m1) HD.out (by exact HBX.out))
          by_cases c6 : pbad s2 (rd l x8_1) = true
          · rw [if_pos c6] at H
            rw [c6] at cl
            clear c6
            obtain rfl := Option.some.inj H
            go_wp2_with (go_at_call 25; refine cl.out.mono ?_; rintro e w' ⟨rfl, rfl⟩)
            go_ret
            exact ⟨by first | rfl | (simp; done) | (simp [*]; done), by repeat (first | exact Drawn0.refl _ | apply Drawn0.step)⟩
          · rw [if_neg c6] at H
            rw [Bool.eq_false_iff.mpr c6] at cl
            clear c6
            have H' := Aside0.mk H
            clear H
            go_wp2_with (go_at_call 25; refine cl.out.mono ?_; rintro e w' ⟨rfl, rfl⟩)
            go_roundg k1
            case measure => have := HK1.out; omega
            case rel => exact ⟨(wrap64 (x8_1 + 1)), (by first | rfl | (simp; done) | (simp [*]; done)), H', ⟨by have := HK1.out; omega⟩, by repeat (first | exact Drawn0.refl _ | apply Drawn0.step)⟩
        · rw [if_neg c4] at H
          exact absurd H (by simp)
      · rw [if_neg c3] at H
        have c3b0 : decide (x8_1 < (l.length : Int)) = false := decide_eq_false c3
        clear c3
        obtain rfl := Option.some.inj H
        go_wp2
        go_ret
        exact ⟨by first | rfl | (simp; done) | (simp [*]; done), by repeat (first | exact Drawn0.refl _ | apply Drawn0.step)⟩
def slices_ContainsFunc_int_int.f (k : Nat) (l : List Int) (s0 s1 s2 s3 s4 : Int) (s5 s6 : ByteArray) (s7 : Bool) : Option Bool := if s2 = 1 ∨ s2 = 2 ∨ s2 = 4 ∨ s2 = 8 ∨ s2 = 16 then (pbadIdx k s2 l 0).bind fun t => some (decide (t ≥ 0)) else none
theorem slices_ContainsFunc_int_int.mono : ∀ (l : List Int) (s0 s1 s2 s3 s4 : Int) (s5 s6 : ByteArray) (s7 : Bool) k, LeO (slices_ContainsFunc_int_int.f k l s0 s1 s2 s3 s4 s5 s6 s7) (slices_ContainsFunc_int_int.f (k + 1) l s0 s1 s2 s3 s4 s5 s6 s7) := by
  intro l s0 s1 s2 s3 s4 s5 s6 s7 k
  unfold slices_ContainsFunc_int_int.f
  exact LeO.ite (LeO.bind (pbadIdx_mono _ _ _ _) (fun _ => LeO.refl _)) (LeO.refl _)
set_option maxHeartbeats 8000000 in
set_option maxRecDepth 100000 in
theorem slices_ContainsFunc_int_int.calls (k : Nat) (A : Option Addr) (c : Nat) (l : List Int) (g : Nat) (s0 s1 s2 s3 s4 : Int) (s5 s6 : ByteArray) (s7 : Bool) (r : Bool) (w : World) (hr : Kd.C (Kd.int .i64) w A l.length l) (hl : l.length ≤ c)
    (hb : w.heap[g]? = some (.cells #[.int .i64 s0, .int .i64 s1, .int .i64 s2, .int .i64 s3, .int .i64 s4, .string s5, .string s6, .bool s7] 38 (0, 0))) (h : slices_ContainsFunc_int_int.f k l s0 s1 s2 s3 s4 s5 s6 s7 = some r) :
    Calls Try.prog 24 #[.slice A l.length c, .func (.func 25) #[] #[.pointer (some ⟨g, 0, none⟩)]] w fun e w' => e = .returned (.bool r) ∧ Drawn0 w w' := by
  unfold slices_ContainsFunc_int_int.f at h
  by_cases hd : s2 = 1 ∨ s2 = 2 ∨ s2 = 4 ∨ s2 = 8 ∨ s2 = 16
  · rw [if_pos hd] at h
    obtain ⟨t, ht, h2⟩ := Option.bind_eq_some_iff.mp h
    obtain rfl := Option.some.inj h2
    have cl := Aside0.mk (samples_Pixel_badIndex.calls k A c l g s0 s1 s2 s3 s4 s5 s6 s7 t w hd hr hl hb ht)
    clear h2 h hr hl hb hd ht
    go_enter Try.func24, Try.ntmps24
    go_wp2_with (go_at_call 34; refine cl.out.mono ?_; rintro e w' ⟨rfl, ⟨nd, rfl⟩⟩)
    go_ret
    exact ⟨by first | rfl | (simp; done) | (simp [*]; done), by repeat (first | exact Drawn0.refl _ | apply Drawn0.step)⟩
  · rw [if_neg hd] at h
    exact absurd h (by simp)


/-! ### samples_pairs: function 28 -/
def samples_pairs.l0 : Nat → List Int → List Int → Int → Int → Option (ByteArray)
  | 0, _, _, _, _ => none
  | k + 1, x3, x6, x7, x8 => if x8 < x7 then (if 0 ≤ x8 then (if x8 < (x6.length : Int) then ((some (([((rd x6 x8) / 256) % 256, (rd x6 x8) % 256] : List Int) : List Int)).bind fun y133 => (if x3.length + y133.length < 140737488355328 then (samples_pairs.l0 k (x3 ++ y133) x6 x7 (wrap64 (x8 + 1))) else (none))) else (none)) else (none)) else (some (strOfNums x3))
def samples_pairs.f (k : Nat) (l0 : List Int) : Option (ByteArray) := samples_pairs.l0 k ([] : List Int) l0 (l0.length : Int) 0
theorem samples_pairs.mono_l : ∀ k, (∀ y0 y1 y2 y3, LeO (samples_pairs.l0 k y0 y1 y2 y3) (samples_pairs.l0 (k + 1) y0 y1 y2 y3))
  | 0 => fun _ _ _ _ r h => by simp [samples_pairs.l0] at h
  | k + 1 => by
    have ih0 := samples_pairs.mono_l k
    · intro y0 y1 y2 y3
      unfold samples_pairs.l0
      repeat' first
      | (with_reducible exact ih0 _ _ _ _)
      | (with_reducible exact LeO.refl _)
      | (with_reducible exact LeO.none _)
      | (with_reducible refine LeO.ite ?_ ?_)
      | (with_reducible refine LeO.bind ?_ (fun _ => ?_))
      | exact ih0 _ _ _ _
      | exact LeO.none _
      | refine LeO.ite ?_ ?_
      | refine LeO.bind ?_ (fun _ => ?_)
theorem samples_pairs.mono : ∀ a0 k, LeO (samples_pairs.f k a0) (samples_pairs.f (k + 1) a0) := by
  intro a0 k
  have ih0 := samples_pairs.mono_l k
  unfold samples_pairs.f
  repeat' first
      | (with_reducible exact ih0 _ _ _ _)
      | (with_reducible exact LeO.refl _)
      | (with_reducible exact LeO.none _)
      | (with_reducible refine LeO.ite ?_ ?_)
      | (with_reducible refine LeO.bind ?_ (fun _ => ?_))
      | exact ih0 _ _ _ _
      | exact LeO.none _
      | refine LeO.ite ?_ ?_
      | refine LeO.bind ?_ (fun _ => ?_)
set_option maxHeartbeats 8000000 in
set_option maxRecDepth 100000 in
theorem samples_pairs.calls (k : Nat) (A0 : Option Addr) (c0 : Nat) (l0 : List Int) (r : ByteArray) (w : World) (hr0 : Kd.C (Kd.int .i64) w A0 l0.length l0) (hc0 : l0.length ≤ c0) (h : samples_pairs.f k l0 = some r) :
    Calls Try.prog 28 #[.slice A0 l0.length c0] w fun e w' => e = .returned (.string r) ∧ Below w.heap.size w w' := by
  have HR0 := Aside0.mk hr0
  have HC0 := Aside0.mk hc0
  clear hr0 hc0
  have HB := Aside0.mk (Below.refl w.heap.size w)
  have H : (samples_pairs.l0 k ([] : List Int) l0 (l0.length : Int) 0) = some r := h
  clear h
  have H' := Aside0.mk H
  clear H
  go_enter Try.func28, Try.ntmps28
  go_wp2
  go_loopg [3, 8] k (fun kq v3 v8 w' => ∃ (x3_1 : List Int) (x8_1 : Int), v8 = .int .i64 x8_1 ∧ Aside0 (samples_pairs.l0 kq x3_1 l0 (l0.length : Int) x8_1 = some r) ∧ Aside0 (kq ≤ k) ∧ Aside0 (Kd.R (Kd.int .u8) 5 w' w.heap.size (fun _ => True) v3 x3_1) ∧ Aside0 (Below w.heap.size w w'))
  case atStart => exact ⟨(([] : List Int)), (0), (by first | rfl | (simp; done) | (simp [*]; done)), H', ⟨Nat.le_refl _⟩, ⟨by first | exact Kd.R_nil _ _ _ _ _ | exact Kd.N_nil _ _ _ _ _ | exact Kd.V_nil _ _ _ _ _ | exact Kd.Q_nil _ _ _ _ _ | exact Kd.S_nil _ _ _ _ _⟩, ⟨by repeat (first | (with_reducible first | exact HB.out | apply below_alloc | apply pw_below_drewN | apply below_drew1) | exact HB.out)⟩⟩
  case round =>
    clear H'
    obtain ⟨x3_1, x8_1, rfl, HA, HK1, HO_3, HB⟩ := hrel
    cases gk with
    | zero => exact absurd HA.out (by simp [samples_pairs.l0])
    | succ k1 =>
      have H := HA.out
      clear HA
      simp only [samples_pairs.l0] at H
      by_cases c2 : x8_1 < (l0.length : Int)
      · rw [if_pos c2] at H
        have c2b0 : decide (x8_1 < (l0.length : Int)) = true := decide_eq_true c2
        clear c2
        by_cases c3 : 0 ≤ x8_1
        · rw [if_pos c3] at H
          have c3b0 : decide (0 ≤ x8_1) = true := decide_eq_true c3
          clear c3
          by_cases c4 : x8_1 < (l0.length : Int)
          · rw [if_pos c4] at H
            have c4b0 : decide (x8_1 < (l0.length : Int)) = true := decide_eq_true c4
            clear c4
            obtain ⟨y133, hy133⟩ : ∃ y_ : List Int, y_ = (([((rd l0 x8_1) / 256) % 256, (rd l0 x8_1) % 256] : List Int)) := ⟨_, rfl⟩
            replace H : (if x3_1.length + y133.length < 140737488355328 then (samples_pairs.l0 k1 (x3_1 ++ y133) l0 (l0.length : Int) (wrap64 (x8_1 + 1))) else (none)) = some r := by first | (rw [hy133]; with_reducible exact H) | (have H2_ := (Option.bind_some _ _).symm.trans H; rw [hy133]; with_reducible exact H2_) | (have H2_ := (Option.bind_some _ _).symm.trans H; with_reducible exact H2_) | with_reducible exact H | (rw [hy133]; exact H) | exact H
            have Ny133 := Aside0.mk hy133
            clear hy133
            by_cases c5 : x3_1.length + y133.length < 140737488355328
            · rw [if_pos c5] at H
              have LMc5 := Aside0.mk c5
              clear c5
              obtain ⟨y136, hy136⟩ : ∃ y_ : List Int, y_ = (x3_1 ++ y133) := ⟨_, rfl⟩
              replace H : (samples_pairs.l0 k1 y136 l0 (l0.length : Int) (wrap64 (x8_1 + 1))) = some r := by first | (rw [hy136]; with_reducible exact H) | (have H2_ := (Option.bind_some _ _).symm.trans H; rw [hy136]; with_reducible exact H2_) | (have H2_ := (Option.bind_some _ _).symm.trans H; with_reducible exact H2_) | with_reducible exact H | (rw [hy136]; exact H) | exact H
              have Ny136 := Aside0.mk hy136
              clear hy136
              have H' := Aside0.mk H
              clear H
              have p132 : 0 ≤ (x8_1 : Int) := of_decide_eq_true (by first | (with_reducible assumption) | assumption)
              have q132 : x8_1 < (l0.length : Int) := of_decide_eq_true (by first | (with_reducible assumption) | assumption)
              obtain ⟨ad132, e132, hx132_0⟩ := Kd.at_int HR0.out x8_1 p132 q132
              cases e132
              replace hx132_0 := (HB.out.cell (World.block_lt_of_cell? w _ hx132_0)).trans hx132_0
              replace p132 := eq_true p132
              replace q132 := eq_true q132
              go_wp2_with (first | ((with_reducible refine gate_dst (N := 18) rfl ?_); refine Kd.R_lit (Kd.int .u8) _ 5 ?hg (N := 18) ?hd (xs := ([((rd l0 x8_1) / 256) % 256, (rd l0 x8_1) % 256] : List Int)) (inner := [.int .u8 (((rd l0 x8_1) / 256) % 256), .int .u8 ((rd l0 x8_1) % 256)]) (ok := fun _ => True) (okp := fun _ => True) ?hr ?hp (fun _ hk => hk) trivial (Below.refl _ _) (Nat.le_refl _) (by simp) ?_; (case hd => rfl); (case hg => rfl); (case hr => first | (go_simp; done) | (go_simp; rfl)); (case hp => exact (Reps.one (show Kd.M (Kd.int .u8) _ _ _ (((rd l0 x8_1) / 256) % 256) [.int .u8 (((rd l0 x8_1) / 256) % 256)] from rfl) (Reps.one (show Kd.M (Kd.int .u8) _ _ _ ((rd l0 x8_1) % 256) [.int .u8 ((rd l0 x8_1) % 256)] from rfl) (Reps.none _ _)))); intro v134 w6 ho7 hb hg_ hnew_; clear hg_ hnew_; (first | rw [← Ny133.out] at ho7 | (simp only [Int.reduceToNat] at ho7; rw [← Ny133.out] at ho7)); have n0_ := Aside0.mk (Kd.R_elder' (by (with_reducible repeat (first | apply Kd.R_alloc | apply Kd.R_drewN | apply Kd.R_drew)); exact HO_3.out) (Kd.R_base ho7) hb); have n1_ := Aside0.mk (Kd.R_lower (Kd.R_new' ho7 (Kd.R_lt (by (with_reducible repeat (first | apply Kd.R_alloc | apply Kd.R_drewN | apply Kd.R_drew)); exact HO_3.out))) (below_size (by repeat (first | (with_reducible first | exact HB.out | apply below_alloc | apply pw_below_drewN | apply below_drew1) | exact HB.out)))); have n2_ := Aside0.mk (below_step (by repeat (first | (with_reducible first | exact HB.out | apply below_alloc | apply pw_below_drewN | apply below_drew1) | exact HB.out)) hb); clear HO_3; clear HB; have HO_3 := n0_; have HO135 := n1_; have HB := n2_; clear n0_ n1_ n2_; clear hb ho7; obtain ⟨Ao9, co9, eo9⟩ := Kd.R_slice HO135.out; subst eo9) | ((with_reducible refine gate_builtin (b := .append) (xs := #[.tmp 12, .tmp 18]) rfl ?_); at_builtin; refine Kd.R_append_rows (Kd.int .u8) (w0 := w) w.heap.size rfl (.tmp 12) (.tmp 18) 46 5 (.int .u8 0) 1 rfl Try.underlying46 info5 rfl (by decide) (by omega) u3 x3_1 y133 _ _ _ (fun k_ => some k_ ≠ (.slice Ao9 y133.length co9 : Value).ownBlock) (fun _ => False) rfl rfl ?aO ?aR (fun _ _ h => h) (fun _ h => h.elim) ?aF ?aB ?aS ?aL ?_; (case aR => repeat (first | exact (Kd.R_reads' HO135.out).2.2 | (with_reducible refine Kd.C_alloc ?_ _) | (with_reducible refine Kd.C_drewN ?_ _) | (with_reducible refine Kd.C_drew ?_))); (case aB => exact (by repeat (first | (with_reducible first | exact HB.out | apply below_alloc | apply pw_below_drewN | apply below_drew1) | exact HB.out))); (case aF => exact (fun k_ hk => Kd.fresh' (Kd.R_lt (by (with_reducible repeat (first | apply Kd.R_alloc | apply Kd.R_drewN | apply Kd.R_drew)); exact HO135.out)) k_ hk)); (case aO => exact (by (with_reducible repeat (first | apply Kd.R_alloc | apply Kd.R_drewN | apply Kd.R_drew)); exact Kd.R_mono HO_3.out (fun _ hk => hk.2))); (case aS => exact (below_size (by repeat (first | (with_reducible first | exact HB.out | apply below_alloc | apply pw_below_drewN | apply below_drew1) | exact HB.out)))); (case aL => have := LMc5.out; omega); intro v137 w8 ho hb hg hat; rw [← Ny136.out] at ho; have n0_ := Aside0.mk (Kd.R_after (ok := (fun _ => True)) (by (with_reducible repeat (first | apply Kd.R_alloc | apply Kd.R_drewN | apply Kd.R_drew)); exact HO135.out) hg hat); have n1_ := Aside0.mk (hb); have n2_ := Aside0.mk (ho); clear HO135; clear HB; clear HO_3; have HO135 := n0_; have HB := n1_; have HO138 := n2_; clear n0_ n1_ n2_; clear ho hb hg hat))
              go_roundg k1
              case measure => have := HK1.out; omega
              case rel => exact ⟨(y136), (wrap64 (x8_1 + 1)), (by first | rfl | (simp; done) | (simp [*]; done)), H', ⟨by have := HK1.out; omega⟩, ⟨by (with_reducible repeat (first | apply Kd.R_alloc | apply Kd.R_drewN | apply Kd.R_drew)); exact Kd.R_mono HO138.out (fun _ hk => trivial)⟩, ⟨by repeat (first | (with_reducible first | exact HB.out | apply below_alloc | apply pw_below_drewN | apply below_drew1) | exact HB.out)⟩⟩
            · rw [if_neg c5] at H
              exact absurd H (by simp)
          · rw [if_neg c4] at H
            exact absurd H (by simp)
        · rw [if_neg c3] at H
          exact absurd H (by simp)
      · rw [if_neg c2] at H
        have c2b0 : decide (x8_1 < (l0.length : Int)) = false := decide_eq_false c2
        clear c2
        obtain rfl := Option.some.inj H
        have hcv10 := own_string (P := Try.prog) Try.underlying46 Try.underlying5 Try.underlying9 (Kd.own_of_R HO_3.out)
        go_wp2
        go_ret
        exact ⟨by first | rfl | (simp [errW_none, errW_some] <;> rfl) | (simp [*, errW_none, errW_some] <;> rfl), by repeat (first | (with_reducible first | exact HB.out | apply below_alloc | apply pw_below_drewN | apply below_drew1) | exact HB.out)⟩

end Go.Proofs.Ytpccfanjdbenlaa.PM11
