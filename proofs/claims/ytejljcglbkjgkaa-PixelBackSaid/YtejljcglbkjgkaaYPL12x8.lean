/- Printed for this claim by a program of this session over the kit's print program: the Go functions as Lean functions, and proofs that the calls come to these answers. No conditions. -/
import Derived.Test.YtejljcglbkjgkaaYH
import Derived.Test.YtejljcglbkjgkaaYPL12x1
namespace Go.Proofs.Ytejljcglbkjgkaa.PL12
open Go.RowKit Go.Proofs.YtejljcglbkjgkaaW.PrintWords Go.Proofs.YtejljcglbkjgkaaW.PrintLast Go.Proofs.YtejljcglbkjgkaaW.PrintMore
attribute [local go_sem] max2_int min2_int max_two min_two max_three min_three max_four min_four   -- for this text's walks alone
set_option linter.unusedVariables false
set_option linter.unusedSimpArgs false

def filter_wrong.j0 : Nat → Int → Bool → Option (Int)
 | 0, _, _ => none
 | k + 1, x1, x9 => if x9 = true then (some 1) else (if x1 < 0 then (some 28) else (if x1 ≥ 5 then (some 28) else (some 0)))
def filter_wrong.f (k : Nat) (a0 : Int) (a1 : Int) (a2 : ByteArray) (a3 : ByteArray) : Option (Int) := if a0 < 1 then (filter_wrong.j0 k a1 true) else (if a0 > 8 then (filter_wrong.j0 k a1 true) else (if a3.toList = ([] : List UInt8) then (filter_wrong.j0 k a1 false) else (filter_wrong.j0 k a1 ((a3.size : Int) != (a2.size : Int)))))
theorem filter_wrong.mono_l : ∀ k, (∀ y0 y1, LeO (filter_wrong.j0 k y0 y1) (filter_wrong.j0 (k + 1) y0 y1))
 | 0 => fun _ _ r h => by simp [filter_wrong.j0] at h
 | k + 1 => by
  have ih0 := filter_wrong.mono_l k
  ·intro y0 y1
   unfold filter_wrong.j0
   repeat' first
   | (with_reducible exact ih0 _ _)
   | (with_reducible exact LeO.refl _)
   | (with_reducible exact LeO.none _)
   | (with_reducible refine LeO.ite ?_ ?_)
   | (with_reducible refine LeO.bind ?_ (fun _ => ?_))
   | exact ih0 _ _
   | exact LeO.none _
   | refine LeO.ite ?_ ?_
   | refine LeO.bind ?_ (fun _ => ?_)
theorem filter_wrong.mono : ∀ a0 a1 a2 a3 k, LeO (filter_wrong.f k a0 a1 a2 a3) (filter_wrong.f (k + 1) a0 a1 a2 a3) := by
 intro a0 a1 a2 a3 k
 have ih0 := filter_wrong.mono_l k
 unfold filter_wrong.f
 repeat' first
   | (with_reducible exact ih0 _ _)
   | (with_reducible exact LeO.refl _)
   | (with_reducible exact LeO.none _)
   | (with_reducible refine LeO.ite ?_ ?_)
   | (with_reducible refine LeO.bind ?_ (fun _ => ?_))
   | exact ih0 _ _
   | exact LeO.none _
   | refine LeO.ite ?_ ?_
   | refine LeO.bind ?_ (fun _ => ?_)
set_option maxHeartbeats 40000000 in
set_option maxRecDepth 100000 in
theorem filter_wrong.calls (k : Nat) (a0 : Int) (a1 : Int) (a2 : ByteArray) (a3 : ByteArray) (r : Int) (w : World) (h : filter_wrong.f k a0 a1 a2 a3 = some r) :
  Calls Try.prog 61 #[.int .i64 a0, .int .i64 a1, .string a2, .string a3] w fun e w' => e = .returned (.int .i64 r) ∧ Drawn0 w w' := by
 have H : (if a0 < 1 then (filter_wrong.j0 k a1 true) else (if a0 > 8 then (filter_wrong.j0 k a1 true) else (if a3.toList = ([] : List UInt8) then (filter_wrong.j0 k a1 false) else (filter_wrong.j0 k a1 ((a3.size : Int) != (a2.size : Int)))))) = some r := h
 clear h
 have HC5 := Aside0.mk H
 clear H
 go_enter Try.func61, Try.ntmps61
 go_upto_region 1 with (fail)
 go_cut [9] (fun v9 wc => ∃ (kq : Nat) (x9_4 : Bool), v9 = .bool x9_4 ∧ Aside0 (filter_wrong.j0 kq a1 x9_4 = some r) ∧ Aside0 (kq ≤ k) ∧ Drawn0 w wc)
 case first =>
  have H := HC5.out
  clear HC5
  by_cases c6 : a0 < 1
  ·rw [if_pos c6] at H
   have c6b0 : decide (a0 < 1) = true := decide_eq_true c6
   clear c6
   (first | rw [c6b0] | (simp only [i64_w, i32_w]; rw [c6b0]) | skip)
   have H' := Aside0.mk H
   clear H
   go_wp2
   go_meet
   case rel => exact ⟨_, (true), (by first | rfl | (simp; done) | (simp [*]; done)), H', ⟨by first | omega | exact Nat.le_refl _⟩, by repeat (first | exact Drawn0.refl _ | apply Drawn0.step)⟩
  ·rw [if_neg c6] at H
   have c6b0 : decide (a0 < 1) = false := decide_eq_false c6
   clear c6
   (first | rw [c6b0] | (simp only [i64_w, i32_w]; rw [c6b0]) | skip)
   by_cases c7 : a0 > 8
   ·rw [if_pos c7] at H
    have c7b0 : decide (8 < a0) = true := decide_eq_true c7
    clear c7
    have H' := Aside0.mk H
    clear H
    go_wp2
    go_meet
    case rel => exact ⟨_, (true), (by first | rfl | (simp; done) | (simp [*]; done)), H', ⟨by first | omega | exact Nat.le_refl _⟩, by repeat (first | exact Drawn0.refl _ | apply Drawn0.step)⟩
   ·rw [if_neg c7] at H
    have c7b0 : decide (8 < a0) = false := decide_eq_false c7
    clear c7
    by_cases c8 : a3.toList = ([] : List UInt8)
    ·rw [if_pos c8] at H
     have c8b0 : (a3.toList == ([] : List UInt8)) = true := beq_iff_eq.mpr c8
     have c8b1 : (a3.toList != ([] : List UInt8)) = false := bne_eq_false_iff_eq.mpr c8
     clear c8
     have H' := Aside0.mk H
     clear H
     go_wp2
     go_meet
     case rel => exact ⟨_, (false), (by first | rfl | (simp; done) | (simp [*]; done)), H', ⟨by first | omega | exact Nat.le_refl _⟩, by repeat (first | exact Drawn0.refl _ | apply Drawn0.step)⟩
    ·rw [if_neg c8] at H
     have c8b0 : (a3.toList == ([] : List UInt8)) = false := beq_eq_false_iff_ne.mpr c8
     have c8b1 : (a3.toList != ([] : List UInt8)) = true := bne_iff_ne.mpr c8
     have H' := Aside0.mk H
     clear H
     go_wp2
     go_meet
     case rel => exact ⟨_, (((a3.size : Int) != (a2.size : Int))), (by first | rfl | (simp; done) | (simp [*]; done)), H', ⟨by first | omega | exact Nat.le_refl _⟩, by repeat (first | exact Drawn0.refl _ | apply Drawn0.step)⟩
 case rest =>
  clear HC5
  try clear p2
  try clear c6
  try clear c6b0
  try clear c7
  try clear c7b0
  try clear c8
  try clear c8b0
  try clear c8b1
  obtain ⟨kq, x9_4, rfl, HA, HJ4, ⟨mc4, rfl⟩⟩ := hcut
  cases kq with
  | zero => exact absurd HA.out (by simp [filter_wrong.j0])
  | succ kj4 =>
   have H := HA.out
   clear HA
   simp only [filter_wrong.j0] at H
   by_cases c9 : x9_4 = true
   ·subst c9
    have H1 : (some 1) = some r := by rw [if_pos rfl] at H; exact H
    clear H
    have H := H1
    clear H1
    obtain rfl := Option.some.inj H
    go_wp2
    go_ret
    exact ⟨by first | rfl | (simp; done) | (simp [*]; done), by repeat (first | exact Drawn0.refl _ | apply Drawn0.step)⟩
   ·replace c9 := Bool.eq_false_iff.mpr c9
    subst c9
    have H1 : (if a1 < 0 then (some 28) else (if a1 ≥ 5 then (some 28) else (some 0))) = some r := by rw [if_neg (show ¬ (false = true) by decide)] at H; exact H
    clear H
    have H := H1
    clear H1
    by_cases c10 : a1 < 0
    ·rw [if_pos c10] at H
     have c10b0 : decide (a1 < 0) = true := decide_eq_true c10
     clear c10
     obtain rfl := Option.some.inj H
     go_wp2
     go_ret
     exact ⟨by first | rfl | (simp; done) | (simp [*]; done), by repeat (first | exact Drawn0.refl _ | apply Drawn0.step)⟩
    ·rw [if_neg c10] at H
     have c10b0 : decide (a1 < 0) = false := decide_eq_false c10
     clear c10
     by_cases c11 : a1 ≥ 5
     ·rw [if_pos c11] at H
      have c11b0 : decide (5 ≤ a1) = true := decide_eq_true c11
      clear c11
      obtain rfl := Option.some.inj H
      go_wp2
      go_ret
      exact ⟨by first | rfl | (simp; done) | (simp [*]; done), by repeat (first | exact Drawn0.refl _ | apply Drawn0.step)⟩
     ·rw [if_neg c11] at H
      have c11b0 : decide (5 ≤ a1) = false := decide_eq_false c11
      clear c11
      obtain rfl := Option.some.inj H
      go_wp2
      go_ret
      exact ⟨by first | rfl | (simp; done) | (simp [*]; done), by repeat (first | exact Drawn0.refl _ | apply Drawn0.step)⟩

def filter_apart.f (a0 : Int) (a1 : Int) : Option (Int) := if a0 < a1 then (some (wrap64 (a1 - a0))) else (some (wrap64 (a0 - a1)))
set_option maxHeartbeats 40000000 in
set_option maxRecDepth 100000 in
theorem filter_apart.calls (a0 : Int) (a1 : Int) (r : Int) (w : World) (h : filter_apart.f a0 a1 = some r) :
  Calls Try.prog 72 #[.int .i64 a0, .int .i64 a1] w fun e w' => e = .returned (.int .i64 r) ∧ Drawn0 w w' := by
 have H : (if a0 < a1 then (some (wrap64 (a1 - a0))) else (some (wrap64 (a0 - a1)))) = some r := h
 clear h
 by_cases c3 : a0 < a1
 ·rw [if_pos c3] at H
  have c3b0 : decide (a0 < a1) = true := decide_eq_true c3
  clear c3
  obtain rfl := Option.some.inj H
  go_enter Try.func72, Try.ntmps72
  go_wp2
  go_ret
  exact ⟨by first | rfl | (simp; done) | (simp [*]; done), by repeat (first | exact Drawn0.refl _ | apply Drawn0.step)⟩
 ·rw [if_neg c3] at H
  have c3b0 : decide (a0 < a1) = false := decide_eq_false c3
  clear c3
  obtain rfl := Option.some.inj H
  go_enter Try.func72, Try.ntmps72
  go_wp2
  go_ret
  exact ⟨by first | rfl | (simp; done) | (simp [*]; done), by repeat (first | exact Drawn0.refl _ | apply Drawn0.step)⟩

def filter_nearest.l0 : Nat → Int → Int → List Int → Int → Int → Option (Int)
 | 0, _, _, _, _, _ => none
 | k + 1, x7, x8, x19, x20, x21 => if x21 < x20 then (if 0 ≤ x21 then (if x21 < (x19.length : Int) then ((filter_apart.f x7 (rd x19 x21)).bind fun t137 => ((filter_apart.f x7 x8).bind fun t138 => (if t137 < t138 then (filter_nearest.l0 k x7 (rd x19 x21) x19 x20 (wrap64 (x21 + 1))) else (filter_nearest.l0 k x7 x8 x19 x20 (wrap64 (x21 + 1)))))) else (none)) else (none)) else (some x8)
def filter_nearest.f (k : Nat) (a0 : Int) (a1 : Int) (a2 : Int) : Option (Int) := (some (([a1, a2] : List Int) : List Int)).bind fun y133 => (filter_nearest.l0 k (wrap64 ((wrap64 (a0 + a1)) - a2)) a0 y133 (y133.length : Int) 0)
theorem filter_nearest.mono_l : ∀ k, (∀ y0 y1 y2 y3 y4, LeO (filter_nearest.l0 k y0 y1 y2 y3 y4) (filter_nearest.l0 (k + 1) y0 y1 y2 y3 y4))
 | 0 => fun _ _ _ _ _ r h => by simp [filter_nearest.l0] at h
 | k + 1 => by
  have ih0 := filter_nearest.mono_l k
  ·intro y0 y1 y2 y3 y4
   unfold filter_nearest.l0
   repeat' first
   | (with_reducible exact ih0 _ _ _ _ _)
   | (with_reducible exact LeO.refl _)
   | (with_reducible exact LeO.none _)
   | (with_reducible refine LeO.ite ?_ ?_)
   | (with_reducible refine LeO.bind ?_ (fun _ => ?_))
   | exact ih0 _ _ _ _ _
   | exact LeO.none _
   | refine LeO.ite ?_ ?_
   | refine LeO.bind ?_ (fun _ => ?_)
theorem filter_nearest.mono : ∀ a0 a1 a2 k, LeO (filter_nearest.f k a0 a1 a2) (filter_nearest.f (k + 1) a0 a1 a2) := by
 intro a0 a1 a2 k
 have ih0 := filter_nearest.mono_l k
 unfold filter_nearest.f
 repeat' first
   | (with_reducible exact ih0 _ _ _ _ _)
   | (with_reducible exact LeO.refl _)
   | (with_reducible exact LeO.none _)
   | (with_reducible refine LeO.ite ?_ ?_)
   | (with_reducible refine LeO.bind ?_ (fun _ => ?_))
   | exact ih0 _ _ _ _ _
   | exact LeO.none _
   | refine LeO.ite ?_ ?_
   | refine LeO.bind ?_ (fun _ => ?_)
set_option maxHeartbeats 40000000 in
set_option maxRecDepth 100000 in
theorem filter_nearest.calls (k : Nat) (a0 : Int) (a1 : Int) (a2 : Int) (r : Int) (w : World) (h : filter_nearest.f k a0 a1 a2 = some r) :
  Calls Try.prog 70 #[.int .i64 a0, .int .i64 a1, .int .i64 a2] w fun e w' => e = .returned (.int .i64 r) ∧ Below w.heap.size w w' := by
 have HB := Aside0.mk (Below.refl w.heap.size w)
 have H : ((some (([a1, a2] : List Int) : List Int)).bind fun y133 => (filter_nearest.l0 k (wrap64 ((wrap64 (a0 + a1)) - a2)) a0 y133 (y133.length : Int) 0)) = some r := h
 clear h
 obtain ⟨y133, hy133⟩ : ∃ y_ : List Int, y_ = (([a1, a2] : List Int)) := ⟨_, rfl⟩
 replace H : (filter_nearest.l0 k (wrap64 ((wrap64 (a0 + a1)) - a2)) a0 y133 (y133.length : Int) 0) = some r := by first | (rw [hy133]; with_reducible exact H) | (have H2_ := (Option.bind_some _ _).symm.trans H; rw [hy133]; with_reducible exact H2_) | (have H2_ := (Option.bind_some _ _).symm.trans H; with_reducible exact H2_) | with_reducible exact H | (rw [hy133]; exact H) | exact H
 have Ny133 := Aside0.mk hy133
 clear hy133
 have H' := Aside0.mk H
 clear H
 go_enter Try.func70, Try.ntmps70
 go_wp2_with (first | ((with_reducible refine gate_dst (N := 19) rfl ?_); refine Kd.R_lit (Kd.int .i64) _ 3 ?hg (N := 19) ?hd (xs := ([a1, a2] : List Int)) (inner := [.int .i64 a1, .int .i64 a2]) (ok := fun _ => True) (okp := fun _ => True) ?hr ?hp (fun _ hk => hk) trivial (Below.refl _ _) (Nat.le_refl _) (by simp) ?_; (case hd => rfl); (case hg => rfl); (case hr => first | (go_simp; done) | (go_simp; rfl)); (case hp => exact (Reps.one (show Kd.M (Kd.int .i64) _ _ _ a1 [.int .i64 a1] from rfl) (Reps.one (show Kd.M (Kd.int .i64) _ _ _ a2 [.int .i64 a2] from rfl) (Reps.none _ _)))); intro v134 w4 ho5 hb hg_ hnew_; clear hg_ hnew_; (first | rw [← Ny133.out] at ho5 | (simp only [Int.reduceToNat] at ho5; rw [← Ny133.out] at ho5)); have n0_ := Aside0.mk (Kd.R_lower ho5 (below_size (by repeat (first | (with_reducible first | exact HB.out | apply below_alloc | apply pw_below_drewN | apply below_drew1) | exact HB.out)))); have n1_ := Aside0.mk (below_step (by repeat (first | (with_reducible first | exact HB.out | apply below_alloc | apply pw_below_drewN | apply below_drew1) | exact HB.out)) hb); clear HB; have HO135 := n0_; have HB := n1_; clear n0_ n1_; clear hb ho5; obtain ⟨Ao6, co6, eo6⟩ := Kd.R_slice HO135.out; subst eo6))
 go_loopg [8, 21] k (fun kq v8 v21 w' => ∃ (x8_1 : Int) (x21_1 : Int), v8 = .int .i64 x8_1 ∧ v21 = .int .i64 x21_1 ∧ Aside0 (filter_nearest.l0 kq (wrap64 ((wrap64 (a0 + a1)) - a2)) x8_1 y133 (y133.length : Int) x21_1 = some r) ∧ Aside0 (kq ≤ k) ∧ Aside0 (Kd.R (Kd.int .i64) 3 w' w.heap.size (fun _ => True) (.slice Ao6 y133.length co6) y133) ∧ Aside0 (Below w.heap.size w w'))
 case atStart => exact ⟨(a0), (0), (by first | rfl | (simp; done) | (simp [*]; done)), (by first | rfl | (simp; done) | (simp [*]; done)), H', ⟨Nat.le_refl _⟩, ⟨by (with_reducible repeat (first | apply Kd.R_alloc | apply Kd.R_drewN | apply Kd.R_drew)); exact HO135.out⟩, ⟨by repeat (first | (with_reducible first | exact HB.out | apply below_alloc | apply pw_below_drewN | apply below_drew1) | exact HB.out)⟩⟩
 case round =>
  clear H'
  try clear p2
  try clear p6
  obtain ⟨x8_1, x21_1, rfl, rfl, HA, HK1, HO_19, HB⟩ := hrel
  cases gk with
  | zero => exact absurd HA.out (by simp [filter_nearest.l0])
  | succ k1 =>
   have H := HA.out
   clear HA
   simp only [filter_nearest.l0] at H
   by_cases c7 : x21_1 < (y133.length : Int)
   ·rw [if_pos c7] at H
    have c7b0 : decide (x21_1 < (y133.length : Int)) = true := decide_eq_true c7
    clear c7
    by_cases c8 : 0 ≤ x21_1
    ·rw [if_pos c8] at H
     have c8b0 : decide (0 ≤ x21_1) = true := decide_eq_true c8
     clear c8
     by_cases c9 : x21_1 < (y133.length : Int)
     ·rw [if_pos c9] at H
      have c9b0 : decide (x21_1 < (y133.length : Int)) = true := decide_eq_true c9
      clear c9
      replace H := Option.bind_eq_some_iff.mp H
      obtain ⟨t137, A100, H⟩ := H
      replace H : ((filter_apart.f (wrap64 ((wrap64 (a0 + a1)) - a2)) x8_1).bind fun t138 => (if t137 < t138 then (filter_nearest.l0 k1 (wrap64 ((wrap64 (a0 + a1)) - a2)) (rd y133 x21_1) y133 (y133.length : Int) (wrap64 (x21_1 + 1))) else (filter_nearest.l0 k1 (wrap64 ((wrap64 (a0 + a1)) - a2)) x8_1 y133 (y133.length : Int) (wrap64 (x21_1 + 1))))) = some r := H
      have A10 := Aside0.mk A100
      clear A100
      replace H := Option.bind_eq_some_iff.mp H
      obtain ⟨t138, A110, H⟩ := H
      replace H : (if t137 < t138 then (filter_nearest.l0 k1 (wrap64 ((wrap64 (a0 + a1)) - a2)) (rd y133 x21_1) y133 (y133.length : Int) (wrap64 (x21_1 + 1))) else (filter_nearest.l0 k1 (wrap64 ((wrap64 (a0 + a1)) - a2)) x8_1 y133 (y133.length : Int) (wrap64 (x21_1 + 1)))) = some r := H
      have A11 := Aside0.mk A110
      clear A110
      by_cases c12 : t137 < t138
      ·rw [if_pos c12] at H
       have c12b0 : decide (t137 < t138) = true := decide_eq_true c12
       clear c12
       have H' := Aside0.mk H
       clear H
       have p136 : 0 ≤ (x21_1 : Int) := of_decide_eq_true (by first | (with_reducible assumption) | assumption)
       have q136 : x21_1 < (y133.length : Int) := of_decide_eq_true (by first | (with_reducible assumption) | assumption)
       obtain ⟨ad136, e136, hx136_0⟩ := Kd.at_int (Kd.R_reads' HO_19.out).2.2 x21_1 p136 q136
       cases e136
       replace p136 := eq_true p136
       replace q136 := eq_true q136
       go_wp2_with (first | ((with_reducible refine gate_callee (f := 72) rfl ?_); refine goesL_ (some 27) rfl rfl Try.func72 (by kernel_rfl) rfl #[.int .i64 (wrap64 ((wrap64 (a0 + a1)) - a2)), .int .i64 (rd y133 x21_1)] rfl (by (try simp only [List.map_toArray, List.map_cons, List.map_nil]); first | done | rfl | (simp only [List.length_drop, List.length_take]; rfl) | (simp only [ByteArray.size_extract, Nat.min_self]; done) | (simp only [ByteArray.size_extract, Nat.min_self]; rfl)) ?_; (with_reducible refine (filter_apart.calls (wrap64 ((wrap64 (a0 + a1)) - a2)) (rd y133 x21_1) t137 _ A10.out).mono ?_); rintro e w' ⟨rfl, ⟨nd, rfl⟩⟩; refine ⟨_, rfl, ?_⟩) | ((with_reducible refine gate_callee (f := 72) rfl ?_); refine goesL_ (some 30) rfl rfl Try.func72 (by kernel_rfl) rfl #[.int .i64 (wrap64 ((wrap64 (a0 + a1)) - a2)), .int .i64 x8_1] rfl (by (try simp only [List.map_toArray, List.map_cons, List.map_nil]); first | done | rfl | (simp only [List.length_drop, List.length_take]; rfl) | (simp only [ByteArray.size_extract, Nat.min_self]; done) | (simp only [ByteArray.size_extract, Nat.min_self]; rfl)) ?_; (with_reducible refine (filter_apart.calls (wrap64 ((wrap64 (a0 + a1)) - a2)) x8_1 t138 _ A11.out).mono ?_); rintro e w' ⟨rfl, ⟨nd, rfl⟩⟩; refine ⟨_, rfl, ?_⟩))
       go_roundg k1
       case measure => have := HK1.out; omega
       case rel => exact ⟨(rd y133 x21_1), (wrap64 (x21_1 + 1)), (by first | rfl | (simp; done) | (simp [*]; done)), (by first | rfl | (simp; done) | (simp [*]; done)), H', ⟨by have := HK1.out; omega⟩, ⟨by (with_reducible repeat (first | apply Kd.R_alloc | apply Kd.R_drewN | apply Kd.R_drew)); exact HO_19.out⟩, ⟨by repeat (first | (with_reducible first | exact HB.out | apply below_alloc | apply pw_below_drewN | apply below_drew1) | exact HB.out)⟩⟩
      ·rw [if_neg c12] at H
       have c12b0 : decide (t137 < t138) = false := decide_eq_false c12
       clear c12
       have H' := Aside0.mk H
       clear H
       have p136 : 0 ≤ (x21_1 : Int) := of_decide_eq_true (by first | (with_reducible assumption) | assumption)
       have q136 : x21_1 < (y133.length : Int) := of_decide_eq_true (by first | (with_reducible assumption) | assumption)
       obtain ⟨ad136, e136, hx136_0⟩ := Kd.at_int (Kd.R_reads' HO_19.out).2.2 x21_1 p136 q136
       cases e136
       replace p136 := eq_true p136
       replace q136 := eq_true q136
       go_wp2_with (first | ((with_reducible refine gate_callee (f := 72) rfl ?_); refine goesL_ (some 27) rfl rfl Try.func72 (by kernel_rfl) rfl #[.int .i64 (wrap64 ((wrap64 (a0 + a1)) - a2)), .int .i64 (rd y133 x21_1)] rfl (by (try simp only [List.map_toArray, List.map_cons, List.map_nil]); first | done | rfl | (simp only [List.length_drop, List.length_take]; rfl) | (simp only [ByteArray.size_extract, Nat.min_self]; done) | (simp only [ByteArray.size_extract, Nat.min_self]; rfl)) ?_; (with_reducible refine (filter_apart.calls (wrap64 ((wrap64 (a0 + a1)) - a2)) (rd y133 x21_1) t137 _ A10.out).mono ?_); rintro e w' ⟨rfl, ⟨nd, rfl⟩⟩; refine ⟨_, rfl, ?_⟩) | ((with_reducible refine gate_callee (f := 72) rfl ?_); refine goesL_ (some 30) rfl rfl Try.func72 (by kernel_rfl) rfl #[.int .i64 (wrap64 ((wrap64 (a0 + a1)) - a2)), .int .i64 x8_1] rfl (by (try simp only [List.map_toArray, List.map_cons, List.map_nil]); first | done | rfl | (simp only [List.length_drop, List.length_take]; rfl) | (simp only [ByteArray.size_extract, Nat.min_self]; done) | (simp only [ByteArray.size_extract, Nat.min_self]; rfl)) ?_; (with_reducible refine (filter_apart.calls (wrap64 ((wrap64 (a0 + a1)) - a2)) x8_1 t138 _ A11.out).mono ?_); rintro e w' ⟨rfl, ⟨nd, rfl⟩⟩; refine ⟨_, rfl, ?_⟩))
       go_roundg k1
       case measure => have := HK1.out; omega
       case rel => exact ⟨(x8_1), (wrap64 (x21_1 + 1)), (by first | rfl | (simp; done) | (simp [*]; done)), (by first | rfl | (simp; done) | (simp [*]; done)), H', ⟨by have := HK1.out; omega⟩, ⟨by (with_reducible repeat (first | apply Kd.R_alloc | apply Kd.R_drewN | apply Kd.R_drew)); exact HO_19.out⟩, ⟨by repeat (first | (with_reducible first | exact HB.out | apply below_alloc | apply pw_below_drewN | apply below_drew1) | exact HB.out)⟩⟩
     ·rw [if_neg c9] at H
      exact absurd H (by simp)
    ·rw [if_neg c8] at H
     exact absurd H (by simp)
   ·rw [if_neg c7] at H
    have c7b0 : decide (x21_1 < (y133.length : Int)) = false := decide_eq_false c7
    clear c7
    obtain rfl := Option.some.inj H
    go_wp2
    go_ret
    exact ⟨by first | rfl | (simp [errW_none, errW_some] <;> rfl) | (simp [*, errW_none, errW_some] <;> rfl), by repeat (first | (with_reducible first | exact HB.out | apply below_alloc | apply pw_below_drewN | apply below_drew1) | exact HB.out)⟩

def filter_foretold.f (k : Nat) (a0 : Int) (a1 : Int) (a2 : Int) (a3 : Int) : Option (Int) := (filter_nearest.f k a1 a2 a3).bind fun t => if 0 ≤ a0 then (if a0 < 5 then some (([0, a1, a2, (wrap64 (a1 + a2)) / 2, t] : List Int).getD a0.toNat 0) else none) else none
theorem filter_foretold.mono : ∀ a0 a1 a2 a3 k, LeO (filter_foretold.f k a0 a1 a2 a3) (filter_foretold.f (k + 1) a0 a1 a2 a3) := by
 intro a0 a1 a2 a3 k
 unfold filter_foretold.f
 refine LeO.bind (filter_nearest.mono _ _ _ _) (fun _ => LeO.refl _)
set_option maxHeartbeats 8000000 in
set_option maxRecDepth 100000 in
theorem filter_foretold.calls (k : Nat) (a0 : Int) (a1 : Int) (a2 : Int) (a3 : Int) (r : Int) (w : World) (h : filter_foretold.f k a0 a1 a2 a3 = some r) :
  Calls Try.prog 62 #[.int .i64 a0, .int .i64 a1, .int .i64 a2, .int .i64 a3] w fun e w' => e = .returned (.int .i64 r) ∧ Below w.heap.size w w' := by
 unfold filter_foretold.f at h
 replace h := Option.bind_eq_some_iff.mp h
 obtain ⟨t, ht, h⟩ := h
 have hu := Try.underlying88
 have hi0 : ∀ (x0 x1 x2 x3 x4 : Value) (w : World), (Instr.index 88 (.agg #[x0, x1, x2, x3, x4]) (.int .i64 0)).run Try.prog w = .ok x0 w := fun _ _ _ _ _ _ => by kernel_rfl
 have hi1 : ∀ (x0 x1 x2 x3 x4 : Value) (w : World), (Instr.index 88 (.agg #[x0, x1, x2, x3, x4]) (.int .i64 1)).run Try.prog w = .ok x1 w := fun _ _ _ _ _ _ => by kernel_rfl
 have hi2 : ∀ (x0 x1 x2 x3 x4 : Value) (w : World), (Instr.index 88 (.agg #[x0, x1, x2, x3, x4]) (.int .i64 2)).run Try.prog w = .ok x2 w := fun _ _ _ _ _ _ => by kernel_rfl
 have hi3 : ∀ (x0 x1 x2 x3 x4 : Value) (w : World), (Instr.index 88 (.agg #[x0, x1, x2, x3, x4]) (.int .i64 3)).run Try.prog w = .ok x3 w := fun _ _ _ _ _ _ => by kernel_rfl
 have hi4 : ∀ (x0 x1 x2 x3 x4 : Value) (w : World), (Instr.index 88 (.agg #[x0, x1, x2, x3, x4]) (.int .i64 4)).run Try.prog w = .ok x4 w := fun _ _ _ _ _ _ => by kernel_rfl
 have HT := Aside0.mk ht
 clear ht
 by_cases h0 : 0 ≤ a0
 ·rw [if_pos h0] at h
  by_cases h5 : a0 < 5
  ·rw [if_pos h5] at h
   have h' := Option.some.inj h
   clear h
   have hd : a0 = 0 ∨ a0 = 1 ∨ a0 = 2 ∨ a0 = 3 ∨ a0 = 4 := by omega
   clear h0 h5
   rcases hd with rfl | rfl | rfl | rfl | rfl
   all_goals
    obtain rfl := h'
    go_enter Try.func62, Try.ntmps62
    go_wp2_with (go_at_call 70; (with_reducible refine (filter_nearest.calls k a1 a2 a3 t _ HT.out).mono ?_); rintro e w7 ⟨rfl, hb⟩)
    go_ret
    exact ⟨by first | rfl | (simp; done) | (simp [*]; done), hb⟩
  ·rw [if_neg h5] at h
   exact absurd h (by simp)
 ·rw [if_neg h0] at h
  exact absurd h (by simp)

end Go.Proofs.Ytejljcglbkjgkaa.PL12
