/- ClientResend, plain: what is sent anew, before anything was answered, is what was sent. Conditions: whole numbers of 64 bits, strings as long as the model allows. -/
import Derived.Test.YtdbiokmlgniobaaXPL22x2
import Derived.Test.YtdbiokmlgniobaaXO
import Derived.Test.YtdbiokmlgniobaaRows
import Derived.Test.YtdbiokmlgniobaaXH
import Derived.Test.YtdbiokmlgniobaaXPL22x6
import Derived.Test.YtdbiokmlgniobaaXPL22x7
import Derived.Test.YtdbiokmlgniobaaXPL22x1
import Derived.Test.YtdbiokmlgniobaaXPL22x12
import Derived.Test.YtdbiokmlgniobaaXPL22x17
import Derived.Test.YtdbiokmlgniobaaXPL22x28
import Derived.Test.YtdbiokmlgniobaaXWMore
import Derived.Laws.Strings
namespace Go.Proofs.Ytdbiokmlgniobaa.PL22
open Go.RowKit Go.Proofs.YtdbiokmlgniobaaW.PrintWords Go.Proofs.YtdbiokmlgniobaaO
set_option linter.unusedVariables false
end Go.Proofs.Ytdbiokmlgniobaa.PL22

namespace Go.Proofs.Ytdbiokmlgniobaa.PL22
open Go.RowKit Go.Proofs.YtdbiokmlgniobaaW.PrintWords Go.Proofs.YtdbiokmlgniobaaW.PrintLast Go.Proofs.YtdbiokmlgniobaaW.PrintMore
attribute [local go_sem] max2_int min2_int max_two min_two max_three min_three max_four min_four   -- for this text's walks alone
set_option linter.unusedVariables false
set_option linter.unusedSimpArgs false

end Go.Proofs.Ytdbiokmlgniobaa.PL22

namespace Go.Proofs.Ytdbiokmlgniobaa.Pure
open Go.RowKit Go.Proofs.YtdbiokmlgniobaaW.PrintWords Go.Proofs.YtdbiokmlgniobaaW.PrintLast Go.Proofs.YtdbiokmlgniobaaW.PrintMore Go.Proofs.Ytdbiokmlgniobaa.PL22
set_option linter.unusedVariables false
set_option linter.unusedSimpArgs false
theorem w64 {x : Int} (h1 : -9223372036854775808 ≤ x) (h2 : x ≤ 9223372036854775807) : wrap64 x = x := by
  unfold wrap64
  omega
theorem w64_bt (s : ByteArray) (i : Int) : wrap64 (bt s i) = bt s i := by
  have := bt_range s i
  exact w64 (by omega) (by omega)
def Byt (xs : List Int) : Prop := ∀ x ∈ xs, 0 ≤ x ∧ x ≤ 255
theorem bt_str {xs : List Int} (h : Byt xs) (i : Int) : bt (strOfNums xs) i = rd xs i := by
  unfold bt rd
  rw [List.getD_eq_getElem?_getD]
  by_cases hi : i.toNat < xs.length
  · have h1 : i.toNat < (strOfNums xs).size := by rw [strOfNums_size]; exact hi
    rw [dif_pos h1, List.getElem?_eq_getElem hi]
    have h2 := h _ (List.getElem_mem hi)
    have h3 : (strOfNums xs)[i.toNat]'h1 = UInt8.ofNat (xs[i.toNat]).toNat := by
      show (strOfNums xs).data[i.toNat]'_ = _
      simp [strOfNums]
    rw [h3]
    simp only [Option.getD_some, UInt8.toNat_ofNat']
    omega
  · have h1 : ¬ i.toNat < (strOfNums xs).size := by rw [strOfNums_size]; exact hi
    rw [dif_neg h1, List.getElem?_eq_none (by omega)]
    rfl
theorem toList_data (s : ByteArray) : s.toList = s.data.toList := by
  exact ByteArray.toList_eq s
theorem ev_same {α : Type} {g : Nat → Option α} {r r' : α} (h : Ev g r) (e : r = r') : Ev g r' := e ▸ h
theorem str_size (xs : List Int) : (strOfNums xs).size = xs.length := by
  unfold strOfNums
  simp [ByteArray.size]
def idx : List Int → Int → Nat → Int
  | [], _, _ => -1
  | x :: xs, v, i => if v = x then (i : Int) else idx xs v (i + 1)
theorem index_loop (l : List Int) (v : Int) (hl : l.length ≤ 4611686018427387904) : ∀ d i : Nat, i + d = l.length → Ev (fun k => slices_Index_int_int.l0 k l v (l.length : Int) (i : Int)) (idx (l.drop i) v i) := by
  intro d
  induction d with
  | zero =>
    intro i hi
    have e : l.drop i = [] := List.drop_of_length_le (by omega)
    rw [e]
    refine Ev.step (f := fun _ => some (-1)) (fun k => ?_) (Ev.now _)
    simp only [slices_Index_int_int.l0]
    rw [if_neg (by omega)]
  | succ d ih =>
    intro i hi
    have hlt : i < l.length := by omega
    have w1 : wrap64 ((i : Int) + 1) = ((i + 1 : Nat) : Int) := by rw [w64 (by omega) (by omega)]; rfl
    have hr : rd l (i : Int) = l[i] := by
      unfold rd
      rw [List.getD_eq_getElem?_getD, Int.toNat_natCast, List.getElem?_eq_getElem hlt]
      rfl
    rw [List.drop_eq_getElem_cons hlt]
    unfold idx
    by_cases h : v = l[i]
    · rw [if_pos h]
      refine Ev.step (f := fun _ => some (i : Int)) (fun k => ?_) (Ev.now _)
      simp only [slices_Index_int_int.l0]
      rw [if_pos (by omega), if_pos (by omega), if_pos (by omega), hr, if_pos h]
    · rw [if_neg h]
      refine Ev.step (fun k => ?_) (ih (i + 1) (by omega))
      simp only [slices_Index_int_int.l0]
      rw [if_pos (by omega), if_pos (by omega), if_pos (by omega), hr, if_neg h, w1]
theorem index_ev (l : List Int) (v : Int) (hl : l.length ≤ 4611686018427387904) : Ev (fun k => slices_Index_int_int.f k l v) (idx l v 0) := by
  unfold slices_Index_int_int.f
  exact index_loop l v hl l.length 0 (by omega)
theorem contains_ev (l : List Int) (v : Int) (hl : l.length ≤ 4611686018427387904) : Ev (fun k => slices_Contains_int_int.f k l v) (decide (idx l v 0 ≥ 0)) := by
  unfold slices_Contains_int_int.f
  exact Ev.bind (index_ev l v hl) (Ev.now _)
def dep (c d : Int) : Prop := (c = 0 ∧ (d = 1 ∨ d = 2 ∨ d = 4 ∨ d = 8 ∨ d = 16)) ∨ (c = 3 ∧ (d = 1 ∨ d = 2 ∨ d = 4 ∨ d = 8)) ∨ ((c = 2 ∨ c = 4 ∨ c = 6) ∧ (d = 8 ∨ d = 16))
instance (c d : Int) : Decidable (dep c d) := by unfold dep; infer_instance
def rgt (W H D C L : Int) : Int := if 1 ≤ W ∧ W ≤ 2147483647 ∧ 1 ≤ H ∧ H ≤ 2147483647 ∧ dep C D ∧ (L = 0 ∨ L = 1) then (if W > 1024 ∨ H > 1024 ∨ W * H > 4096 then 5 else 0) else 24
theorem rgt_0 {W H D C L : Int} (h : rgt W H D C L = 0) : 1 ≤ W ∧ W ≤ 1024 ∧ 1 ≤ H ∧ H ≤ 1024 ∧ W * H ≤ 4096 ∧ dep C D ∧ (L = 0 ∨ L = 1) := by
  unfold rgt at h
  by_cases hc : 1 ≤ W ∧ W ≤ 2147483647 ∧ 1 ≤ H ∧ H ≤ 2147483647 ∧ dep C D ∧ (L = 0 ∨ L = 1)
  · rw [if_pos hc] at h
    by_cases h2 : W > 1024 ∨ H > 1024 ∨ W * H > 4096
    · rw [if_pos h2] at h; omega
    · obtain ⟨a, _, b, _, c, d⟩ := hc
      exact ⟨a, by omega, b, by omega, by omega, c, d⟩
  · rw [if_neg hc] at h; omega
theorem rgt_area {W H : Int} (h1 : 1 ≤ W) (h2 : W ≤ 2147483647) (h3 : 1 ≤ H) (h4 : H ≤ 2147483647) : wrap64 (W * H) = W * H := by
  have h5 : W * H ≤ 2147483647 * 2147483647 := Int.mul_le_mul h2 h4 (by omega) (by omega)
  have h6 : 0 ≤ W * H := Int.mul_nonneg (by omega) (by omega)
  exact w64 (by omega) (by omega)
theorem andNot1 {x : Int} (h1 : -9223372036854775808 ≤ x) (h2 : x ≤ 9223372036854775807) : (Go.bits .andNot .i64 x 1 != 0) = !decide (x = 0 ∨ x = 1) := by
  by_cases h0 : x = 0
  · subst h0; decide
  · by_cases h3 : x = 1
    · subst h3; decide
    · rw [decide_eq_false (by omega)]
      refine bne_iff_ne.mpr fun hz => ?_
      have e : Go.bits .andNot .i64 x 1 = IntKind.i64.wrap ((BitVec.ofInt 64 x &&& ~~~ BitVec.ofInt 64 1).toNat : Int) := rfl
      rw [e, IntKind.wrap_i64] at hz
      generalize hb : BitVec.ofInt 64 x = b at hz
      have hlt := (b &&& ~~~ BitVec.ofInt 64 1).isLt
      have hn : (b &&& ~~~ BitVec.ofInt 64 1).toNat = 0 := by omega
      have hv : b &&& ~~~ BitVec.ofInt 64 1 = 0#64 := BitVec.eq_of_toNat_eq hn
      have hs : b >>> 1 = 0#64 := by
        apply BitVec.eq_of_getLsbD_eq
        intro i hi
        rw [BitVec.getLsbD_ushiftRight]
        by_cases h63 : 1 + i < 64
        · have h4 : (b &&& ~~~ BitVec.ofInt 64 1).getLsbD (1 + i) = false := by rw [hv]; simp
          have h5 : (BitVec.ofInt 64 1).getLsbD (1 + i) = false := by
            show (1#64).getLsbD (1 + i) = false
            rw [BitVec.getLsbD_one]
            simp
          rw [BitVec.getLsbD_and, BitVec.getLsbD_not, h5] at h4
          simp only [h63, decide_true, Bool.not_false, Bool.and_true] at h4
          rw [h4]
          simp
        · simp [BitVec.getLsbD_of_ge b (1 + i) (by omega)]
      have h6 : (b >>> 1).toNat = 0 := by rw [hs]; rfl
      rw [BitVec.toNat_ushiftRight, Nat.shiftRight_eq_div_pow] at h6
      have h7 : b.toNat = (x % 18446744073709551616).toNat := by rw [← hb, BitVec.toNat_ofInt]; rfl
      omega
theorem side_f (n : Int) : head_side.f n = some (decide (1 ≤ n ∧ n ≤ 2147483647)) := by
  unfold head_side.f
  by_cases h : n ≥ 1
  · rw [if_pos h]
    congr 1
    by_cases h2 : n ≤ 2147483647
    · rw [decide_eq_true h2, decide_eq_true ⟨h, h2⟩]
    · rw [decide_eq_false h2, decide_eq_false (by omega)]
  · rw [if_neg h, decide_eq_false (by omega)]
def deps (c : Int) : List Int := if c = 0 then [1, 2, 4, 8, 16] else if c = 3 then [1, 2, 4, 8] else if c = 2 ∨ c = 4 ∨ c = 6 then [8, 16] else []
theorem depths_ev (c : Int) : Ev (fun k => head_depths.f k c) (deps c) := by
  have hj : ∀ b : Bool, Ev (fun k => head_depths.j0 k b) (if b = true then [8, 16] else []) := by
    intro b
    refine Ev.step (f := fun _ => some (if b = true then [8, 16] else [])) (fun k => ?_) (Ev.now _)
    simp only [head_depths.j0]
    cases b <;> rfl
  unfold head_depths.f deps
  by_cases h0 : c = 0
  · simp only [if_pos h0]; exact Ev.now _
  · simp only [if_neg h0]
    by_cases h3 : c = 3
    · simp only [if_pos h3]; exact Ev.now _
    · simp only [if_neg h3]
      by_cases h2 : c = 2
      · subst h2; exact ev_same (hj _) (by decide)
      · simp only [if_neg h2]
        by_cases h4 : c = 4
        · subst h4; exact ev_same (hj _) (by decide)
        · simp only [if_neg h4]
          refine ev_same (hj _) ?_
          by_cases h6 : c = 6
          · subst h6; decide
          · rw [if_neg (by simpa using h6), if_neg (by omega)]
theorem deps_has (c d : Int) : decide (idx (deps c) d 0 ≥ 0) = decide (dep c d) := by
  have key : ∀ (l : List Int) (i : Nat), (idx l d i ≥ 0 ↔ d ∈ l) := by
    intro l
    induction l with
    | nil => intro i; simp [idx]
    | cons x xs ih =>
      intro i
      unfold idx
      by_cases h : d = x
      · rw [if_pos h]; simp [h]
      · rw [if_neg h, ih]; simp [h]
  have h := key (deps c) 0
  have h2 : d ∈ deps c ↔ dep c d := by
    unfold deps dep
    by_cases h0 : c = 0
    · rw [if_pos h0]; simp; omega
    · rw [if_neg h0]
      by_cases h3 : c = 3
      · rw [if_pos h3]; simp; omega
      · rw [if_neg h3]
        by_cases h4 : c = 2 ∨ c = 4 ∨ c = 6
        · rw [if_pos h4]; simp; omega
        · rw [if_neg h4]; simp; omega
  rw [decide_eq_decide]
  exact h.trans h2
theorem Right_ev (W H D C L : Int) (hL : -9223372036854775808 ≤ L ∧ L ≤ 9223372036854775807) : Ev (fun k => head_Right.f k W H D C L) (rgt W H D C L) := by
  have hj1 : Ev (fun k => head_Right.j0 k true W H D C L) 24 := by
    refine Ev.step (f := fun _ => some 24) (fun k => ?_) (Ev.now _)
    simp only [head_Right.j0]
    rw [if_pos trivial]
  have hj0 : 1 ≤ W → W ≤ 2147483647 → 1 ≤ H → H ≤ 2147483647 → Ev (fun k => head_Right.j0 k false W H D C L) (if W > 1024 ∨ H > 1024 ∨ W * H > 4096 then 5 else 0) := by
    intro h1 h2 h3 h4
    refine Ev.step (f := fun _ => some (if W > 1024 ∨ H > 1024 ∨ W * H > 4096 then 5 else 0)) (fun k => ?_) (Ev.now _)
    simp only [head_Right.j0]
    rw [if_neg (by decide), rgt_area h1 h2 h3 h4]
    by_cases h5 : mx W H > 1024
    · rw [if_pos h5, if_pos (by unfold mx at h5; omega)]
    · rw [if_neg h5]
      by_cases h6 : W * H > 4096
      · rw [if_pos h6, if_pos (.inr (.inr h6))]
      · rw [if_neg h6, if_neg (by unfold mx at h5; omega)]
  unfold head_Right.f
  simp only [side_f, Option.bind_some]
  unfold rgt
  by_cases hW : 1 ≤ W ∧ W ≤ 2147483647
  · rw [decide_eq_true hW]
    simp only [if_true]
    by_cases hH : 1 ≤ H ∧ H ≤ 2147483647
    · rw [decide_eq_true hH]
      simp only [if_true]
      refine Ev.bind (depths_ev C) ?_
      refine Ev.bind (contains_ev (deps C) D (by unfold deps; split; simp; split; simp; split <;> simp)) ?_
      rw [deps_has]
      by_cases hd : dep C D
      · rw [decide_eq_true hd]
        simp only [if_true]
        rw [andNot1 hL.1 hL.2]
        by_cases hl : L = 0 ∨ L = 1
        · rw [decide_eq_true hl, if_pos ⟨hW.1, hW.2, hH.1, hH.2, hd, hl⟩]
          exact hj0 hW.1 hW.2 hH.1 hH.2
        · rw [decide_eq_false hl, if_neg (fun h => hl h.2.2.2.2.2)]
          exact hj1
      · rw [decide_eq_false hd, if_neg (fun h => hd h.2.2.2.2.1)]
        simp only [Bool.false_eq_true, if_false]
        exact hj1
    · rw [decide_eq_false hH, if_neg (fun h => hH ⟨h.2.2.1, h.2.2.2.1⟩)]
      simp only [Bool.false_eq_true, if_false]
      exact hj1
  · rw [decide_eq_false hW, if_neg (fun h => hW ⟨h.1, h.2.1⟩)]
    simp only [Bool.false_eq_true, if_false]
    exact hj1
theorem wrapi64 {x : Int} (h1 : -9223372036854775808 ≤ x) (h2 : x ≤ 9223372036854775807) : IntKind.i64.wrap x = x := by
  rw [IntKind.wrap_i64]
  omega
theorem or_join {x y : Int} (i : Nat) (hx : x % 2 ^ i = 0) (hx0 : 0 ≤ x) (hx1 : x < 2 ^ 62) (hy0 : 0 ≤ y) (hy1 : y < 2 ^ i) (hy2 : y < 2 ^ 62) : Go.bits .or .i64 x y = x + y :=
  bits_join .i64 62 (by decide) (fun n h0 h1 => wrapi64 (by omega) (by omega)) i x y hx0 hx hx1 hy0 hy1 hy2
theorem w_succ {i : Nat} (h : i ≤ 4611686018427387904) : wrap64 ((i : Int) + 1) = ((i + 1 : Nat) : Int) := by rw [w64 (by omega) (by omega)]; omega
theorem toList_nil (s : ByteArray) : s.toList = [] ↔ s.size = 0 := by
  rw [toList_data, ← data_length, List.length_eq_zero_iff]
theorem toList_eq {s t : ByteArray} : s.toList = t.toList ↔ s = t := by
  rw [toList_data, toList_data]
  constructor
  · intro h
    cases s; cases t
    simp only [ByteArray.mk.injEq]
    exact Array.toList_inj.1 h
  · intro h; rw [h]
theorem bt_extract (s : ByteArray) (a b : Nat) (i : Nat) (h : a + i < b) (hb : b ≤ s.size) : bt (s.extract a b) (i : Int) = bt s ((a + i : Nat) : Int) := by
  have h1 : i < (s.extract a b).size := by rw [ByteArray.size_extract]; omega
  unfold bt
  rw [dif_pos (by simpa using h1), dif_pos (show ((a + i : Nat) : Int).toNat < s.size by simp; omega)]
  simp only [Int.toNat_natCast]
  rw [ByteArray.getElem_extract]
theorem bt_app_left (a b : ByteArray) (i : Nat) (h : i < a.size) : bt (a ++ b) (i : Int) = bt a (i : Int) := by
  have h2 : i < (a ++ b).size := by rw [ByteArray.size_append]; omega
  unfold bt
  rw [dif_pos (by simpa using h2), dif_pos (by simpa using h)]
  simp only [Int.toNat_natCast]
  rw [ByteArray.getElem_append_left]
def num4 (s : ByteArray) : Int := bt s 0 * 16777216 + bt s 1 * 65536 + bt s 2 * 256 + bt s 3
def be4 (n : Int) : ByteArray := strOfNums [(n / 16777216) % 256, (n / 65536) % 256, (n / 256) % 256, n % 256]
theorem num4_range (s : ByteArray) : 0 ≤ num4 s ∧ num4 s < 4294967296 := by
  unfold num4
  have h0 := bt_range s 0; have h1 := bt_range s 1; have h2 := bt_range s 2; have h3 := bt_range s 3
  omega
theorem be4_size (n : Int) : (be4 n).size = 4 := by unfold be4; rw [strOfNums_size]; rfl
theorem be4_byt (n : Int) : Byt [(n / 16777216) % 256, (n / 65536) % 256, (n / 256) % 256, n % 256] := by
  intro x hx
  simp only [List.mem_cons, List.not_mem_nil, or_false] at hx
  omega
theorem num4_app (a b : ByteArray) (h : 4 ≤ a.size) : num4 (a ++ b) = num4 a := by
  unfold num4
  rw [show (0 : Int) = ((0 : Nat) : Int) from rfl, show (1 : Int) = ((1 : Nat) : Int) from rfl, show (2 : Int) = ((2 : Nat) : Int) from rfl, show (3 : Int) = ((3 : Nat) : Int) from rfl, bt_app_left _ _ _ (by omega), bt_app_left _ _ _ (by omega), bt_app_left _ _ _ (by omega), bt_app_left _ _ _ (by omega)]
theorem num4_be4 {n : Int} (h0 : 0 ≤ n) (h1 : n < 4294967296) : num4 (be4 n) = n := by
  unfold num4 be4
  have hb := be4_byt n
  rw [bt_str hb, bt_str hb, bt_str hb, bt_str hb]
  show (n / 16777216) % 256 * 16777216 + (n / 65536) % 256 * 65536 + (n / 256) % 256 * 256 + n % 256 = n
  omega
theorem num4_extract (s : ByteArray) (a b : Nat) (h : a + 4 ≤ b) (hb : b ≤ s.size) : num4 (s.extract a b) = num4 (s.extract a (a + 4)) := by
  unfold num4
  rw [show (0 : Int) = ((0 : Nat) : Int) from rfl, show (1 : Int) = ((1 : Nat) : Int) from rfl, show (2 : Int) = ((2 : Nat) : Int) from rfl, show (3 : Int) = ((3 : Nat) : Int) from rfl,
    bt_extract _ _ _ _ (by omega) hb, bt_extract _ _ _ _ (by omega) hb, bt_extract _ _ _ _ (by omega) hb, bt_extract _ _ _ _ (by omega) hb, bt_extract _ _ _ _ (by omega) (by omega), bt_extract _ _ _ _ (by omega) (by omega), bt_extract _ _ _ _ (by omega) (by omega), bt_extract _ _ _ _ (by omega) (by omega)]
theorem or4 (s : ByteArray) : Go.bits .or .i64 (Go.bits .or .i64 (Go.bits .or .i64 (wrap64 ((wrap64 (bt s 0)) * 16777216)) (wrap64 ((wrap64 (bt s 1)) * 65536))) (wrap64 ((wrap64 (bt s 2)) * 256))) (wrap64 (bt s 3)) = num4 s := by
  have h0 := bt_range s 0; have h1 := bt_range s 1; have h2 := bt_range s 2; have h3 := bt_range s 3
  unfold num4
  rw [w64_bt, w64_bt, w64_bt, w64_bt]
  generalize bt s 0 = a at *
  generalize bt s 1 = b at *
  generalize bt s 2 = c at *
  generalize bt s 3 = d at *
  rw [w64 (x := a * 16777216) (by omega) (by omega), w64 (x := b * 65536) (by omega) (by omega), w64 (x := c * 256) (by omega) (by omega)]
  rw [or_join (x := a * 16777216) (y := b * 65536) 24 (by omega) (by omega) (by omega) (by omega) (by omega) (by omega), or_join (x := a * 16777216 + b * 65536) (y := c * 256) 16 (by omega) (by omega) (by omega) (by omega) (by omega) (by omega), or_join (x := a * 16777216 + b * 65536 + c * 256) (y := d) 8 (by omega) (by omega) (by omega) (by omega) (by omega) (by omega)]
theorem pad_l0 (s : ByteArray) (hs : s.size ≤ 1099511627776) (n3 : Int) (r : ByteArray) : ∀ (d : Nat) (xs : List Int), xs.length + d ≤ 1000 → d < 64 → (s.size + xs.length + d) % 64 = 56 → Ev (fun k => sha_pad.l1 k s n3 (xs ++ List.replicate d 0) 56) r → Ev (fun k => sha_pad.l0 k s n3 xs) r := by
  intro d
  induction d with
  | zero =>
    intro xs hx hd hm h
    refine Ev.step (f := fun k => sha_pad.l1 k s n3 xs 56) (fun k => ?_) (by simpa using h)
    simp only [sha_pad.l0]
    rw [w64 (by omega) (by omega), Int.tmod_eq_emod_of_nonneg (by omega), if_pos (by omega)]
  | succ d ih =>
    intro xs hx hd hm h
    refine Ev.step (f := fun k => sha_pad.l0 k s n3 (xs ++ [0])) (fun k => ?_) (ih (xs ++ [0]) (by simp; omega) (by omega) (by simp; omega) ?_)
    · simp only [sha_pad.l0]
      rw [w64 (by omega) (by omega), Int.tmod_eq_emod_of_nonneg (by omega), if_neg (by omega), if_pos (by omega)]
    · rw [List.append_assoc]
      exact h
def padT (n3 : Int) : Nat → List Int
  | 0 => []
  | j + 1 => (shr .u64 n3 (8 * (j : Int))) % 256 :: padT n3 j
theorem padT_len (n3 : Int) : ∀ j, (padT n3 j).length = j
  | 0 => rfl
  | j + 1 => by simp [padT, padT_len n3 j]
theorem pad_l1 (s : ByteArray) (hs : s.size ≤ 1099511627776) (n3 : Int) : ∀ (j : Nat) (xs : List Int), j ≤ 8 → xs.length + j ≤ 2000 → Ev (fun k => sha_pad.l1 k s n3 xs (8 * (j : Int) - 8)) (s ++ strOfNums (xs ++ padT n3 j)) := by
  intro j
  induction j with
  | zero =>
    intro xs hj hx
    refine ⟨1, fun k hk => ?_⟩
    obtain ⟨m, rfl⟩ : ∃ m, k = m + 1 := ⟨k - 1, by omega⟩
    simp only [sha_pad.l1]
    rw [if_neg (by omega), if_pos (by rw [str_size]; omega), padT, List.append_nil]
  | succ j ih =>
    intro xs hj hx
    refine Ev.step (f := fun k => sha_pad.l1 k s n3 (xs ++ [(shr .u64 n3 (8 * (j : Int))) % 256]) (8 * (j : Int) - 8)) (fun k => ?_) ?_
    · simp only [sha_pad.l1]
      rw [show (8 * ((j + 1 : Nat) : Int) - 8) = 8 * (j : Int) by omega, if_pos (by omega), if_pos (by omega), if_pos (by omega), w64 (by omega) (by omega)]
    · have := ih (xs ++ [(shr .u64 n3 (8 * (j : Int))) % 256]) (by omega) (by simp; omega)
      rw [List.append_assoc] at this
      exact this
def padZ (n : Nat) : Nat := (119 - n % 64) % 64
def padAll (s : ByteArray) : ByteArray := s ++ strOfNums ([128] ++ List.replicate (padZ s.size) 0 ++ padT (IntKind.u64.wrap ((IntKind.u64.wrap ((s.size : Int))) * 8)) 8)
theorem padAll_size (s : ByteArray) : (padAll s).size = s.size + 9 + padZ s.size := by
  unfold padAll
  rw [ByteArray.size_append, str_size]
  simp [padT_len]
  omega
theorem pad_ev (s : ByteArray) (hs : s.size ≤ 1099511627776) : Ev (fun k => sha_pad.f k s) (padAll s) := by
  refine pad_l0 s hs _ _ (padZ s.size) [128] (by simp; unfold padZ; omega) (by unfold padZ; omega) (by simp; unfold padZ; omega) ?_
  exact pad_l1 s hs _ 8 _ (by omega) (by simp; unfold padZ; omega)
def shaS (s : ByteArray) : ByteArray := strOfNums (sha_out (sha_run (padAll s) ((padAll s).size / 64)) 8)
theorem sum_ev (s : ByteArray) (hs : s.size ≤ 1099511627776) : Ev (fun k => sha_Sum.f k s) (shaS s) := by
  refine Ev.bind (f := fun _ all => if all.size % 64 = 0 ∧ all.size < 4611686018427387904 then some (strOfNums (sha_out (sha_run all (all.size / 64)) 8)) else none) (pad_ev s hs) ?_
  refine ⟨0, fun k _ => ?_⟩
  have h := padAll_size s
  rw [if_pos (by rw [h]; unfold padZ; omega)]
  rfl
theorem shaS_size (s : ByteArray) : (shaS s).size = 32 := by
  unfold shaS
  rw [str_size, sha_out_len]
def mb (h : Nat) : Nat := (h + 7) / 8
theorem mb_le {h : Nat} (h4 : h ≤ 1024) : mb h ≤ 8796093022208 := by unfold mb; omega
theorem big_f (n : Int) : bands_big.f n = some (be4 n) := rfl
def chk (W H : Int) (s : ByteArray) : Int := if rgt W H 16 6 0 = 0 then (if (s.size : Int) = 8 * W * H then 0 else 24) else rgt W H 16 6 0
theorem chk_wrap {W H : Int} (h : rgt W H 16 6 0 = 0) : wrap64 (wrap64 (8 * W) * H) = 8 * W * H := by
  obtain ⟨a, b, c, d, e, _⟩ := rgt_0 h
  have h1 : 0 ≤ W * H := Int.mul_nonneg (by omega) (by omega)
  rw [w64 (x := 8 * W) (by omega) (by omega), Int.mul_assoc]
  exact w64 (by omega) (by omega)
theorem Check_ev (W H : Int) (s : ByteArray) : Ev (fun k => pixel_Check.f k W H s) (chk W H s) := by
  refine Ev.congr (f := fun k => (head_Right.f k W H 16 6 0).bind fun t => (if t = 0 then (if (s.size : Int) = (wrap64 ((wrap64 (8 * W)) * H)) then (some 0) else (some 24)) else (some t))) (fun k => rfl) ?_
  refine Ev.bind (f := fun _ t => (if t = 0 then (if (s.size : Int) = (wrap64 ((wrap64 (8 * W)) * H)) then (some 0) else (some 24)) else (some t))) (Right_ev W H 16 6 0 (by omega)) ?_
  refine ⟨0, fun k _ => ?_⟩
  unfold chk
  by_cases h : rgt W H 16 6 0 = 0
  · rw [if_pos h, if_pos h, chk_wrap h]
    split <;> rfl
  · rw [if_neg h, if_neg h]
theorem chk_0 {W H : Int} {s : ByteArray} (h : chk W H s = 0) : ∃ w h_ : Nat, W = (w : Int) ∧ H = (h_ : Int) ∧ 1 ≤ w ∧ w ≤ 1024 ∧ 1 ≤ h_ ∧ h_ ≤ 1024 ∧ w * h_ ≤ 4096 ∧ s.size = 8 * w * h_ := by
  unfold chk at h
  by_cases hr : rgt W H 16 6 0 = 0
  · rw [if_pos hr] at h
    by_cases hs : (s.size : Int) = 8 * W * H
    · obtain ⟨a, b, c, d, e, _⟩ := rgt_0 hr
      refine ⟨W.toNat, H.toNat, by omega, by omega, by omega, by omega, by omega, by omega, ?_, ?_⟩
      · have : ((W.toNat * H.toNat : Nat) : Int) = W * H := by rw [Int.natCast_mul, Int.toNat_of_nonneg (by omega), Int.toNat_of_nonneg (by omega)]
        omega
      · have : ((8 * W.toNat * H.toNat : Nat) : Int) = 8 * W * H := by rw [Int.natCast_mul, Int.natCast_mul, Int.toNat_of_nonneg (by omega), Int.toNat_of_nonneg (by omega)]; rfl
        omega
    · rw [if_neg hs] at h
      omega
  · rw [if_neg hr] at h
    exact absurd h hr
def be_ (h i : Nat) : Nat := min (8 * (i + 1)) h
def piece (R h : Nat) (s : ByteArray) (i : Nat) : ByteArray := s.extract (R * (8 * i)) (R * be_ h i)
def pieces (R h : Nat) (s : ByteArray) (n : Nat) : List ByteArray := (List.range n).map (piece R h s)
theorem pieces_succ (R h : Nat) (s : ByteArray) (n : Nat) : pieces R h s (n + 1) = pieces R h s n ++ [piece R h s n] := by
  unfold pieces
  rw [List.range_succ, List.map_append]
  rfl
theorem pieces_len (R h : Nat) (s : ByteArray) (n : Nat) : (pieces R h s n).length = n := by unfold pieces; simp
def behind (R : Nat) (s : ByteArray) (i : Nat) : ByteArray := s.extract (R * (8 * i)) s.size
theorem behind_size {R h : Nat} {s : ByteArray} (hs : s.size = R * h) {i : Nat} (hi : 8 * i ≤ h) : (behind R s i).size = R * (h - 8 * i) := by
  unfold behind
  rw [ByteArray.size_extract, hs, Nat.min_self, Nat.mul_sub]
theorem behind_more {R h : Nat} {s : ByteArray} (hs : s.size = R * h) (hR : 1 ≤ R) {i : Nat} : ((behind R s i).size = 0) ↔ ¬ i < mb h := by
  unfold behind mb
  rw [ByteArray.size_extract, hs, Nat.min_self, ← Nat.mul_sub, Nat.mul_eq_zero]
  omega
theorem cut_step {R h : Nat} {s : ByteArray} (hs : s.size = R * h) {i n : Nat} (hi : i < mb h) (hn : n = R * (be_ h i - 8 * i)) : (behind R s i).extract 0 n = piece R h s i ∧ (behind R s i).extract n (behind R s i).size = behind R s (i + 1) := by
  have h8 : 8 * i < h := by unfold mb at hi; omega
  have hb := behind_size hs (i := i) (by omega)
  have hm := Nat.mul_le_mul_left R (show 8 * i ≤ h by omega)
  subst hn
  rw [Nat.mul_sub]
  have hle : R * (8 * i) ≤ R * be_ h i := Nat.mul_le_mul_left R (by unfold be_; omega)
  have hle2 : R * be_ h i ≤ R * h := Nat.mul_le_mul_left R (by unfold be_; omega)
  unfold behind piece
  rw [ByteArray.extract_extract, ByteArray.extract_extract]
  constructor
  · congr 1
    · omega
  · have hz : (s.extract (R * (8 * i)) s.size).size = R * h - R * (8 * i) := by rw [ByteArray.size_extract, hs, Nat.min_self]
    rw [hz]
    by_cases hc : 8 * (i + 1) ≤ h
    · have : be_ h i = 8 * (i + 1) := by unfold be_; omega
      rw [this] at hle hle2 ⊢
      congr 1 <;> omega
    · have e : be_ h i = h := by unfold be_; omega
      have hbig := Nat.mul_le_mul_left R (show h ≤ 8 * (i + 1) by omega)
      rw [e]
      have z1 : (s.extract (R * (8 * i) + (R * h - R * (8 * i))) (min (R * (8 * i) + (R * h - R * (8 * i))) s.size)).size = 0 := by rw [ByteArray.size_extract]; omega
      have z2 : (s.extract (R * (8 * (i + 1))) s.size).size = 0 := by rw [ByteArray.size_extract]; omega
      rw [ByteArray.size_eq_zero_iff.1 z1, ByteArray.size_eq_zero_iff.1 z2]
theorem Cut_loop {R h : Nat} {s : ByteArray} (hs : s.size = R * h) (hR : 1 ≤ R) (hRb : R ≤ 8192) (hh : h ≤ 1024) : ∀ d i : Nat, i + d = mb h → Ev (fun k => bands_Cut.l0 k (pieces R h s i) ((8 * R : Nat) : Int) (behind R s i)) (pieces R h s (mb h), 0) := by
  intro d
  induction d with
  | zero =>
    intro i hi
    obtain rfl : i = mb h := by omega
    refine Ev.step (f := fun _ => some (pieces R h s (mb h), 0)) (fun k => ?_) (Ev.now _)
    simp only [bands_Cut.l0]
    rw [if_pos ((toList_nil _).2 ((behind_more hs hR).2 (by omega)))]
  | succ d ih =>
    intro i hi
    have hlt : i < mb h := by omega
    have h8 : 8 * i < h := by unfold mb at hlt; omega
    have hb := behind_size hs (i := i) (by omega)
    have hn : mn ((8 * R : Nat) : Int) ((behind R s i).size : Int) = ((R * (be_ h i - 8 * i) : Nat) : Int) := by
      rw [hb]
      by_cases hc : 8 ≤ h - 8 * i
      · have := Nat.mul_le_mul_left R hc
        rw [show be_ h i - 8 * i = 8 by unfold be_; omega]
        unfold mn
        split <;> omega
      · have := Nat.mul_le_mul_left R (show h - 8 * i ≤ 8 by omega)
        rw [show be_ h i - 8 * i = h - 8 * i by unfold be_; omega]
        unfold mn
        split <;> omega
    have hle : R * (be_ h i - 8 * i) ≤ (behind R s i).size := by rw [hb]; exact Nat.mul_le_mul_left R (by unfold be_; omega)
    obtain ⟨c1, c2⟩ := cut_step hs hlt rfl
    have hne : ¬ (behind R s i).toList = [] := fun e => ((behind_more hs hR).1 ((toList_nil _).1 e)) hlt
    refine Ev.step (fun k => ?_) (ih (i + 1) (by omega))
    simp only [bands_Cut.l0]
    rw [if_neg hne, hn, if_pos (Int.natCast_nonneg _), if_pos (Int.ofNat_le.2 hle), if_pos (by rw [pieces_len]; exact Nat.lt_of_lt_of_le hlt (mb_le hh)), Int.toNat_natCast, c1, c2, ← pieces_succ]
def cutV (W H : Int) (s : ByteArray) : List ByteArray × Int := if chk W H s = 0 then (pieces (8 * W.toNat) H.toNat s (mb H.toNat), 0) else ([], chk W H s)
theorem Cut_ev (W H : Int) (s : ByteArray) : Ev (fun k => bands_Cut.f k W H s) (cutV W H s) := by
  refine Ev.bind (f := fun k t130 => (if t130 = 0 then ((bands_band.f W).bind fun t131 => (bands_Cut.l0 k ([] : List ByteArray) t131 s)) else (some (([] : List ByteArray), t130)))) (Check_ev W H s) ?_
  unfold cutV
  by_cases hc : chk W H s = 0
  · obtain ⟨w, h, rfl, rfl, h1, h2, h3, h4, h5, h6⟩ := chk_0 hc
    have hb : bands_band.f (w : Int) = some ((8 * (8 * w) : Nat) : Int) := by
      unfold bands_band.f
      rw [w64 (x := 8 * (w : Int)) (by omega) (by omega), w64 (by omega) (by omega)]
      congr 1
      omega
    simp only [if_pos hc, hb, Option.bind_some, Int.toNat_natCast]
    have := Cut_loop (R := 8 * w) (h := h) h6 (by omega) (by omega) (by omega) (mb h) 0 (by omega)
    have e : behind (8 * w) s 0 = s := by unfold behind; rw [Nat.mul_zero]; exact ByteArray.extract_zero_size
    rw [e] at this
    exact this
  · simp only [if_neg hc]
    exact Ev.now _
theorem piece_size {R h : Nat} {s : ByteArray} (hs : s.size = R * h) (i : Nat) (hi : i < mb h) : (piece R h s i).size = R * (be_ h i - 8 * i) := by
  have h8 : 8 * i < h := by unfold mb at hi; omega
  have hle2 : R * be_ h i ≤ R * h := Nat.mul_le_mul_left R (by unfold be_; omega)
  unfold piece
  rw [ByteArray.size_extract, hs, Nat.mul_sub]
  omega
theorem piece_le {R h : Nat} {s : ByteArray} (hs : s.size = R * h) (hR : R ≤ 8192) (i : Nat) (hi : i < mb h) : (piece R h s i).size ≤ 65536 := by
  rw [piece_size hs i hi]
  have := Nat.mul_le_mul hR (show be_ h i - 8 * i ≤ 8 by unfold be_; omega)
  omega
theorem rdOf_map (f : Nat → ByteArray) (n i : Nat) (h : i < n) : rdOf ByteArray.empty ((List.range n).map f) (i : Int) = f i := by
  unfold rdOf
  rw [List.getD_eq_getElem?_getD, Int.toNat_natCast, List.getElem?_map, List.getElem?_range h]
  rfl
def cat (f : Nat → ByteArray) : Nat → ByteArray
  | 0 => ByteArray.empty
  | n + 1 => cat f n ++ f n
theorem cat_size {f : Nat → ByteArray} (hf : ∀ i, (f i).size = 32) : ∀ n, (cat f n).size = 32 * n
  | 0 => rfl
  | n + 1 => by rw [cat, ByteArray.size_append, cat_size hf n, hf n]; omega
def manL (W H : Int) (R h : Nat) (s : ByteArray) (n : Nat) : ByteArray := be4 W ++ be4 H ++ cat (fun i => shaS (piece R h s i)) n
theorem manL_size (W H : Int) (R h : Nat) (s : ByteArray) (n : Nat) : (manL W H R h s n).size = 8 + 32 * n := by
  unfold manL
  rw [ByteArray.size_append, ByteArray.size_append, be4_size, be4_size, cat_size (fun i => shaS_size _)]
theorem manL_succ (W H : Int) (R h : Nat) (s : ByteArray) (n : Nat) : manL W H R h s (n + 1) = manL W H R h s n ++ shaS (piece R h s n) := by
  unfold manL
  rw [cat, ← ByteArray.append_assoc]
def manV (W H : Int) (s : ByteArray) : ByteArray × Int := if chk W H s = 0 then (manL W H (8 * W.toNat) H.toNat s (mb H.toNat), 0) else (⟨#[]⟩, chk W H s)
theorem Man_loop {R h : Nat} {s : ByteArray} (W H : Int) (hs : s.size = R * h) (hR : R ≤ 8192) (hh : h ≤ 1024) : ∀ d i : Nat, i + d = mb h → Ev (fun k => bands_Manifest.l0 k (pieces R h s (mb h)) ((mb h : Nat) : Int) (i : Int) (manL W H R h s i)) (manL W H R h s (mb h), 0) := by
  intro d
  induction d with
  | zero =>
    intro i hi
    obtain rfl : i = mb h := by omega
    refine Ev.step (f := fun _ => some (manL W H R h s (mb h), 0)) (fun k => ?_) (Ev.now _)
    simp only [bands_Manifest.l0]
    rw [if_neg (by omega)]
    rfl
  | succ d ih =>
    intro i hi
    have hlt : i < mb h := by omega
    have hmb : mb h ≤ 1031 := by unfold mb; omega
    have w1 : wrap64 ((i : Int) + 1) = ((i + 1 : Nat) : Int) := by rw [w64 (by omega) (by omega)]; omega
    have hrd : rdOf ByteArray.empty (pieces R h s (mb h)) (i : Int) = piece R h s i := rdOf_map _ _ _ hlt
    have hm := manL_size W H R h s i
    have hsh := shaS_size (piece R h s i)
    refine Ev.step (f := fun k => (sha_Sum.f k (piece R h s i)).bind fun t162 => ((strings_Builder_WriteString.f (manL W H R h s i) t162).bind fun bt163 => (bands_Manifest.l0 k (pieces R h s (mb h)) ((mb h : Nat) : Int) (wrap64 ((i : Int) + 1)) bt163.2.2))) (fun k => ?_) ?_
    · simp only [bands_Manifest.l0]
      rw [if_pos (by omega), if_pos (by omega), if_pos (by rw [pieces_len]; omega), hrd]
    · refine Ev.bind (f := fun k t162 => ((strings_Builder_WriteString.f (manL W H R h s i) t162).bind fun bt163 => (bands_Manifest.l0 k (pieces R h s (mb h)) ((mb h : Nat) : Int) (wrap64 ((i : Int) + 1)) bt163.2.2))) (sum_ev _ (by have := piece_le hs hR i hlt; omega)) ?_
      have hw : strings_Builder_WriteString.f (manL W H R h s i) (shaS (piece R h s i)) = some (((shaS (piece R h s i)).size : Int), none, manL W H R h s (i + 1)) := by
        unfold strings_Builder_WriteString.f
        rw [if_pos (by omega), manL_succ]
      refine Ev.congr (fun k => ?_) (ih (i + 1) (by omega))
      rw [hw, Option.bind_some, w1]
theorem Man_ev (W H : Int) (s : ByteArray) : Ev (fun k => bands_Manifest.f k W H s) (manV W H s) := by
  refine Ev.bind (f := fun k bt149 => (if bt149.2 = 0 then ((bands_big.f W).bind fun t154 => ((bands_big.f H).bind fun t155 => (if t154.size + t155.size ≤ 9223372036854775807 then ((strings_Builder_WriteString.f (⟨#[]⟩ : ByteArray) (t154 ++ t155)).bind fun bt156 => (bands_Manifest.l0 k bt149.1 (bt149.1.length : Int) 0 bt156.2.2)) else (none)))) else (some ((⟨#[]⟩ : ByteArray), bt149.2)))) (Cut_ev W H s) ?_
  unfold manV cutV
  by_cases hc : chk W H s = 0
  · have hc' := hc
    obtain ⟨w, h, rfl, rfl, h1, h2, h3, h4, h5, h6⟩ := chk_0 hc
    simp only [if_pos hc', big_f, Option.bind_some, Int.toNat_natCast, if_true]
    have hw : strings_Builder_WriteString.f (⟨#[]⟩ : ByteArray) (be4 (w : Int) ++ be4 (h : Int)) = some (((be4 (w : Int) ++ be4 (h : Int)).size : Int), none, manL w h (8 * w) h s 0) := by
      unfold strings_Builder_WriteString.f
      have e : (⟨#[]⟩ : ByteArray) ++ (be4 (w : Int) ++ be4 (h : Int)) = manL w h (8 * w) h s 0 := by
        unfold manL cat
        rw [ByteArray.append_empty]
        exact ByteArray.empty_append
      have z : (⟨#[]⟩ : ByteArray).size = 0 := rfl
      rw [if_pos (by rw [ByteArray.size_append, be4_size, be4_size, z]; omega), e]
    refine Ev.congr (fun k => ?_) (Man_loop (R := 8 * w) (h := h) w h h6 (by omega) h4 (mb h) 0 (by omega))
    rw [if_pos (by rw [be4_size, be4_size]; omega), hw, Option.bind_some, pieces_len]
    rfl
  · simp only [if_neg hc]
    exact Ev.now _
theorem number15 (s : ByteArray) (h : 4 ≤ s.size) : bands_number.f s = some (num4 s) := by
  unfold bands_number.f
  rw [if_pos (by omega), if_pos (by omega), if_pos (by omega), if_pos (by omega), or4]
theorem rgt_iff (W H : Int) : rgt W H 16 6 0 = 0 ↔ (1 ≤ W ∧ W ≤ 1024 ∧ 1 ≤ H ∧ H ≤ 1024 ∧ W * H ≤ 4096) := by
  constructor
  · intro h
    obtain ⟨a, b, c, d, e, _⟩ := rgt_0 h
    exact ⟨a, b, c, d, e⟩
  · rintro ⟨a, b, c, d, e⟩
    unfold rgt
    rw [if_pos ⟨a, by omega, c, by omega, by decide, .inl rfl⟩, if_neg (by omega)]
def hashL (m : ByteArray) (n : Nat) : List ByteArray := (List.range n).map fun i => m.extract (8 + 32 * i) (40 + 32 * i)
theorem hashL_succ (m : ByteArray) (n : Nat) : hashL m (n + 1) = hashL m n ++ [m.extract (8 + 32 * n) (40 + 32 * n)] := by
  unfold hashL
  rw [List.range_succ, List.map_append]
  rfl
theorem hashL_len (m : ByteArray) (n : Nat) : (hashL m n).length = n := by unfold hashL; simp
def redOk (m : ByteArray) : Prop := 8 ≤ m.size ∧ rgt (num4 m) (num4 (m.extract 4 8)) 16 6 0 = 0 ∧ m.size = 8 + 32 * mb (num4 (m.extract 4 8)).toNat
instance (m : ByteArray) : Decidable (redOk m) := by unfold redOk; infer_instance
def redV (m : ByteArray) : Int × Int × List ByteArray × Int := if redOk m then (num4 m, num4 (m.extract 4 8), hashL m (mb (num4 (m.extract 4 8)).toNat), 0) else (0, 0, [], 42)
theorem redV_bad {m : ByteArray} (h : ¬ redOk m) : redV m = (0, 0, [], 42) := by unfold redV; rw [if_neg h]
theorem Read_loop {m : ByteArray} {M : Nat} (w h : Int) (hm : m.size = 8 + 32 * M) (hM : M ≤ 1000) : ∀ d i : Nat, i + d = M → Ev (fun k => bands_Read.l0 k w h (m.extract (8 + 32 * i) m.size) (hashL m i)) (w, h, hashL m M, 0) := by
  intro d
  induction d with
  | zero =>
    intro i hi
    obtain rfl : i = M := by omega
    refine Ev.step (f := fun _ => some (w, h, hashL m i, 0)) (fun k => ?_) (Ev.now _)
    simp only [bands_Read.l0]
    rw [if_pos ((toList_nil _).2 (by rw [ByteArray.size_extract]; omega))]
  | succ d ih =>
    intro i hi
    have hz : (m.extract (8 + 32 * i) m.size).size = m.size - (8 + 32 * i) := by rw [ByteArray.size_extract]; omega
    have hne : ¬ (m.extract (8 + 32 * i) m.size).toList = [] := fun e => by have := (toList_nil _).1 e; omega
    have e1 : (m.extract (8 + 32 * i) m.size).extract 32 (m.extract (8 + 32 * i) m.size).size = m.extract (8 + 32 * (i + 1)) m.size := by
      rw [ByteArray.extract_extract, hz]
      congr 1
      omega
    have e2 : (m.extract (8 + 32 * i) m.size).extract 0 32 = m.extract (8 + 32 * i) (40 + 32 * i) := by
      rw [ByteArray.extract_extract]
      congr 1
      omega
    refine Ev.step (fun k => ?_) (ih (i + 1) (by omega))
    simp only [bands_Read.l0]
    rw [if_neg hne, if_pos (by decide), if_pos (by omega), if_pos (by rw [hashL_len]; omega), e1, e2, ← hashL_succ]
theorem many15 {h : Int} (h0 : 1 ≤ h) (h1 : h ≤ 1024) : wrap64 (Int.tdiv (wrap64 ((wrap64 (h + 8)) - 1)) 8) = ((mb h.toNat : Nat) : Int) := by
  unfold mb
  rw [w64 (x := h + 8) (by omega) (by omega), w64 (x := h + 8 - 1) (by omega) (by omega), Int.tdiv_eq_ediv_of_nonneg (by omega), w64 (by omega) (by omega)]
  omega
theorem mb_1000 {h : Int} (h1 : h ≤ 1024) : mb h.toNat ≤ 1000 := by unfold mb; omega
theorem Read_ev (m : ByteArray) (hs : m.size ≤ 4611686018427387904) : Ev (fun k => bands_Read.f k m) (redV m) := by
  have jt : ∀ a b r, ¬ redOk m → Ev (fun k => bands_Read.j0 k a b r true) (redV m) := by
    intro a b r hn
    refine Ev.step (f := fun _ => some (0, 0, ([] : List ByteArray), 42)) (fun k => ?_) (ev_same (Ev.now _) (redV_bad hn).symm)
    simp only [bands_Read.j0, if_true]
  by_cases h8 : (m.size : Int) < 8
  · refine Ev.congr (f := fun _ => some (0, 0, ([] : List ByteArray), 42)) (fun k => ?_) (ev_same (Ev.now _) (redV_bad (fun h => by have := h.1; omega)).symm)
    unfold bands_Read.f
    rw [if_pos h8]
  · have n2 : bands_number.f (m.extract 4 m.size) = some (num4 (m.extract 4 8)) := by
      rw [number15 _ (by rw [ByteArray.size_extract]; omega), num4_extract m 4 m.size (by omega) (by omega)]
    obtain ⟨w, hw⟩ : ∃ w, num4 m = w := ⟨_, rfl⟩
    obtain ⟨h, hh⟩ : ∃ h, num4 (m.extract 4 8) = h := ⟨_, rfl⟩
    have rw_ := num4_range m
    have rh_ := num4_range (m.extract 4 8)
    have hzr : (m.extract 8 m.size).size = m.size - 8 := by rw [ByteArray.size_extract]; omega
    refine Ev.congr (f := fun k => (if w < 1 then (bands_Read.j0 k w h (m.extract 8 m.size) true) else (if h < 1 then (bands_Read.j0 k w h (m.extract 8 m.size) true) else (if (mx w h) > 1024 then (bands_Read.j0 k w h (m.extract 8 m.size) true) else (if (wrap64 (w * h)) > 4096 then (bands_Read.j0 k w h (m.extract 8 m.size) true) else (bands_Read.j0 k w h (m.extract 8 m.size) (((m.extract 8 m.size).size : Int) != (wrap64 (32 * (wrap64 (Int.tdiv (wrap64 ((wrap64 (h + 8)) - 1)) 8))))))))))) (fun k => ?_) ?_
    · unfold bands_Read.f
      rw [if_neg h8, number15 m (by omega), Option.bind_some, if_pos (by omega), n2, Option.bind_some, if_pos (by omega), hw, hh]
    · have bad : ¬ (1 ≤ w ∧ w ≤ 1024 ∧ 1 ≤ h ∧ h ≤ 1024 ∧ w * h ≤ 4096) → ¬ redOk m := by
        intro hn hr
        have := (rgt_iff _ _).1 hr.2.1
        rw [hw, hh] at this
        exact hn this
      by_cases c1 : w < 1
      · simp only [if_pos c1]
        exact jt _ _ _ (bad (by omega))
      · simp only [if_neg c1]
        by_cases c2 : h < 1
        · simp only [if_pos c2]
          exact jt _ _ _ (bad (by omega))
        · simp only [if_neg c2]
          by_cases c3 : mx w h > 1024
          · simp only [if_pos c3]
            exact jt _ _ _ (bad (by unfold mx at c3; omega))
          · simp only [if_neg c3]
            have c3' : w ≤ 1024 ∧ h ≤ 1024 := by unfold mx at c3; split at c3 <;> omega
            have p0 : 0 ≤ w * h := Int.mul_nonneg (by omega) (by omega)
            have p1 : w * h ≤ 1024 * 1024 := Int.mul_le_mul c3'.1 c3'.2 (by omega) (by omega)
            rw [w64 (x := w * h) (by omega) (by omega)]
            by_cases c4 : w * h > 4096
            · simp only [if_pos c4]
              exact jt _ _ _ (bad (by omega))
            · simp only [if_neg c4]
              have hM := mb_1000 c3'.2
              rw [many15 (by omega) c3'.2, w64 (x := 32 * ((mb h.toNat : Nat) : Int)) (by omega) (by omega), hzr]
              by_cases c5 : m.size = 8 + 32 * mb h.toNat
              · have hok : redOk m := ⟨by omega, by rw [rgt_iff, hw, hh]; exact ⟨by omega, c3'.1, by omega, c3'.2, by omega⟩, by rw [hh]; exact c5⟩
                have e : ((((m.size - 8 : Nat)) : Int) != 32 * ((mb h.toNat : Nat) : Int)) = false := bne_eq_false_iff_eq.mpr (by omega)
                rw [e]
                have := Read_loop w h c5 hM (mb h.toNat) 0 (by omega)
                refine Ev.step (fun k => ?_) (ev_same this ?_)
                · simp only [bands_Read.j0]
                  rw [if_neg (by decide)]
                  rfl
                · unfold redV
                  rw [if_pos hok, hw, hh]
              · have e : ((((m.size - 8 : Nat)) : Int) != 32 * ((mb h.toNat : Nat) : Int)) = true := bne_iff_ne.mpr (by omega)
                rw [e]
                exact jt _ _ _ (fun hr => c5 (by have := hr.2.2; rw [hh] at this; exact this))
theorem ev_if {α : Type} {c : Prop} [Decidable c] {g e : Nat → Option α} {r : α} (h : c) (hg : Ev g r) : Ev (fun k => if c then g k else e k) r := Ev.congr (fun k => if_pos h) hg
theorem j_num4 (s : ByteArray) : num4 (manL 1 9 8 9 s 2) = 1 := by
  unfold manL
  rw [num4_app _ _ (by rw [ByteArray.size_append, be4_size, be4_size]; omega), num4_app _ _ (by rw [be4_size]; omega), num4_be4 (by omega) (by omega)]
theorem j_cat (f : Nat → ByteArray) : cat f 2 = f 0 ++ f 1 := by
  show (ByteArray.empty ++ f 0) ++ f 1 = _
  rw [ByteArray.empty_append]
theorem j_num9 (s : ByteArray) : num4 ((manL 1 9 8 9 s 2).extract 4 8) = 9 := by
  have e : (manL 1 9 8 9 s 2).extract 4 8 = be4 9 := by
    unfold manL
    rw [ByteArray.append_assoc, ByteArray.extract_append, ByteArray.extract_append, be4_size]
    have e1 : (be4 1).extract 4 8 = ByteArray.empty := by
      rw [ByteArray.extract_eq_empty_iff, be4_size]; omega
    have e3 : (be4 9).extract (4 - 4) (8 - 4) = be4 9 := by
      have := @ByteArray.extract_zero_size (be4 9)
      rw [be4_size] at this
      exact this
    have e2 : (cat (fun i => shaS (piece 8 9 s i)) 2).extract (4 - 4 - (be4 9).size) (8 - 4 - (be4 9).size) = ByteArray.empty := by
      rw [ByteArray.extract_eq_empty_iff, be4_size]; omega
    rw [e1, e3, e2, ByteArray.empty_append, ByteArray.append_empty]
  rw [e, num4_be4 (by omega) (by omega)]
theorem j_hash (s : ByteArray) : hashL (manL 1 9 8 9 s 2) 2 = [shaS (piece 8 9 s 0), shaS (piece 8 9 s 1)] := by
  have hh : (be4 1 ++ be4 9).size = 8 := by rw [ByteArray.size_append, be4_size, be4_size]
  have z0 := shaS_size (piece 8 9 s 0)
  have z1 := shaS_size (piece 8 9 s 1)
  have key : ∀ a b, (manL 1 9 8 9 s 2).extract (8 + a) (8 + b) = (shaS (piece 8 9 s 0) ++ shaS (piece 8 9 s 1)).extract a b := by
    intro a b
    unfold manL
    rw [j_cat, ByteArray.extract_append, hh]
    have e1 : (be4 1 ++ be4 9).extract (8 + a) (8 + b) = ByteArray.empty := by
      rw [ByteArray.extract_eq_empty_iff, hh]; omega
    rw [e1, ByteArray.empty_append, Nat.add_sub_cancel_left, Nat.add_sub_cancel_left]
  have h0 : (manL 1 9 8 9 s 2).extract 8 40 = shaS (piece 8 9 s 0) := by
    rw [show (8 : Nat) = 8 + 0 from rfl, show (40 : Nat) = 8 + 0 + 32 from rfl, Nat.add_assoc, key, ByteArray.extract_append_eq_left (by omega)]
  have h1 : (manL 1 9 8 9 s 2).extract 40 72 = shaS (piece 8 9 s 1) := by
    rw [show (40 : Nat) = 8 + 32 from rfl, show (72 : Nat) = 8 + 64 from rfl, key, ByteArray.extract_append_eq_right (by omega) (by omega)]
  show [(manL 1 9 8 9 s 2).extract 8 40, (manL 1 9 8 9 s 2).extract 40 72] = _
  rw [h0, h1]
theorem j_red (s : ByteArray) : redV (manL 1 9 8 9 s 2) = (1, 9, [shaS (piece 8 9 s 0), shaS (piece 8 9 s 1)], 0) := by
  have hok : redOk (manL 1 9 8 9 s 2) := by
    refine ⟨by rw [manL_size]; omega, ?_, ?_⟩
    · rw [rgt_iff, j_num4, j_num9]; omega
    · rw [manL_size, j_num9]; rfl
  unfold redV
  rw [if_pos hok, j_num4, j_num9]
  show ((1 : Int), (9 : Int), hashL (manL 1 9 8 9 s 2) 2, (0 : Int)) = _
  rw [j_hash]
theorem j_join (s : ByteArray) (hs : s.size = 72) : ∃ v : ByteArray, Ev (fun k => bands_Join.f k (manL 1 9 8 9 s 2) (pieces 8 9 s 2)) ((1 : Int), (9 : Int), v, (0 : Int)) := by
  have p0 : (piece 8 9 s 0).size = 64 := piece_size hs 0 (by decide)
  have p1 : (piece 8 9 s 1).size = 8 := piece_size hs 1 (by decide)
  have hl : pieces 8 9 s 2 = [piece 8 9 s 0, piece 8 9 s 1] := rfl
  have hb : bands_band.f (1 : Int) = some 64 := by
    unfold bands_band.f
    rw [w64 (x := 8 * (1 : Int)) (by omega) (by omega), w64 (by omega) (by omega)]
    rfl
  refine ⟨joinN (pieces 8 9 s 2) 2, ?_⟩
  unfold bands_Join.f
  refine Ev.bind (Read_ev _ (by rw [manL_size]; omega)) ?_
  rw [j_red, hl]
  refine ev_if rfl (ev_if rfl ?_)
  show Ev (fun k => bands_Join.l0 k [piece 8 9 s 0, piece 8 9 s 1] 1 9 [shaS (piece 8 9 s 0), shaS (piece 8 9 s 1)] (wrap64 (wrap64 (8 * 1) * 9)) [piece 8 9 s 0, piece 8 9 s 1] 2 0) _
  have e72 : wrap64 (wrap64 (8 * 1) * 9) = 72 := by
    rw [w64 (x := 8 * (1 : Int)) (by omega) (by omega), w64 (x := 8 * (1 : Int) * 9) (by omega) (by omega)]
    rfl
  rw [e72]
  have d0 : rdOf ByteArray.empty [piece 8 9 s 0, piece 8 9 s 1] 0 = piece 8 9 s 0 := rfl
  have d1 : rdOf ByteArray.empty [piece 8 9 s 0, piece 8 9 s 1] 1 = piece 8 9 s 1 := rfl
  have g0 : rdOf ByteArray.empty [shaS (piece 8 9 s 0), shaS (piece 8 9 s 1)] 0 = shaS (piece 8 9 s 0) := rfl
  have g1 : rdOf ByteArray.empty [shaS (piece 8 9 s 0), shaS (piece 8 9 s 1)] 1 = shaS (piece 8 9 s 1) := rfl
  have m0 : mn 64 72 = 64 := by unfold mn; split <;> omega
  have m1 : mn 64 8 = 8 := by unfold mn; split <;> omega
  have ll : ([piece 8 9 s 0, piece 8 9 s 1].length : Int) = 2 := rfl
  have hh : ([shaS (piece 8 9 s 0), shaS (piece 8 9 s 1)].length : Int) = 2 := rfl
  refine Ev.step (f := fun k => (sha_Sum.f k (piece 8 9 s 0)).bind fun t => (if t.toList = (shaS (piece 8 9 s 0)).toList then (bands_Join.l0 k [piece 8 9 s 0, piece 8 9 s 1] 1 9 [shaS (piece 8 9 s 0), shaS (piece 8 9 s 1)] 8 [piece 8 9 s 0, piece 8 9 s 1] 2 1) else (some (0, 0, (⟨#[]⟩ : ByteArray), 43)))) (fun k => ?_) ?_
  · simp only [bands_Join.l0]
    rw [if_pos (by omega), if_pos (by omega), if_pos (by rw [ll]; omega), hb, Option.bind_some, d0, m0, if_pos (by omega), g0, w64 (x := (0 : Int) + 1) (by omega) (by omega), w64 (by omega) (by omega), p0]
    congr 1
  refine Ev.bind (sum_ev _ (by omega)) (ev_if rfl ?_)
  refine Ev.step (f := fun k => (sha_Sum.f k (piece 8 9 s 1)).bind fun t => (if t.toList = (shaS (piece 8 9 s 1)).toList then (bands_Join.l0 k [piece 8 9 s 0, piece 8 9 s 1] 1 9 [shaS (piece 8 9 s 0), shaS (piece 8 9 s 1)] 0 [piece 8 9 s 0, piece 8 9 s 1] 2 2) else (some (0, 0, (⟨#[]⟩ : ByteArray), 43)))) (fun k => ?_) ?_
  · simp only [bands_Join.l0]
    rw [if_pos (by omega), if_pos (by omega), if_pos (by rw [ll]; omega), hb, Option.bind_some, d1, m1, if_pos (by omega), g1, w64 (x := (1 : Int) + 1) (by omega) (by omega), w64 (by omega) (by omega), p1]
    congr 1
  refine Ev.bind (sum_ev _ (by omega)) (ev_if rfl ?_)
  refine Ev.step (f := fun _ => some _) (fun k => ?_) (Ev.now _)
  simp only [bands_Join.l0]
  rw [if_neg (by omega)]
  unfold strings_Join.f
  have hsz : (joinN [piece 8 9 s 0, piece 8 9 s 1] 2).size ≤ 1099511627776 := by
    show ((ByteArray.empty ++ piece 8 9 s 0) ++ piece 8 9 s 1).size ≤ _
    rw [ByteArray.size_append, ByteArray.size_append, p0, p1]
    decide
  rw [if_pos ⟨rfl, hsz, by show 2 ≤ _; omega⟩]
  rfl
def bad1 (s : ByteArray) (i : Nat) : Bool := decide (bt s (i : Int) ≤ 32) || decide (bt s (i : Int) > 126)
def badN (s : ByteArray) : Nat → Bool
  | 0 => false
  | n + 1 => badN s n || bad1 s n
def namV (s : ByteArray) : Int := if s.size = 0 ∨ s.size > 32 ∨ badN s s.size = true then 40 else 0
theorem Name_loop (s : ByteArray) (hs : s.size ≤ 4611686018427387904) (b : Bool) : ∀ d i : Nat, i + d = s.size → Ev (fun k => bands_Name.l0 k s (b || badN s i) (s.size : Int) (i : Int)) (if (b || badN s s.size) = true then 40 else 0) := by
  intro d
  induction d with
  | zero =>
    intro i hi
    obtain rfl : i = s.size := by omega
    refine Ev.step (f := fun _ => if (b || badN s s.size) = true then some 40 else some 0) (fun k => ?_) ⟨0, fun _ _ => by split <;> rfl⟩
    simp only [bands_Name.l0]
    rw [if_neg (by omega)]
  | succ d ih =>
    intro i hi
    have w1 : wrap64 ((i : Int) + 1) = ((i + 1 : Nat) : Int) := w_succ (by omega)
    have h := ih (i + 1) (by omega)
    by_cases hb : (b || badN s i) = true
    · refine Ev.step (fun k => ?_) h
      simp only [bands_Name.l0]
      rw [if_pos (by omega), if_pos hb, w1]
      rw [show (b || badN s (i + 1)) = true by unfold badN; rw [← Bool.or_assoc, hb, Bool.true_or]]
    · have hf : (b || badN s i) = false := by simpa using hb
      have e : (b || badN s (i + 1)) = bad1 s i := by unfold badN; rw [← Bool.or_assoc, hf, Bool.false_or]
      rw [e] at h
      refine Ev.step (fun k => ?_) h
      simp only [bands_Name.l0]
      rw [if_pos (by omega), if_neg hb, if_pos (by omega), if_pos (by omega), w1]
      unfold bad1
      by_cases h32 : bt s (i : Int) ≤ 32
      · rw [if_pos h32, decide_eq_true h32, Bool.true_or]
      · rw [if_neg h32, decide_eq_false h32, Bool.false_or]
theorem Name_ev (s : ByteArray) (hs : s.size ≤ 4611686018427387904) : Ev (fun k => bands_Name.f k s) (namV s) := by
  have hj : ∀ b : Bool, Ev (fun k => bands_Name.j0 k s b) (if (b || badN s s.size) = true then 40 else 0) := by
    intro b
    refine Ev.step (fun k => ?_) (Name_loop s hs b s.size 0 (by omega))
    simp only [bands_Name.j0]
    show _ = bands_Name.l0 k s (b || false) (s.size : Int) 0
    rw [Bool.or_false]
  unfold bands_Name.f namV
  by_cases h0 : s.toList = []
  · simp only [if_pos h0]
    refine ev_same (hj true) ?_
    rw [Bool.true_or, if_pos rfl, if_pos (.inl ((toList_nil s).1 h0))]
  · have hn : ¬ s.size = 0 := fun e => h0 ((toList_nil s).2 e)
    simp only [if_neg h0]
    refine ev_same (hj _) ?_
    by_cases h32 : s.size > 32
    · rw [decide_eq_true (by omega), Bool.true_or, if_pos rfl, if_pos (.inr (.inl h32))]
    · rw [decide_eq_false (by omega), Bool.false_or]
      by_cases hb : badN s s.size = true
      · rw [if_pos hb, if_pos (.inr (.inr hb))]
      · rw [if_neg hb, if_neg (by rintro (h | h | h); exact hn h; exact h32 h; exact hb h)]
theorem small_loop (kind : Int) : ∀ d i : Nat, i + d = 72 → ∀ l : List Int, l.length = 72 → ∃ s : ByteArray, s.size = 72 ∧ Ev (fun k => vitrinelaw22_small.l0 k kind l (i : Int)) ((1 : Int), (9 : Int), s) := by
  intro d
  induction d with
  | zero =>
    intro i hi l hl
    refine ⟨strOfNums l, by rw [strOfNums_size]; exact hl, ?_⟩
    refine Ev.step (f := fun _ => some ((1 : Int), (9 : Int), strOfNums l)) (fun k => ?_) (Ev.now _)
    simp only [vitrinelaw22_small.l0]
    rw [if_neg (by omega)]
  | succ d ih =>
    intro i hi l hl
    have hw : wrap64 ((i : Int) + 1) = ((i + 1 : Nat) : Int) := w_succ (by omega)
    obtain ⟨v, hv⟩ : ∃ v, l.set (i : Int).toNat ((Int.tmod kind 8) % 256) = v := ⟨_, rfl⟩
    have hvl : v.length = 72 := by rw [← hv, List.length_set]; exact hl
    by_cases hc : (i : Int) ≥ 64
    · obtain ⟨s, hs, h1⟩ := ih (i + 1) (by omega) (v.set (i : Int).toNat ((Int.tmod (wrap64 (Int.tdiv kind 8)) 3) % 256)) (by rw [List.length_set]; exact hvl)
      refine ⟨s, hs, Ev.step (fun k => ?_) h1⟩
      simp only [vitrinelaw22_small.l0]
      rw [if_pos (by omega), if_pos (by omega), Option.bind_some, hv, if_pos hc, hw]
    · obtain ⟨s, hs, h1⟩ := ih (i + 1) (by omega) v hvl
      refine ⟨s, hs, Ev.step (fun k => ?_) h1⟩
      simp only [vitrinelaw22_small.l0]
      rw [if_pos (by omega), if_pos (by omega), Option.bind_some, hv, if_neg hc, hw]
theorem small_ev (kind : Int) : ∃ s : ByteArray, s.size = 72 ∧ Ev (fun k => vitrinelaw22_small.f k kind) ((1 : Int), (9 : Int), s) := by
  obtain ⟨s, hs, h1⟩ := small_loop kind 72 0 (by omega) (List.replicate 72 0) (by rw [List.length_replicate])
  refine ⟨s, hs, Ev.congr (fun k => ?_) h1⟩
  unfold vitrinelaw22_small.f
  rw [if_pos (by omega)]
  rfl
theorem same_nil (a0 a1 a2 a3 : Int) (a4 : ByteArray) (a5 a6 : Int) (a7 : ByteArray) : Ev (fun k => vitrineref20_Same.f k a0 a1 a2 a3 a4 a5 a6 a7 [] a0 a1 a2 a3 a4 a5 a6 a7 []) true := by
  have e : ∀ k, vitrineref20_Same.f k a0 a1 a2 a3 a4 a5 a6 a7 [] a0 a1 a2 a3 a4 a5 a6 a7 [] = vitrineref20_Same.j0 k false a0 a1 a2 a3 a4 a5 a6 a7 [] a0 a1 a2 a3 a4 a5 a6 a7 [] := by
    intro k
    unfold vitrineref20_Same.f
    rw [if_pos rfl, if_pos rfl, if_pos rfl, if_pos rfl, if_pos rfl, if_neg (by simp), if_pos rfl]
    rfl
  refine Ev.congr e (Ev.step (f := fun k => vitrineref20_Same.l0 k 0 a0 a1 a2 a3 a4 a5 a6 a7 [] a0 a1 a2 a3 a4 a5 a6 a7 []) (fun k => ?_) (Ev.step (f := fun _ => some true) (fun k => ?_) (Ev.now _)))
  · simp only [vitrineref20_Same.j0]
    rw [if_neg (by decide)]
  · simp only [vitrineref20_Same.l0]
    rw [if_neg (by decide)]
theorem same_loop (L : List S26) (hL : L.length ≤ 1000) (h7 : ∀ i : Nat, i < L.length → (rd_T26 L (i : Int)).f7 = []) : ∀ d i : Nat, i + d = L.length → Ev (fun k => vitrinelaw22_same.l0 k L L (i : Int)) true := by
  intro d
  induction d with
  | zero =>
    intro i hi
    refine Ev.step (f := fun _ => some true) (fun k => ?_) (Ev.now _)
    simp only [vitrinelaw22_same.l0]
    rw [if_neg (by omega)]
  | succ d ih =>
    intro i hi
    have hw : wrap64 ((i : Int) + 1) = ((i + 1 : Nat) : Int) := w_succ (by omega)
    obtain ⟨m, hm⟩ : ∃ m, rd_T26 L (i : Int) = m := ⟨_, rfl⟩
    have h7' := h7 i (by omega)
    rw [hm] at h7'
    refine Ev.step (f := fun k => (vitrineref20_Same.f k m.f0 m.f1 m.f2 m.f3 m.f4 m.f5.f0 m.f5.f1 m.f6 [] m.f0 m.f1 m.f2 m.f3 m.f4 m.f5.f0 m.f5.f1 m.f6 []).bind fun t => (if t = true then (vitrinelaw22_same.l0 k L L ((i + 1 : Nat) : Int)) else (some false))) (fun k => ?_) ?_
    · simp only [vitrinelaw22_same.l0]
      rw [if_pos (by omega), if_pos (by omega), if_pos (by omega), hm, h7', hw]
    · exact Ev.bind (same_nil _ _ _ _ _ _ _ _) (ev_if rfl (ih (i + 1) (by omega)))
theorem same_rs (name : ByteArray) : Ev (fun k => rs_same k name) true := by
  have h7 : ∀ i : Nat, i < (rsL name).length → (rd_T26 (rsL name) (i : Int)).f7 = [] := by
    intro i hi
    have h5 : i < 5 := hi
    obtain rfl | rfl | rfl | rfl | rfl : i = 0 ∨ i = 1 ∨ i = 2 ∨ i = 3 ∨ i = 4 := by omega
    all_goals rfl
  have h1 := same_loop (rsL name) (by show 5 ≤ 1000; omega) h7 5 0 rfl
  refine Ev.bind (f := fun _ x => (if x = true then some true else none)) (Ev.congr (fun k => ?_) h1) (ev_if rfl (Ev.now _))
  unfold vitrinelaw22_same.f
  rw [if_pos rfl]
  rfl
theorem ClientResend : ∀ (a0 : ByteArray) (a1 : Int), (a0.size ≤ 140737488351232) → ((Lit.int .i64 a1).wf = true) → ∃ k, vitrinelaw22_ClientResend.f k a0 a1 = some true := by
  intro name kind hn _
  refine Ev.rounds ?_
  unfold vitrinelaw22_ClientResend.f
  by_cases hl : 1000 < name.size
  · exact ev_if hl (Ev.now _)
  · obtain ⟨s, hs, hsm⟩ := small_ev kind
    refine Ev.congr (fun k => if_neg hl) ?_
    refine Ev.bind hsm (Ev.bind (Man_ev 1 9 s) (Ev.bind (Cut_ev 1 9 s) (Ev.bind (Name_ev name (by omega)) ?_)))
    have hc : chk 1 9 s = 0 := by
      unfold chk
      have h1 : rgt 1 9 16 6 0 = 0 := by rw [rgt_iff]; omega
      rw [if_pos h1, if_pos (by rw [hs]; rfl)]
    have hm : manV 1 9 s = (manL 1 9 8 9 s 2, 0) := by unfold manV; rw [if_pos hc]; rfl
    have hp : cutV 1 9 s = (pieces 8 9 s 2, 0) := by unfold cutV; rw [if_pos hc]; rfl
    rw [hm, hp]
    by_cases hz : namV name = 0
    · refine ev_if hz ?_
      by_cases hk : 0 < kind
      · obtain ⟨v, hv⟩ := j_join s hs
        refine ev_if hk (Ev.bind hv (ev_if ⟨rfl, ?_⟩ (same_rs name)))
        show (2 : Nat) ≤ 1000000
        omega
      · exact Ev.congr (fun k => if_neg hk) (same_rs name)
    · exact Ev.congr (fun k => if_neg hz) (Ev.now _)

end Go.Proofs.Ytdbiokmlgniobaa.Pure
