/- BandsManifest, plain: the manifest of a raster is the document's. No condition. -/
import Derived.Test.YtbonmhgihedjpaaYPL15x2
import Derived.Test.YtbonmhgihedjpaaYPL15x3
import Derived.Test.YtbonmhgihedjpaaYPL15x4
import Derived.Test.YtbonmhgihedjpaaYPL15x5
import Derived.Test.YtbonmhgihedjpaaYPL15x6
import Derived.Test.YtbonmhgihedjpaaYPL15x7
import Derived.Test.YtbonmhgihedjpaaYPL15x9
import Derived.Test.YtbonmhgihedjpaaYPL15x10
import Derived.Test.YtbonmhgihedjpaaYPL15x11
import Derived.Test.YtbonmhgihedjpaaYPL15x12
import Derived.Test.YtbonmhgihedjpaaYPL15x13
import Derived.Test.YtbonmhgihedjpaaYPL15x14
import Derived.Test.YtbonmhgihedjpaaYPL15x15
import Derived.Test.YtbonmhgihedjpaaYPL15x16
import Derived.Test.YtbonmhgihedjpaaYPL15x21
import Derived.Test.YtbonmhgihedjpaaYPL15x24
import Derived.Test.YtbonmhgihedjpaaYWMore
import Derived.Laws.Strings
namespace Go.Proofs.Ytbonmhgihedjpaa.Pure
open Go.RowKit Go.Proofs.YtbonmhgihedjpaaW.PrintWords Go.Proofs.YtbonmhgihedjpaaW.PrintLast Go.Proofs.YtbonmhgihedjpaaW.PrintMore Go.Proofs.Ytbonmhgihedjpaa.PL15
set_option linter.unusedVariables false
set_option linter.unusedSimpArgs false
theorem w64 {x : Int} (h1 : -9223372036854775808 ≤ x) (h2 : x ≤ 9223372036854775807) : wrap64 x = x := by
  unfold wrap64
  omega
/-- A list of bytes. -/
def Byt (xs : List Int) : Prop := ∀ x ∈ xs, 0 ≤ x ∧ x ≤ 255
theorem bytesOf_str {xs : List Int} (h : Byt xs) : bytesOf (strOfNums xs) = xs := by
  unfold bytesOf strOfNums
  simp only [List.map_map, List.toList_toArray]
  conv => rhs; rw [← List.map_id xs]
  refine List.map_congr_left fun x hx => ?_
  have := h x hx
  simp only [Function.comp, UInt8.toNat_ofNat', id]
  omega
theorem toList_data (s : ByteArray) : s.toList = s.data.toList := by
  exact ByteArray.toList_eq s
theorem ev_true {g : Nat → Option Bool} (hm : ∀ k, LeO (g k) (g (k + 1))) (k : Nat) (h : g k = some true) : Ev g true := Ev.of hm h
theorem ev_same {α : Type} {g : Nat → Option α} {r r' : α} (h : Ev g r) (e : r = r') : Ev g r' := e ▸ h
/-- A last step that is the callee's answer. -/
theorem ev_id {α : Type} {g : Nat → Option α} {r : α} (h : Ev g r) : Ev (fun n => (g n).bind fun t => some t) r := Ev.bind (f := fun _ t => some t) h (Ev.now r)
theorem str_size (xs : List Int) : (strOfNums xs).size = xs.length := by
  unfold strOfNums
  simp [ByteArray.size]
/-- The place of a number in a list, from place i on; -1: none. -/
def idx : List Int → Int → Nat → Int
  | [], _, _ => -1
  | x :: xs, v, i => if v = x then (i : Int) else idx xs v (i + 1)
theorem index_loop (l : List Int) (v : Int) (hl : l.length ≤ 4611686018427387904) : ∀ d i : Nat, i + d = l.length → Ev (fun k => slices_Index_int_int.l0 k l v (l.length : Int) (i : Int)) (idx (l.drop i) v i) := by
  intro d
  induction d with
  | zero =>
    intro i hi
    have e : l.drop i = [] := List.drop_of_length_le (by omega)
    rw [e]
    refine Ev.step (f := fun _ => some (-1)) (fun k => ?_) (Ev.now _)
    simp only [slices_Index_int_int.l0]
    rw [if_neg (by omega)]
  | succ d ih =>
    intro i hi
    have hlt : i < l.length := by omega
    have w1 : wrap64 ((i : Int) + 1) = ((i + 1 : Nat) : Int) := by rw [w64 (by omega) (by omega)]; rfl
    have hr : rd l (i : Int) = l[i] := by
      unfold rd
      rw [List.getD_eq_getElem?_getD, Int.toNat_natCast, List.getElem?_eq_getElem hlt]
      rfl
    rw [List.drop_eq_getElem_cons hlt]
    unfold idx
    by_cases h : v = l[i]
    · rw [if_pos h]
      refine Ev.step (f := fun _ => some (i : Int)) (fun k => ?_) (Ev.now _)
      simp only [slices_Index_int_int.l0]
      rw [if_pos (by omega), if_pos (by omega), if_pos (by omega), hr, if_pos h]
    · rw [if_neg h]
      refine Ev.step (fun k => ?_) (ih (i + 1) (by omega))
      simp only [slices_Index_int_int.l0]
      rw [if_pos (by omega), if_pos (by omega), if_pos (by omega), hr, if_neg h, w1]
theorem index_ev (l : List Int) (v : Int) (hl : l.length ≤ 4611686018427387904) : Ev (fun k => slices_Index_int_int.f k l v) (idx l v 0) := by
  unfold slices_Index_int_int.f
  exact index_loop l v hl l.length 0 (by omega)
theorem contains_ev (l : List Int) (v : Int) (hl : l.length ≤ 4611686018427387904) : Ev (fun k => slices_Contains_int_int.f k l v) (decide (idx l v 0 ≥ 0)) := by
  unfold slices_Contains_int_int.f
  exact Ev.bind (index_ev l v hl) (Ev.now _)
/-- The depths of a colour. -/
def dep (c d : Int) : Prop := (c = 0 ∧ (d = 1 ∨ d = 2 ∨ d = 4 ∨ d = 8 ∨ d = 16)) ∨ (c = 3 ∧ (d = 1 ∨ d = 2 ∨ d = 4 ∨ d = 8)) ∨ ((c = 2 ∨ c = 4 ∨ c = 6) ∧ (d = 8 ∨ d = 16))
instance (c d : Int) : Decidable (dep c d) := by unfold dep; infer_instance
/-- Which heads may be: 0; else what is wrong. -/
def rgt (W H D C L : Int) : Int := if 1 ≤ W ∧ W ≤ 2147483647 ∧ 1 ≤ H ∧ H ≤ 2147483647 ∧ dep C D ∧ (L = 0 ∨ L = 1) then (if W > 1024 ∨ H > 1024 ∨ W * H > 4096 then 5 else 0) else 24
theorem rgt_0 {W H D C L : Int} (h : rgt W H D C L = 0) : 1 ≤ W ∧ W ≤ 1024 ∧ 1 ≤ H ∧ H ≤ 1024 ∧ W * H ≤ 4096 ∧ dep C D ∧ (L = 0 ∨ L = 1) := by
  unfold rgt at h
  by_cases hc : 1 ≤ W ∧ W ≤ 2147483647 ∧ 1 ≤ H ∧ H ≤ 2147483647 ∧ dep C D ∧ (L = 0 ∨ L = 1)
  · rw [if_pos hc] at h
    by_cases h2 : W > 1024 ∨ H > 1024 ∨ W * H > 4096
    · rw [if_pos h2] at h; omega
    · obtain ⟨a, _, b, _, c, d⟩ := hc
      exact ⟨a, by omega, b, by omega, by omega, c, d⟩
  · rw [if_neg hc] at h; omega
theorem rgt_area {W H : Int} (h1 : 1 ≤ W) (h2 : W ≤ 2147483647) (h3 : 1 ≤ H) (h4 : H ≤ 2147483647) : wrap64 (W * H) = W * H := by
  have h5 : W * H ≤ 2147483647 * 2147483647 := Int.mul_le_mul h2 h4 (by omega) (by omega)
  have h6 : 0 ≤ W * H := Int.mul_nonneg (by omega) (by omega)
  exact w64 (by omega) (by omega)
theorem andNot1 {x : Int} (h1 : -9223372036854775808 ≤ x) (h2 : x ≤ 9223372036854775807) : (Go.bits .andNot .i64 x 1 != 0) = !decide (x = 0 ∨ x = 1) := by
  by_cases h0 : x = 0
  · subst h0; decide
  · by_cases h3 : x = 1
    · subst h3; decide
    · rw [decide_eq_false (by omega)]
      refine bne_iff_ne.mpr fun hz => ?_
      have e : Go.bits .andNot .i64 x 1 = IntKind.i64.wrap ((BitVec.ofInt 64 x &&& ~~~ BitVec.ofInt 64 1).toNat : Int) := rfl
      rw [e, IntKind.wrap_i64] at hz
      generalize hb : BitVec.ofInt 64 x = b at hz
      have hlt := (b &&& ~~~ BitVec.ofInt 64 1).isLt
      have hn : (b &&& ~~~ BitVec.ofInt 64 1).toNat = 0 := by omega
      have hv : b &&& ~~~ BitVec.ofInt 64 1 = 0#64 := BitVec.eq_of_toNat_eq hn
      have hs : b >>> 1 = 0#64 := by
        apply BitVec.eq_of_getLsbD_eq
        intro i hi
        rw [BitVec.getLsbD_ushiftRight]
        by_cases h63 : 1 + i < 64
        · have h4 : (b &&& ~~~ BitVec.ofInt 64 1).getLsbD (1 + i) = false := by rw [hv]; simp
          have h5 : (BitVec.ofInt 64 1).getLsbD (1 + i) = false := by
            show (1#64).getLsbD (1 + i) = false
            rw [BitVec.getLsbD_one]
            simp
          rw [BitVec.getLsbD_and, BitVec.getLsbD_not, h5] at h4
          simp only [h63, decide_true, Bool.not_false, Bool.and_true] at h4
          rw [h4]
          simp
        · simp [BitVec.getLsbD_of_ge b (1 + i) (by omega)]
      have h6 : (b >>> 1).toNat = 0 := by rw [hs]; rfl
      rw [BitVec.toNat_ushiftRight, Nat.shiftRight_eq_div_pow] at h6
      have h7 : b.toNat = (x % 18446744073709551616).toNat := by rw [← hb, BitVec.toNat_ofInt]; rfl
      omega
theorem side_f (n : Int) : head_side.f n = some (decide (1 ≤ n ∧ n ≤ 2147483647)) := by
  unfold head_side.f
  by_cases h : n ≥ 1
  · rw [if_pos h]
    congr 1
    by_cases h2 : n ≤ 2147483647
    · rw [decide_eq_true h2, decide_eq_true ⟨h, h2⟩]
    · rw [decide_eq_false h2, decide_eq_false (by omega)]
  · rw [if_neg h, decide_eq_false (by omega)]
/-- The list of a colour's depths. -/
def deps (c : Int) : List Int := if c = 0 then [1, 2, 4, 8, 16] else if c = 3 then [1, 2, 4, 8] else if c = 2 ∨ c = 4 ∨ c = 6 then [8, 16] else []
theorem depths_ev (c : Int) : Ev (fun k => head_depths.f k c) (deps c) := by
  have hj : ∀ b : Bool, Ev (fun k => head_depths.j0 k b) (if b = true then [8, 16] else []) := by
    intro b
    refine Ev.step (f := fun _ => some (if b = true then [8, 16] else [])) (fun k => ?_) (Ev.now _)
    simp only [head_depths.j0]
    cases b <;> rfl
  unfold head_depths.f deps
  by_cases h0 : c = 0
  · simp only [if_pos h0]; exact Ev.now _
  · simp only [if_neg h0]
    by_cases h3 : c = 3
    · simp only [if_pos h3]; exact Ev.now _
    · simp only [if_neg h3]
      by_cases h2 : c = 2
      · subst h2; exact ev_same (hj _) (by decide)
      · simp only [if_neg h2]
        by_cases h4 : c = 4
        · subst h4; exact ev_same (hj _) (by decide)
        · simp only [if_neg h4]
          refine ev_same (hj _) ?_
          by_cases h6 : c = 6
          · subst h6; decide
          · rw [if_neg (by simpa using h6), if_neg (by omega)]
theorem deps_has (c d : Int) : decide (idx (deps c) d 0 ≥ 0) = decide (dep c d) := by
  have key : ∀ (l : List Int) (i : Nat), (idx l d i ≥ 0 ↔ d ∈ l) := by
    intro l
    induction l with
    | nil => intro i; simp [idx]
    | cons x xs ih =>
      intro i
      unfold idx
      by_cases h : d = x
      · rw [if_pos h]; simp [h]
      · rw [if_neg h, ih]; simp [h]
  have h := key (deps c) 0
  have h2 : d ∈ deps c ↔ dep c d := by
    unfold deps dep
    by_cases h0 : c = 0
    · rw [if_pos h0]; simp; omega
    · rw [if_neg h0]
      by_cases h3 : c = 3
      · rw [if_pos h3]; simp; omega
      · rw [if_neg h3]
        by_cases h4 : c = 2 ∨ c = 4 ∨ c = 6
        · rw [if_pos h4]; simp; omega
        · rw [if_neg h4]; simp; omega
  rw [decide_eq_decide]
  exact h.trans h2
theorem Right_ev (W H D C L : Int) (hL : -9223372036854775808 ≤ L ∧ L ≤ 9223372036854775807) : Ev (fun k => head_Right.f k W H D C L) (rgt W H D C L) := by
  have hj1 : Ev (fun k => head_Right.j0 k true W H D C L) 24 := by
    refine Ev.step (f := fun _ => some 24) (fun k => ?_) (Ev.now _)
    simp only [head_Right.j0]
    rw [if_pos trivial]
  have hj0 : 1 ≤ W → W ≤ 2147483647 → 1 ≤ H → H ≤ 2147483647 → Ev (fun k => head_Right.j0 k false W H D C L) (if W > 1024 ∨ H > 1024 ∨ W * H > 4096 then 5 else 0) := by
    intro h1 h2 h3 h4
    refine Ev.step (f := fun _ => some (if W > 1024 ∨ H > 1024 ∨ W * H > 4096 then 5 else 0)) (fun k => ?_) (Ev.now _)
    simp only [head_Right.j0]
    rw [if_neg (by decide), rgt_area h1 h2 h3 h4]
    by_cases h5 : mx W H > 1024
    · rw [if_pos h5, if_pos (by unfold mx at h5; omega)]
    · rw [if_neg h5]
      by_cases h6 : W * H > 4096
      · rw [if_pos h6, if_pos (.inr (.inr h6))]
      · rw [if_neg h6, if_neg (by unfold mx at h5; omega)]
  unfold head_Right.f
  simp only [side_f, Option.bind_some]
  unfold rgt
  by_cases hW : 1 ≤ W ∧ W ≤ 2147483647
  · rw [decide_eq_true hW]
    simp only [if_true]
    by_cases hH : 1 ≤ H ∧ H ≤ 2147483647
    · rw [decide_eq_true hH]
      simp only [if_true]
      refine Ev.bind (depths_ev C) ?_
      refine Ev.bind (contains_ev (deps C) D (by unfold deps; split; simp; split; simp; split <;> simp)) ?_
      rw [deps_has]
      by_cases hd : dep C D
      · rw [decide_eq_true hd]
        simp only [if_true]
        rw [andNot1 hL.1 hL.2]
        by_cases hl : L = 0 ∨ L = 1
        · rw [decide_eq_true hl, if_pos ⟨hW.1, hW.2, hH.1, hH.2, hd, hl⟩]
          exact hj0 hW.1 hW.2 hH.1 hH.2
        · rw [decide_eq_false hl, if_neg (fun h => hl h.2.2.2.2.2)]
          exact hj1
      · rw [decide_eq_false hd, if_neg (fun h => hd h.2.2.2.2.1)]
        simp only [Bool.false_eq_true, if_false]
        exact hj1
    · rw [decide_eq_false hH, if_neg (fun h => hH ⟨h.2.2.1, h.2.2.2.1⟩)]
      simp only [Bool.false_eq_true, if_false]
      exact hj1
  · rw [decide_eq_false hW, if_neg (fun h => hW ⟨h.1, h.2.1⟩)]
    simp only [Bool.false_eq_true, if_false]
    exact hj1
theorem rRight_ev (W H D C L : Int) : Ev (fun k => vitrineref08_Right.f k W H D C L) (rgt W H D C L) := by
  have h4 : ∀ b : Bool, Ev (fun k => vitrineref08_Right.j4 k b) (if b = true then 5 else 0) := by
    intro b
    refine Ev.step (f := fun _ => some (if b = true then 5 else 0)) (fun k => ?_) (Ev.now _)
    simp only [vitrineref08_Right.j4]
    cases b <;> rfl
  have h3 : ∀ b : Bool, (b = false → 1 ≤ W ∧ W ≤ 2147483647 ∧ 1 ≤ H ∧ H ≤ 2147483647) → Ev (fun k => vitrineref08_Right.j3 k b W H D C L) (if b = true then 24 else if W > 1024 ∨ H > 1024 ∨ W * H > 4096 then 5 else 0) := by
    intro b hb
    cases b with
    | true =>
      refine Ev.step (f := fun _ => some 24) (fun k => ?_) (Ev.now _)
      simp only [vitrineref08_Right.j3, if_true]
    | false =>
      obtain ⟨a1, a2, a3, a4⟩ := hb rfl
      simp only [Bool.false_eq_true, if_false]
      by_cases hw : W > 1024
      · refine Ev.step (fun k => ?_) (ev_same (h4 true) (by rw [if_pos rfl, if_pos (.inl hw)]))
        simp only [vitrineref08_Right.j3]
        rw [if_neg (by decide), if_pos hw]
      · by_cases hh : H > 1024
        · refine Ev.step (fun k => ?_) (ev_same (h4 true) (by rw [if_pos rfl, if_pos (.inr (.inl hh))]))
          simp only [vitrineref08_Right.j3]
          rw [if_neg (by decide), if_neg hw, if_pos hh]
        · refine Ev.step (fun k => ?_) (ev_same (h4 (decide (W * H > 4096))) ?_)
          · simp only [vitrineref08_Right.j3]
            rw [if_neg (by decide), if_neg hw, if_neg hh, rgt_area a1 a2 a3 a4]
          · by_cases hz : W * H > 4096
            · rw [decide_eq_true hz, if_pos rfl, if_pos (.inr (.inr hz))]
            · rw [decide_eq_false hz, if_neg (by decide), if_neg (by omega)]
  have h2 : ∀ b : Bool, (b = true ↔ dep C D) → Ev (fun k => vitrineref08_Right.j2 k b W H D C L) (rgt W H D C L) := by
    intro b hb
    have bad : ¬ (1 ≤ W ∧ W ≤ 2147483647 ∧ 1 ≤ H ∧ H ≤ 2147483647 ∧ dep C D ∧ (L = 0 ∨ L = 1)) → Ev (fun k => vitrineref08_Right.j3 k true W H D C L) (rgt W H D C L) := fun hn =>
      ev_same (h3 true (fun e => by cases e)) (by unfold rgt; rw [if_neg hn, if_pos rfl])
    by_cases c1 : W < 1
    · refine Ev.step (fun k => ?_) (bad (by omega))
      simp only [vitrineref08_Right.j2]; rw [if_pos c1]
    · by_cases c2 : W > 2147483647
      · refine Ev.step (fun k => ?_) (bad (by omega))
        simp only [vitrineref08_Right.j2]; rw [if_neg c1, if_pos c2]
      · by_cases c3 : H < 1
        · refine Ev.step (fun k => ?_) (bad (by omega))
          simp only [vitrineref08_Right.j2]; rw [if_neg c1, if_neg c2, if_pos c3]
        · by_cases c4 : H > 2147483647
          · refine Ev.step (fun k => ?_) (bad (by omega))
            simp only [vitrineref08_Right.j2]; rw [if_neg c1, if_neg c2, if_neg c3, if_pos c4]
          · by_cases c5 : b = true
            · by_cases c6 : L = 0
              · refine Ev.step (fun k => ?_) (ev_same (h3 false (fun _ => by omega)) ?_)
                · simp only [vitrineref08_Right.j2]; rw [if_neg c1, if_neg c2, if_neg c3, if_neg c4, if_pos c5, if_pos c6]
                · unfold rgt; rw [if_neg (by decide), if_pos (show (1 ≤ W ∧ W ≤ 2147483647 ∧ 1 ≤ H ∧ H ≤ 2147483647 ∧ dep C D ∧ (L = 0 ∨ L = 1)) from ⟨by omega, by omega, by omega, by omega, hb.1 c5, .inl c6⟩)]
              · refine Ev.step (fun k => ?_) (ev_same (h3 (L != 1) (fun _ => by omega)) ?_)
                · simp only [vitrineref08_Right.j2]; rw [if_neg c1, if_neg c2, if_neg c3, if_neg c4, if_pos c5, if_neg c6]
                · unfold rgt
                  by_cases c7 : L = 1
                  · rw [if_neg (by simp [c7]), if_pos (show (1 ≤ W ∧ W ≤ 2147483647 ∧ 1 ≤ H ∧ H ≤ 2147483647 ∧ dep C D ∧ (L = 0 ∨ L = 1)) from ⟨by omega, by omega, by omega, by omega, hb.1 c5, .inr c7⟩)]
                  · rw [if_pos (by simpa using c7), if_neg (by omega)]
            · refine Ev.step (fun k => ?_) (bad (fun h => c5 (hb.2 h.2.2.2.2.1)))
              simp only [vitrineref08_Right.j2]; rw [if_neg c1, if_neg c2, if_neg c3, if_neg c4, if_neg c5]
  have h1 : ∀ b : Bool, C ≠ 0 → C ≠ 3 → (b = true ↔ (C = 2 ∨ C = 4 ∨ C = 6)) → Ev (fun k => vitrineref08_Right.j1 k D false b W H D C L) (rgt W H D C L) := by
    intro b n0 n3 hb
    by_cases c1 : b = true
    · have hc := hb.1 c1
      by_cases c2 : D = 8
      · refine Ev.step (fun k => ?_) (h2 true ⟨fun _ => Or.inr (Or.inr ⟨hc, Or.inl c2⟩), fun _ => rfl⟩)
        simp only [vitrineref08_Right.j1]; rw [if_pos c1, if_pos c2]
      · refine Ev.step (fun k => ?_) (h2 (D == 16) ?_)
        · simp only [vitrineref08_Right.j1]; rw [if_pos c1, if_neg c2]
        · unfold dep; rw [beq_iff_eq]; omega
    · refine Ev.step (fun k => ?_) (h2 false ?_)
      · simp only [vitrineref08_Right.j1]; rw [if_neg c1]
      · refine ⟨fun e => (by cases e), fun h => ?_⟩
        exact absurd (hb.2 (by unfold dep at h; omega)) c1
  have h0 : ∀ b : Bool, (b = true ↔ (D = 1 ∨ D = 2 ∨ D = 4)) → Ev (fun k => vitrineref08_Right.j0 k D b W H D C L) (rgt W H D C L) := by
    intro b hb
    by_cases c0 : C = 0
    · by_cases c1 : b = true
      · have := hb.1 c1
        refine Ev.step (fun k => ?_) (h2 true ⟨fun _ => .inl ⟨c0, by omega⟩, fun _ => rfl⟩)
        simp only [vitrineref08_Right.j0]; rw [if_pos c0, if_pos c1]
      · have hnb : ¬ (D = 1 ∨ D = 2 ∨ D = 4) := fun h => c1 (hb.2 h)
        by_cases c2 : D = 8
        · refine Ev.step (fun k => ?_) (h2 true ⟨fun _ => .inl ⟨c0, by omega⟩, fun _ => rfl⟩)
          simp only [vitrineref08_Right.j0]; rw [if_pos c0, if_neg c1, if_pos c2]
        · refine Ev.step (fun k => ?_) (h2 (D == 16) ?_)
          · simp only [vitrineref08_Right.j0]; rw [if_pos c0, if_neg c1, if_neg c2]
          · unfold dep; rw [beq_iff_eq]; omega
    · by_cases c3 : C = 3
      · by_cases c1 : b = true
        · have := hb.1 c1
          refine Ev.step (fun k => ?_) (h2 true ⟨fun _ => .inr (.inl ⟨c3, by omega⟩), fun _ => rfl⟩)
          simp only [vitrineref08_Right.j0]; rw [if_neg c0, if_pos c3, if_pos c1]
        · have hnb : ¬ (D = 1 ∨ D = 2 ∨ D = 4) := fun h => c1 (hb.2 h)
          refine Ev.step (fun k => ?_) (h2 (D == 8) ?_)
          · simp only [vitrineref08_Right.j0]; rw [if_neg c0, if_pos c3, if_neg c1]
          · unfold dep; rw [beq_iff_eq]; omega
      · by_cases c2 : C = 2
        · refine Ev.step (fun k => ?_) (h1 (C == 2) c0 c3 (by rw [beq_iff_eq]; omega))
          simp only [vitrineref08_Right.j0]; rw [if_neg c0, if_neg c3, if_pos c2]
        · by_cases c4 : C = 4
          · refine Ev.step (fun k => ?_) (h1 (C == 4) c0 c3 (by rw [beq_iff_eq]; omega))
            simp only [vitrineref08_Right.j0]; rw [if_neg c0, if_neg c3, if_neg c2, if_pos c4]
          · refine Ev.step (fun k => ?_) (h1 (C == 6) c0 c3 (by rw [beq_iff_eq]; omega))
            simp only [vitrineref08_Right.j0]; rw [if_neg c0, if_neg c3, if_neg c2, if_neg c4]
  unfold vitrineref08_Right.f
  by_cases d1 : D = 1
  · simp only [if_pos d1]; exact h0 true ⟨fun _ => .inl d1, fun _ => rfl⟩
  · simp only [if_neg d1]
    by_cases d2 : D = 2
    · simp only [if_pos d2]; exact h0 true ⟨fun _ => .inr (.inl d2), fun _ => rfl⟩
    · simp only [if_neg d2]; exact h0 (D == 4) (by rw [beq_iff_eq]; omega)
theorem wrapi64 {x : Int} (h1 : -9223372036854775808 ≤ x) (h2 : x ≤ 9223372036854775807) : IntKind.i64.wrap x = x := by
  rw [IntKind.wrap_i64]
  omega
theorem w_succ {i : Nat} (h : i ≤ 4611686018427387904) : wrap64 ((i : Int) + 1) = ((i + 1 : Nat) : Int) := by rw [w64 (by omega) (by omega)]; omega
theorem toList_nil (s : ByteArray) : s.toList = [] ↔ s.size = 0 := by
  rw [toList_data, ← data_length, List.length_eq_zero_iff]
theorem toList_eq {s t : ByteArray} : s.toList = t.toList ↔ s = t := by
  rw [toList_data, toList_data]
  constructor
  · intro h
    cases s; cases t
    simp only [ByteArray.mk.injEq]
    exact Array.toList_inj.1 h
  · intro h; rw [h]
def be4 (n : Int) : ByteArray := strOfNums [(n / 16777216) % 256, (n / 65536) % 256, (n / 256) % 256, n % 256]
theorem be4_size (n : Int) : (be4 n).size = 4 := by unfold be4; rw [strOfNums_size]; rfl
theorem pad_l0 (s : ByteArray) (hs : s.size ≤ 1099511627776) (n3 : Int) (r : ByteArray) : ∀ (d : Nat) (xs : List Int), xs.length + d ≤ 1000 → d < 64 → (s.size + xs.length + d) % 64 = 56 → Ev (fun k => sha_pad.l1 k s n3 (xs ++ List.replicate d 0) 56) r → Ev (fun k => sha_pad.l0 k s n3 xs) r := by
  intro d
  induction d with
  | zero =>
    intro xs hx hd hm h
    refine Ev.step (f := fun k => sha_pad.l1 k s n3 xs 56) (fun k => ?_) (by simpa using h)
    simp only [sha_pad.l0]
    rw [w64 (by omega) (by omega), Int.tmod_eq_emod_of_nonneg (by omega), if_pos (by omega)]
  | succ d ih =>
    intro xs hx hd hm h
    refine Ev.step (f := fun k => sha_pad.l0 k s n3 (xs ++ [0])) (fun k => ?_) (ih (xs ++ [0]) (by simp; omega) (by omega) (by simp; omega) ?_)
    · simp only [sha_pad.l0]
      rw [w64 (by omega) (by omega), Int.tmod_eq_emod_of_nonneg (by omega), if_neg (by omega), if_pos (by omega)]
    · rw [List.append_assoc]
      exact h
def padT (n3 : Int) : Nat → List Int
  | 0 => []
  | j + 1 => (shr .u64 n3 (8 * (j : Int))) % 256 :: padT n3 j
theorem padT_len (n3 : Int) : ∀ j, (padT n3 j).length = j
  | 0 => rfl
  | j + 1 => by simp [padT, padT_len n3 j]
theorem pad_l1 (s : ByteArray) (hs : s.size ≤ 1099511627776) (n3 : Int) : ∀ (j : Nat) (xs : List Int), j ≤ 8 → xs.length + j ≤ 2000 → Ev (fun k => sha_pad.l1 k s n3 xs (8 * (j : Int) - 8)) (s ++ strOfNums (xs ++ padT n3 j)) := by
  intro j
  induction j with
  | zero =>
    intro xs hj hx
    refine ⟨1, fun k hk => ?_⟩
    obtain ⟨m, rfl⟩ : ∃ m, k = m + 1 := ⟨k - 1, by omega⟩
    simp only [sha_pad.l1]
    rw [if_neg (by omega), if_pos (by rw [str_size]; omega), padT, List.append_nil]
  | succ j ih =>
    intro xs hj hx
    refine Ev.step (f := fun k => sha_pad.l1 k s n3 (xs ++ [(shr .u64 n3 (8 * (j : Int))) % 256]) (8 * (j : Int) - 8)) (fun k => ?_) ?_
    · simp only [sha_pad.l1]
      rw [show (8 * ((j + 1 : Nat) : Int) - 8) = 8 * (j : Int) by omega, if_pos (by omega), if_pos (by omega), if_pos (by omega), w64 (by omega) (by omega)]
    · have := ih (xs ++ [(shr .u64 n3 (8 * (j : Int))) % 256]) (by omega) (by simp; omega)
      rw [List.append_assoc] at this
      exact this
def padZ (n : Nat) : Nat := (119 - n % 64) % 64
def padAll (s : ByteArray) : ByteArray := s ++ strOfNums ([128] ++ List.replicate (padZ s.size) 0 ++ padT (IntKind.u64.wrap ((IntKind.u64.wrap ((s.size : Int))) * 8)) 8)
theorem padAll_size (s : ByteArray) : (padAll s).size = s.size + 9 + padZ s.size := by
  unfold padAll
  rw [ByteArray.size_append, str_size]
  simp [padT_len]
  omega
theorem pad_ev (s : ByteArray) (hs : s.size ≤ 1099511627776) : Ev (fun k => sha_pad.f k s) (padAll s) := by
  refine pad_l0 s hs _ _ (padZ s.size) [128] (by simp; unfold padZ; omega) (by unfold padZ; omega) (by simp; unfold padZ; omega) ?_
  exact pad_l1 s hs _ 8 _ (by omega) (by simp; unfold padZ; omega)
def shaS (s : ByteArray) : ByteArray := strOfNums (sha_out (sha_run (padAll s) ((padAll s).size / 64)) 8)
theorem sum_ev (s : ByteArray) (hs : s.size ≤ 1099511627776) : Ev (fun k => sha_Sum.f k s) (shaS s) := by
  refine Ev.bind (f := fun _ all => if all.size % 64 = 0 ∧ all.size < 4611686018427387904 then some (strOfNums (sha_out (sha_run all (all.size / 64)) 8)) else none) (pad_ev s hs) ?_
  refine ⟨0, fun k _ => ?_⟩
  have h := padAll_size s
  rw [if_pos (by rw [h]; unfold padZ; omega)]
  rfl
theorem shaS_size (s : ByteArray) : (shaS s).size = 32 := by
  unfold shaS
  rw [str_size, sha_out_len]
def mb (h : Nat) : Nat := (h + 7) / 8
theorem mb_le {h : Nat} (h4 : h ≤ 1024) : mb h ≤ 8796093022208 := by unfold mb; omega
theorem big_f (n : Int) : bands_big.f n = some (be4 n) := rfl
/-- What is wrong with a raster: 0: nothing. -/
def chk (W H : Int) (s : ByteArray) : Int := if rgt W H 16 6 0 = 0 then (if (s.size : Int) = 8 * W * H then 0 else 24) else rgt W H 16 6 0
theorem chk_wrap {W H : Int} (h : rgt W H 16 6 0 = 0) : wrap64 (wrap64 (8 * W) * H) = 8 * W * H := by
  obtain ⟨a, b, c, d, e, _⟩ := rgt_0 h
  have h1 : 0 ≤ W * H := Int.mul_nonneg (by omega) (by omega)
  rw [w64 (x := 8 * W) (by omega) (by omega), Int.mul_assoc]
  exact w64 (by omega) (by omega)
theorem Check_ev (W H : Int) (s : ByteArray) : Ev (fun k => pixel_Check.f k W H s) (chk W H s) := by
  refine Ev.congr (f := fun k => (head_Right.f k W H 16 6 0).bind fun t => (if t = 0 then (if (s.size : Int) = (wrap64 ((wrap64 (8 * W)) * H)) then (some 0) else (some 24)) else (some t))) (fun k => rfl) ?_
  refine Ev.bind (f := fun _ t => (if t = 0 then (if (s.size : Int) = (wrap64 ((wrap64 (8 * W)) * H)) then (some 0) else (some 24)) else (some t))) (Right_ev W H 16 6 0 (by omega)) ?_
  refine ⟨0, fun k _ => ?_⟩
  unfold chk
  by_cases h : rgt W H 16 6 0 = 0
  · rw [if_pos h, if_pos h, chk_wrap h]
    split <;> rfl
  · rw [if_neg h, if_neg h]
theorem rCheck_ev (W H : Int) (s : ByteArray) : Ev (fun k => vitrineref12_Check.f k W H s) (chk W H s) := by
  refine Ev.bind (f := fun _ t => (if t = 0 then (if (s.size : Int) = (wrap64 ((wrap64 (8 * W)) * H)) then (some 0) else (some 24)) else (some t))) (rRight_ev W H 16 6 0) ?_
  refine ⟨0, fun k _ => ?_⟩
  unfold chk
  by_cases h : rgt W H 16 6 0 = 0
  · rw [if_pos h, if_pos h, chk_wrap h]
    split <;> rfl
  · rw [if_neg h, if_neg h]
theorem chk_0 {W H : Int} {s : ByteArray} (h : chk W H s = 0) : ∃ w h_ : Nat, W = (w : Int) ∧ H = (h_ : Int) ∧ 1 ≤ w ∧ w ≤ 1024 ∧ 1 ≤ h_ ∧ h_ ≤ 1024 ∧ w * h_ ≤ 4096 ∧ s.size = 8 * w * h_ := by
  unfold chk at h
  by_cases hr : rgt W H 16 6 0 = 0
  · rw [if_pos hr] at h
    by_cases hs : (s.size : Int) = 8 * W * H
    · obtain ⟨a, b, c, d, e, _⟩ := rgt_0 hr
      refine ⟨W.toNat, H.toNat, by omega, by omega, by omega, by omega, by omega, by omega, ?_, ?_⟩
      · have : ((W.toNat * H.toNat : Nat) : Int) = W * H := by rw [Int.natCast_mul, Int.toNat_of_nonneg (by omega), Int.toNat_of_nonneg (by omega)]
        omega
      · have : ((8 * W.toNat * H.toNat : Nat) : Int) = 8 * W * H := by rw [Int.natCast_mul, Int.natCast_mul, Int.toNat_of_nonneg (by omega), Int.toNat_of_nonneg (by omega)]; rfl
        omega
    · rw [if_neg hs] at h
      omega
  · rw [if_neg hr] at h
    exact absurd h hr
/-! ### Bands -/
/-- A band's last row, of h. -/
def be_ (h i : Nat) : Nat := min (8 * (i + 1)) h
/-- The band of place i, of rows of R bytes. -/
def piece (R h : Nat) (s : ByteArray) (i : Nat) : ByteArray := s.extract (R * (8 * i)) (R * be_ h i)
def pieces (R h : Nat) (s : ByteArray) (n : Nat) : List ByteArray := (List.range n).map (piece R h s)
theorem pieces_succ (R h : Nat) (s : ByteArray) (n : Nat) : pieces R h s (n + 1) = pieces R h s n ++ [piece R h s n] := by
  unfold pieces
  rw [List.range_succ, List.map_append]
  rfl
theorem pieces_len (R h : Nat) (s : ByteArray) (n : Nat) : (pieces R h s n).length = n := by unfold pieces; simp
/-- What lies behind the first i bands. -/
def behind (R : Nat) (s : ByteArray) (i : Nat) : ByteArray := s.extract (R * (8 * i)) s.size
theorem behind_size {R h : Nat} {s : ByteArray} (hs : s.size = R * h) {i : Nat} (hi : 8 * i ≤ h) : (behind R s i).size = R * (h - 8 * i) := by
  unfold behind
  rw [ByteArray.size_extract, hs, Nat.min_self, Nat.mul_sub]
theorem behind_more {R h : Nat} {s : ByteArray} (hs : s.size = R * h) (hR : 1 ≤ R) {i : Nat} : ((behind R s i).size = 0) ↔ ¬ i < mb h := by
  unfold behind mb
  rw [ByteArray.size_extract, hs, Nat.min_self, ← Nat.mul_sub, Nat.mul_eq_zero]
  omega
theorem cut_step {R h : Nat} {s : ByteArray} (hs : s.size = R * h) {i n : Nat} (hi : i < mb h) (hn : n = R * (be_ h i - 8 * i)) : (behind R s i).extract 0 n = piece R h s i ∧ (behind R s i).extract n (behind R s i).size = behind R s (i + 1) := by
  have h8 : 8 * i < h := by unfold mb at hi; omega
  have hb := behind_size hs (i := i) (by omega)
  have hm := Nat.mul_le_mul_left R (show 8 * i ≤ h by omega)
  subst hn
  rw [Nat.mul_sub]
  have hle : R * (8 * i) ≤ R * be_ h i := Nat.mul_le_mul_left R (by unfold be_; omega)
  have hle2 : R * be_ h i ≤ R * h := Nat.mul_le_mul_left R (by unfold be_; omega)
  unfold behind piece
  rw [ByteArray.extract_extract, ByteArray.extract_extract]
  constructor
  · congr 1
    · omega
  · have hz : (s.extract (R * (8 * i)) s.size).size = R * h - R * (8 * i) := by rw [ByteArray.size_extract, hs, Nat.min_self]
    rw [hz]
    by_cases hc : 8 * (i + 1) ≤ h
    · have : be_ h i = 8 * (i + 1) := by unfold be_; omega
      rw [this] at hle hle2 ⊢
      congr 1 <;> omega
    · have e : be_ h i = h := by unfold be_; omega
      have hbig := Nat.mul_le_mul_left R (show h ≤ 8 * (i + 1) by omega)
      rw [e]
      have z1 : (s.extract (R * (8 * i) + (R * h - R * (8 * i))) (min (R * (8 * i) + (R * h - R * (8 * i))) s.size)).size = 0 := by rw [ByteArray.size_extract]; omega
      have z2 : (s.extract (R * (8 * (i + 1))) s.size).size = 0 := by rw [ByteArray.size_extract]; omega
      rw [ByteArray.size_eq_zero_iff.1 z1, ByteArray.size_eq_zero_iff.1 z2]
theorem Cut_loop {R h : Nat} {s : ByteArray} (hs : s.size = R * h) (hR : 1 ≤ R) (hRb : R ≤ 8192) (hh : h ≤ 1024) : ∀ d i : Nat, i + d = mb h → Ev (fun k => bands_Cut.l0 k (pieces R h s i) ((8 * R : Nat) : Int) (behind R s i)) (pieces R h s (mb h), 0) := by
  intro d
  induction d with
  | zero =>
    intro i hi
    obtain rfl : i = mb h := by omega
    refine Ev.step (f := fun _ => some (pieces R h s (mb h), 0)) (fun k => ?_) (Ev.now _)
    simp only [bands_Cut.l0]
    rw [if_pos ((toList_nil _).2 ((behind_more hs hR).2 (by omega)))]
  | succ d ih =>
    intro i hi
    have hlt : i < mb h := by omega
    have h8 : 8 * i < h := by unfold mb at hlt; omega
    have hb := behind_size hs (i := i) (by omega)
    have hn : mn ((8 * R : Nat) : Int) ((behind R s i).size : Int) = ((R * (be_ h i - 8 * i) : Nat) : Int) := by
      rw [hb]
      by_cases hc : 8 ≤ h - 8 * i
      · have := Nat.mul_le_mul_left R hc
        rw [show be_ h i - 8 * i = 8 by unfold be_; omega]
        unfold mn
        split <;> omega
      · have := Nat.mul_le_mul_left R (show h - 8 * i ≤ 8 by omega)
        rw [show be_ h i - 8 * i = h - 8 * i by unfold be_; omega]
        unfold mn
        split <;> omega
    have hle : R * (be_ h i - 8 * i) ≤ (behind R s i).size := by rw [hb]; exact Nat.mul_le_mul_left R (by unfold be_; omega)
    obtain ⟨c1, c2⟩ := cut_step hs hlt rfl
    have hne : ¬ (behind R s i).toList = [] := fun e => ((behind_more hs hR).1 ((toList_nil _).1 e)) hlt
    refine Ev.step (fun k => ?_) (ih (i + 1) (by omega))
    simp only [bands_Cut.l0]
    rw [if_neg hne, hn, if_pos (Int.natCast_nonneg _), if_pos (Int.ofNat_le.2 hle), if_pos (by rw [pieces_len]; exact Nat.lt_of_lt_of_le hlt (mb_le hh)), Int.toNat_natCast, c1, c2, ← pieces_succ]
/-- The bands of a raster: by the program and by the document's answer. -/
def cutV (W H : Int) (s : ByteArray) : List ByteArray × Int := if chk W H s = 0 then (pieces (8 * W.toNat) H.toNat s (mb H.toNat), 0) else ([], chk W H s)
theorem Cut_ev (W H : Int) (s : ByteArray) : Ev (fun k => bands_Cut.f k W H s) (cutV W H s) := by
  refine Ev.bind (f := fun k t130 => (if t130 = 0 then ((bands_band.f W).bind fun t131 => (bands_Cut.l0 k ([] : List ByteArray) t131 s)) else (some (([] : List ByteArray), t130)))) (Check_ev W H s) ?_
  unfold cutV
  by_cases hc : chk W H s = 0
  · obtain ⟨w, h, rfl, rfl, h1, h2, h3, h4, h5, h6⟩ := chk_0 hc
    have hb : bands_band.f (w : Int) = some ((8 * (8 * w) : Nat) : Int) := by
      unfold bands_band.f
      rw [w64 (x := 8 * (w : Int)) (by omega) (by omega), w64 (by omega) (by omega)]
      congr 1
      omega
    simp only [if_pos hc, hb, Option.bind_some, Int.toNat_natCast]
    have := Cut_loop (R := 8 * w) (h := h) h6 (by omega) (by omega) (by omega) (mb h) 0 (by omega)
    have e : behind (8 * w) s 0 = s := by unfold behind; rw [Nat.mul_zero]; exact ByteArray.extract_zero_size
    rw [e] at this
    exact this
  · simp only [if_neg hc]
    exact Ev.now _
theorem rCut_loop {w h : Nat} {s : ByteArray} (hs : s.size = 8 * w * h) (h1 : 1 ≤ w) (h2 : w ≤ 1024) (h3 : 1 ≤ h) (h4 : h ≤ 1024) : ∀ d i : Nat, i + d = mb h → Ev (fun k => vitrineref15_Cut.l0 k (pieces (8 * w) h s i) (behind (8 * w) s i) (i : Int) (w : Int) (h : Int) s) (pieces (8 * w) h s (mb h), 0) := by
  have hM : vitrineref15_Many.f (h : Int) = some ((mb h : Nat) : Int) := by
    unfold vitrineref15_Many.f mb
    rw [w64 (x := (h : Int) + 8) (by omega) (by omega), w64 (x := (h : Int) + 8 - 1) (by omega) (by omega), Int.tdiv_eq_ediv_of_nonneg (by omega), w64 (by omega) (by omega)]
    congr 1
    omega
  intro d
  induction d with
  | zero =>
    intro i hi
    obtain rfl : i = mb h := by omega
    refine Ev.step (f := fun _ => some (pieces (8 * w) h s (mb h), 0)) (fun k => ?_) (Ev.now _)
    simp only [vitrineref15_Cut.l0, hM, Option.bind_some]
    rw [if_neg (by omega)]
  | succ d ih =>
    intro i hi
    have hlt : i < mb h := by omega
    have h8 : 8 * i < h := by unfold mb at hlt; omega
    have hb := behind_size (R := 8 * w) (h := h) hs (i := i) (by omega)
    have hsz : vitrineref15_size.f (w : Int) (h : Int) (i : Int) = some ((8 * w * (be_ h i - 8 * i) : Nat) : Int) := by
      unfold vitrineref15_size.f
      have e1 : mn 8 (wrap64 ((h : Int) - wrap64 ((i : Int) * 8))) = ((be_ h i - 8 * i : Nat) : Int) := by
        rw [w64 (x := (i : Int) * 8) (by omega) (by omega), w64 (by omega) (by omega)]
        unfold mn be_
        split <;> omega
      rw [e1, w64 (x := 8 * (w : Int)) (by omega) (by omega), show 8 * (w : Int) * ((be_ h i - 8 * i : Nat) : Int) = ((8 * w * (be_ h i - 8 * i) : Nat) : Int) by rw [Int.natCast_mul, Int.natCast_mul]; rfl]
      have hx : 8 * w * (be_ h i - 8 * i) ≤ 8192 * 8 := Nat.mul_le_mul (by omega) (by unfold be_; omega)
      rw [w64 (by omega) (by omega)]
    have hle : 8 * w * (be_ h i - 8 * i) ≤ (behind (8 * w) s i).size := by rw [hb]; exact Nat.mul_le_mul_left (8 * w) (by unfold be_; omega)
    obtain ⟨c1, c2⟩ := cut_step (R := 8 * w) (h := h) hs hlt rfl
    have hmb := mb_le h4
    have hi1 : i ≤ 4611686018427387904 := Nat.le_trans (Nat.le_of_lt hlt) (Nat.le_trans hmb (by decide))
    have w1 : wrap64 ((i : Int) + 1) = ((i + 1 : Nat) : Int) := w_succ hi1
    refine Ev.step (fun k => ?_) (ih (i + 1) (by omega))
    simp only [vitrineref15_Cut.l0, hM, Option.bind_some]
    rw [if_pos (Int.ofNat_lt.2 hlt), hsz, Option.bind_some, if_pos (Int.natCast_nonneg _), if_pos (Int.ofNat_le.2 hle), if_pos (by rw [pieces_len]; exact Nat.lt_of_lt_of_le hlt hmb), Int.toNat_natCast, c1, c2, ← pieces_succ, w1]
theorem rCut_ev (W H : Int) (s : ByteArray) : Ev (fun k => vitrineref15_Cut.f k W H s) (cutV W H s) := by
  refine Ev.bind (f := fun k t139 => (if t139 = 0 then (vitrineref15_Cut.l0 k ([] : List ByteArray) s 0 W H s) else (some (([] : List ByteArray), t139)))) (rCheck_ev W H s) ?_
  unfold cutV
  by_cases hc : chk W H s = 0
  · obtain ⟨w, h, rfl, rfl, h1, h2, h3, h4, h5, h6⟩ := chk_0 hc
    simp only [if_pos hc, Int.toNat_natCast]
    have := rCut_loop (w := w) (h := h) h6 h1 h2 h3 h4 (mb h) 0 (by omega)
    have e : behind (8 * w) s 0 = s := by unfold behind; rw [Nat.mul_zero]; exact ByteArray.extract_zero_size
    rw [e] at this
    exact this
  · simp only [if_neg hc]
    exact Ev.now _
theorem piece_size {R h : Nat} {s : ByteArray} (hs : s.size = R * h) (i : Nat) (hi : i < mb h) : (piece R h s i).size = R * (be_ h i - 8 * i) := by
  have h8 : 8 * i < h := by unfold mb at hi; omega
  have hle2 : R * be_ h i ≤ R * h := Nat.mul_le_mul_left R (by unfold be_; omega)
  unfold piece
  rw [ByteArray.size_extract, hs, Nat.mul_sub]
  omega
theorem piece_le {R h : Nat} {s : ByteArray} (hs : s.size = R * h) (hR : R ≤ 8192) (i : Nat) (hi : i < mb h) : (piece R h s i).size ≤ 65536 := by
  rw [piece_size hs i hi]
  have := Nat.mul_le_mul hR (show be_ h i - 8 * i ≤ 8 by unfold be_; omega)
  omega
theorem rdOf_map (f : Nat → ByteArray) (n i : Nat) (h : i < n) : rdOf ByteArray.empty ((List.range n).map f) (i : Int) = f i := by
  unfold rdOf
  rw [List.getD_eq_getElem?_getD, Int.toNat_natCast, List.getElem?_map, List.getElem?_range h]
  rfl
/-! ### Manifests -/
def cat (f : Nat → ByteArray) : Nat → ByteArray
  | 0 => ByteArray.empty
  | n + 1 => cat f n ++ f n
theorem cat_size {f : Nat → ByteArray} (hf : ∀ i, (f i).size = 32) : ∀ n, (cat f n).size = 32 * n
  | 0 => rfl
  | n + 1 => by rw [cat, ByteArray.size_append, cat_size hf n, hf n]; omega
def manL (W H : Int) (R h : Nat) (s : ByteArray) (n : Nat) : ByteArray := be4 W ++ be4 H ++ cat (fun i => shaS (piece R h s i)) n
theorem manL_size (W H : Int) (R h : Nat) (s : ByteArray) (n : Nat) : (manL W H R h s n).size = 8 + 32 * n := by
  unfold manL
  rw [ByteArray.size_append, ByteArray.size_append, be4_size, be4_size, cat_size (fun i => shaS_size _)]
theorem manL_succ (W H : Int) (R h : Nat) (s : ByteArray) (n : Nat) : manL W H R h s (n + 1) = manL W H R h s n ++ shaS (piece R h s n) := by
  unfold manL
  rw [cat, ← ByteArray.append_assoc]
def manV (W H : Int) (s : ByteArray) : ByteArray × Int := if chk W H s = 0 then (manL W H (8 * W.toNat) H.toNat s (mb H.toNat), 0) else (⟨#[]⟩, chk W H s)
theorem Man_loop {R h : Nat} {s : ByteArray} (W H : Int) (hs : s.size = R * h) (hR : R ≤ 8192) (hh : h ≤ 1024) : ∀ d i : Nat, i + d = mb h → Ev (fun k => bands_Manifest.l0 k (pieces R h s (mb h)) ((mb h : Nat) : Int) (i : Int) (manL W H R h s i)) (manL W H R h s (mb h), 0) := by
  intro d
  induction d with
  | zero =>
    intro i hi
    obtain rfl : i = mb h := by omega
    refine Ev.step (f := fun _ => some (manL W H R h s (mb h), 0)) (fun k => ?_) (Ev.now _)
    simp only [bands_Manifest.l0]
    rw [if_neg (by omega)]
    rfl
  | succ d ih =>
    intro i hi
    have hlt : i < mb h := by omega
    have hmb : mb h ≤ 1031 := by unfold mb; omega
    have w1 : wrap64 ((i : Int) + 1) = ((i + 1 : Nat) : Int) := by rw [w64 (by omega) (by omega)]; omega
    have hrd : rdOf ByteArray.empty (pieces R h s (mb h)) (i : Int) = piece R h s i := rdOf_map _ _ _ hlt
    have hm := manL_size W H R h s i
    have hsh := shaS_size (piece R h s i)
    refine Ev.step (f := fun k => (sha_Sum.f k (piece R h s i)).bind fun t162 => ((strings_Builder_WriteString.f (manL W H R h s i) t162).bind fun bt163 => (bands_Manifest.l0 k (pieces R h s (mb h)) ((mb h : Nat) : Int) (wrap64 ((i : Int) + 1)) bt163.2.2))) (fun k => ?_) ?_
    · simp only [bands_Manifest.l0]
      rw [if_pos (by omega), if_pos (by omega), if_pos (by rw [pieces_len]; omega), hrd]
    · refine Ev.bind (f := fun k t162 => ((strings_Builder_WriteString.f (manL W H R h s i) t162).bind fun bt163 => (bands_Manifest.l0 k (pieces R h s (mb h)) ((mb h : Nat) : Int) (wrap64 ((i : Int) + 1)) bt163.2.2))) (sum_ev _ (by have := piece_le hs hR i hlt; omega)) ?_
      have hw : strings_Builder_WriteString.f (manL W H R h s i) (shaS (piece R h s i)) = some (((shaS (piece R h s i)).size : Int), none, manL W H R h s (i + 1)) := by
        unfold strings_Builder_WriteString.f
        rw [if_pos (by omega), manL_succ]
      refine Ev.congr (fun k => ?_) (ih (i + 1) (by omega))
      rw [hw, Option.bind_some, w1]
theorem Man_ev (W H : Int) (s : ByteArray) : Ev (fun k => bands_Manifest.f k W H s) (manV W H s) := by
  refine Ev.bind (f := fun k bt149 => (if bt149.2 = 0 then ((bands_big.f W).bind fun t154 => ((bands_big.f H).bind fun t155 => (if t154.size + t155.size ≤ 9223372036854775807 then ((strings_Builder_WriteString.f (⟨#[]⟩ : ByteArray) (t154 ++ t155)).bind fun bt156 => (bands_Manifest.l0 k bt149.1 (bt149.1.length : Int) 0 bt156.2.2)) else (none)))) else (some ((⟨#[]⟩ : ByteArray), bt149.2)))) (Cut_ev W H s) ?_
  unfold manV cutV
  by_cases hc : chk W H s = 0
  · have hc' := hc
    obtain ⟨w, h, rfl, rfl, h1, h2, h3, h4, h5, h6⟩ := chk_0 hc
    simp only [if_pos hc', big_f, Option.bind_some, Int.toNat_natCast, if_true]
    have hw : strings_Builder_WriteString.f (⟨#[]⟩ : ByteArray) (be4 (w : Int) ++ be4 (h : Int)) = some (((be4 (w : Int) ++ be4 (h : Int)).size : Int), none, manL w h (8 * w) h s 0) := by
      unfold strings_Builder_WriteString.f
      have e : (⟨#[]⟩ : ByteArray) ++ (be4 (w : Int) ++ be4 (h : Int)) = manL w h (8 * w) h s 0 := by
        unfold manL cat
        rw [ByteArray.append_empty]
        exact ByteArray.empty_append
      have z : (⟨#[]⟩ : ByteArray).size = 0 := rfl
      rw [if_pos (by rw [ByteArray.size_append, be4_size, be4_size, z]; omega), e]
    refine Ev.congr (fun k => ?_) (Man_loop (R := 8 * w) (h := h) w h h6 (by omega) h4 (mb h) 0 (by omega))
    rw [if_pos (by rw [be4_size, be4_size]; omega), hw, Option.bind_some, pieces_len]
    rfl
  · simp only [if_neg hc]
    exact Ev.now _
/-! ### Lists of texts -/
theorem awake15 : Ev (fun k => vitrinelaw15_awake.f k) true := ev_true (fun k => vitrinelaw15_awake.mono k) 200 (by kernel_rfl)
theorem bits_u32 (a b : Nat) (ha : a < 4294967296) (hb : b < 4294967296) :
    Go.bits .or .u32 (a : Int) (b : Int) = ((a ||| b : Nat) : Int) ∧ Go.bits .xor .u32 (a : Int) (b : Int) = ((a ^^^ b : Nat) : Int) ∧ Go.bits .and .u32 (a : Int) (b : Int) = ((a &&& b : Nat) : Int) ∧ Go.bits .andNot .u32 (a : Int) (b : Int) = ((a &&& (4294967295 - b) : Nat) : Int) := by
  have w : ∀ n : Nat, n < 4294967296 → IntKind.u32.wrap ((n : Nat) : Int) = (n : Int) := fun n hn => by rw [IntKind.wrap_u32']; omega
  have e1 : Go.bits .or .u32 (a : Int) (b : Int) = IntKind.u32.wrap ((BitVec.ofInt 32 (a : Int) ||| BitVec.ofInt 32 (b : Int)).toNat : Int) := rfl
  have e2 : Go.bits .xor .u32 (a : Int) (b : Int) = IntKind.u32.wrap ((BitVec.ofInt 32 (a : Int) ^^^ BitVec.ofInt 32 (b : Int)).toNat : Int) := rfl
  have e3 : Go.bits .and .u32 (a : Int) (b : Int) = IntKind.u32.wrap ((BitVec.ofInt 32 (a : Int) &&& BitVec.ofInt 32 (b : Int)).toNat : Int) := rfl
  have e4 : Go.bits .andNot .u32 (a : Int) (b : Int) = IntKind.u32.wrap ((BitVec.ofInt 32 (a : Int) &&& ~~~ BitVec.ofInt 32 (b : Int)).toNat : Int) := rfl
  refine ⟨?_, ?_, ?_, ?_⟩
  · rw [e1, BitVec.ofInt_natCast, BitVec.ofInt_natCast, BitVec.toNat_or, BitVec.toNat_ofNat, BitVec.toNat_ofNat, Nat.mod_eq_of_lt (by omega), Nat.mod_eq_of_lt (by omega)]
    exact w _ (Nat.or_lt_two_pow (n := 32) ha hb)
  · rw [e2, BitVec.ofInt_natCast, BitVec.ofInt_natCast, BitVec.toNat_xor, BitVec.toNat_ofNat, BitVec.toNat_ofNat, Nat.mod_eq_of_lt (by omega), Nat.mod_eq_of_lt (by omega)]
    exact w _ (Nat.xor_lt_two_pow (n := 32) ha hb)
  · rw [e3, BitVec.ofInt_natCast, BitVec.ofInt_natCast, BitVec.toNat_and, BitVec.toNat_ofNat, BitVec.toNat_ofNat, Nat.mod_eq_of_lt (by omega), Nat.mod_eq_of_lt (by omega)]
    exact w _ (Nat.lt_of_le_of_lt Nat.and_le_left ha)
  · rw [e4, BitVec.ofInt_natCast, BitVec.ofInt_natCast, BitVec.toNat_and, BitVec.toNat_not, BitVec.toNat_ofNat, BitVec.toNat_ofNat, Nat.mod_eq_of_lt (by omega), Nat.mod_eq_of_lt (by omega)]
    exact w _ (Nat.lt_of_le_of_lt Nat.and_le_left ha)
theorem bits_i64 (a b : Nat) (ha : a < 2 ^ 62) (hb : b < 2 ^ 62) :
    Go.bits .or .i64 (a : Int) (b : Int) = ((a ||| b : Nat) : Int) ∧ Go.bits .xor .i64 (a : Int) (b : Int) = ((a ^^^ b : Nat) : Int) ∧ Go.bits .and .i64 (a : Int) (b : Int) = ((a &&& b : Nat) : Int) := by
  have e1 : Go.bits .or .i64 (a : Int) (b : Int) = IntKind.i64.wrap ((BitVec.ofInt 64 (a : Int) ||| BitVec.ofInt 64 (b : Int)).toNat : Int) := rfl
  have e2 : Go.bits .xor .i64 (a : Int) (b : Int) = IntKind.i64.wrap ((BitVec.ofInt 64 (a : Int) ^^^ BitVec.ofInt 64 (b : Int)).toNat : Int) := rfl
  have e3 : Go.bits .and .i64 (a : Int) (b : Int) = IntKind.i64.wrap ((BitVec.ofInt 64 (a : Int) &&& BitVec.ofInt 64 (b : Int)).toNat : Int) := rfl
  refine ⟨?_, ?_, ?_⟩
  · rw [e1, BitVec.ofInt_natCast, BitVec.ofInt_natCast, BitVec.toNat_or, BitVec.toNat_ofNat, BitVec.toNat_ofNat, Nat.mod_eq_of_lt (by omega), Nat.mod_eq_of_lt (by omega)]
    have := Nat.or_lt_two_pow ha hb
    exact wrapi64 (by omega) (by omega)
  · rw [e2, BitVec.ofInt_natCast, BitVec.ofInt_natCast, BitVec.toNat_xor, BitVec.toNat_ofNat, BitVec.toNat_ofNat, Nat.mod_eq_of_lt (by omega), Nat.mod_eq_of_lt (by omega)]
    have := Nat.xor_lt_two_pow ha hb
    exact wrapi64 (by omega) (by omega)
  · rw [e3, BitVec.ofInt_natCast, BitVec.ofInt_natCast, BitVec.toNat_and, BitVec.toNat_ofNat, BitVec.toNat_ofNat, Nat.mod_eq_of_lt (by omega), Nat.mod_eq_of_lt (by omega)]
    have : a &&& b ≤ a := Nat.and_le_left
    exact wrapi64 (by omega) (by omega)
/-! ### The words -/
def nrot (x n : Nat) : Nat := x / 2 ^ n ||| x * 2 ^ (32 - n) % 4294967296
theorem nrot_lt {x : Nat} (h : x < 4294967296) (n : Nat) : nrot x n < 4294967296 :=
  Nat.or_lt_two_pow (n := 32) (Nat.lt_of_le_of_lt (Nat.div_le_self _ _) h) (Nat.mod_lt _ (by decide))
theorem trn_eq (x n : Nat) (hx : x < 4294967296) (hn : n ≤ 32) : sha_trn (x : Int) (n : Int) = (nrot x n : Int) := by
  unfold sha_trn shr shl
  have h1 : wrap64 (32 - (n : Int)) = ((32 - n : Nat) : Int) := by unfold wrap64; omega
  have h2 : (IntKind.u32.bits : Nat) = 32 := rfl
  rw [h1, Int.toNat_natCast, Int.toNat_natCast, h2, Nat.min_eq_left hn, Nat.min_eq_left (by omega), IntKind.wrap_u32']
  have h3 : (x : Int) / 2 ^ n = ((x / 2 ^ n : Nat) : Int) := by push_cast; rfl
  have h4 : (x : Int) * 2 ^ (32 - n) % 4294967296 = ((x * 2 ^ (32 - n) % 4294967296 : Nat) : Int) := by rw [Int.natCast_emod, Int.natCast_mul, Int.natCast_pow]; rfl
  rw [h3, h4]
  exact (bits_u32 _ _ (Nat.lt_of_le_of_lt (Nat.div_le_self _ _) hx) (Nat.mod_lt _ (by decide))).1
theorem turned_ev (x n : Nat) (hx : x < 4294967296) (h2 : 2 ≤ n) (hn : n ≤ 32) : vitrineref14_turned.f (x : Int) (n : Int) = some (nrot x n : Int) := by
  have h1 : wrap64 (32 - (n : Int)) = ((32 - n : Nat) : Int) := by unfold wrap64; omega
  unfold vitrineref14_turned.f
  rw [if_pos (by omega), h1, if_pos (by omega)]
  unfold shr shl
  have h3 : (x : Int) / 2 ^ n = ((x / 2 ^ n : Nat) : Int) := by push_cast; rfl
  have h4 : (x : Int) * 2 ^ (32 - n) = ((x * 2 ^ (32 - n) : Nat) : Int) := by rw [Int.natCast_mul, Int.natCast_pow]; rfl
  have h5 : x * 2 ^ (32 - n) < 2 ^ 62 := by
    have a : 2 ^ (32 - n) ≤ 2 ^ 30 := Nat.pow_le_pow_right (by decide) (by omega)
    exact Nat.lt_of_le_of_lt (Nat.mul_le_mul (show x ≤ 4294967295 by omega) a) (by decide)
  have h6 : IntKind.i64.bits = 64 := rfl
  rw [Int.toNat_natCast, Int.toNat_natCast, h6, Nat.min_eq_left (by omega), Nat.min_eq_left (by omega), h3, h4, wrapi64 (by omega) (by omega), (bits_i64 _ _ (by have := Nat.div_le_self x (2 ^ n); omega) h5).1]
  congr 1
  rw [Int.tmod_eq_emod_of_nonneg (by omega)]
  have : ((4294967296 : Int)) = ((4294967296 : Nat) : Int) := rfl
  rw [this, ← Int.natCast_emod]
  congr 1
  unfold nrot
  rw [show (4294967296 : Nat) = 2 ^ 32 from rfl, Nat.or_mod_two_pow, Nat.mod_eq_of_lt (a := x / 2 ^ n) (Nat.lt_of_le_of_lt (Nat.div_le_self _ _) hx)]
/-- A number of 32 bits. -/
def W32 (x : Int) : Prop := 0 ≤ x ∧ x < 4294967296
theorem W32.nat {x : Int} (h : W32 x) : ∃ n : Nat, x = (n : Int) ∧ n < 4294967296 := ⟨x.toNat, by have := h.1; omega, by have := h.1; have := h.2; omega⟩
theorem w32_of {n : Nat} (h : n < 4294967296) : W32 (n : Int) := ⟨by omega, by omega⟩
theorem w32_wrap (x : Int) : W32 (IntKind.u32.wrap x) := by rw [IntKind.wrap_u32']; exact ⟨by omega, by omega⟩
theorem or_both {x y : Int} (hx : W32 x) (hy : W32 y) : Go.bits .or .i64 x y = Go.bits .or .u32 x y ∧ W32 (Go.bits .or .u32 x y) := by
  obtain ⟨a, rfl, ha⟩ := hx.nat
  obtain ⟨b, rfl, hb⟩ := hy.nat
  rw [(bits_u32 a b ha hb).1, (bits_i64 a b (by omega) (by omega)).1]
  exact ⟨rfl, w32_of (Nat.or_lt_two_pow (n := 32) ha hb)⟩
theorem xor_both {x y : Int} (hx : W32 x) (hy : W32 y) : Go.bits .xor .i64 x y = Go.bits .xor .u32 x y ∧ W32 (Go.bits .xor .u32 x y) := by
  obtain ⟨a, rfl, ha⟩ := hx.nat
  obtain ⟨b, rfl, hb⟩ := hy.nat
  rw [(bits_u32 a b ha hb).2.1, (bits_i64 a b (by omega) (by omega)).2.1]
  exact ⟨rfl, w32_of (Nat.xor_lt_two_pow (n := 32) ha hb)⟩
theorem and_both {x y : Int} (hx : W32 x) (hy : W32 y) : Go.bits .and .i64 x y = Go.bits .and .u32 x y ∧ W32 (Go.bits .and .u32 x y) := by
  obtain ⟨a, rfl, ha⟩ := hx.nat
  obtain ⟨b, rfl, hb⟩ := hy.nat
  rw [(bits_u32 a b ha hb).2.2.1, (bits_i64 a b (by omega) (by omega)).2.2]
  exact ⟨rfl, w32_of (Nat.lt_of_le_of_lt Nat.and_le_left ha)⟩
theorem andNot_both {x y : Int} (hx : W32 x) (hy : W32 y) : Go.bits .and .i64 (wrap64 (4294967295 - x)) y = Go.bits .andNot .u32 y x ∧ W32 (Go.bits .andNot .u32 y x) := by
  obtain ⟨a, rfl, ha⟩ := hx.nat
  obtain ⟨b, rfl, hb⟩ := hy.nat
  rw [(bits_u32 b a hb ha).2.2.2, w64 (by omega) (by omega), show (4294967295 : Int) - (a : Int) = ((4294967295 - a : Nat) : Int) by omega, (bits_i64 (4294967295 - a) b (by omega) (by omega)).2.2, Nat.and_comm]
  exact ⟨rfl, w32_of (Nat.lt_of_le_of_lt Nat.and_le_left hb)⟩
theorem trn_w32 {x : Int} (hx : W32 x) (n : Nat) (hn : n ≤ 32) : W32 (sha_trn x (n : Int)) := by
  obtain ⟨a, rfl, ha⟩ := hx.nat
  rw [trn_eq a n ha hn]
  exact w32_of (nrot_lt ha n)
theorem turned_i {x : Int} (hx : W32 x) (n : Nat) (h2 : 2 ≤ n) (hn : n ≤ 32) : vitrineref14_turned.f x (n : Int) = some (sha_trn x (n : Int)) := by
  obtain ⟨a, rfl, ha⟩ := hx.nat
  rw [turned_ev a n ha h2 hn, trn_eq a n ha hn]
theorem div_w32 {x : Int} (hx : W32 x) (d : Int) (hd : 1 ≤ d) : W32 (x / d) := by
  have h1 := hx.1
  have h2 := hx.2
  refine ⟨Int.ediv_nonneg h1 (by omega), Int.lt_of_le_of_lt (Int.ediv_le_self d h1) h2⟩
/-- All of a list are such. -/
def Wl (xs : List Int) : Prop := ∀ x ∈ xs, W32 x
theorem wl_rd {xs : List Int} (h : Wl xs) (i : Int) : W32 (rd xs i) := by
  unfold rd
  rw [List.getD_eq_getElem?_getD]
  cases e : xs[i.toNat]? with
  | none => exact ⟨by decide, by decide⟩
  | some x => exact h x (List.mem_of_getElem? e)
theorem wl_set {xs : List Int} (h : Wl xs) (i : Nat) {v : Int} (hv : W32 v) : Wl (xs.set i v) := by
  intro x hx
  rcases List.mem_or_eq_of_mem_set hx with h1 | h1
  · exact h x h1
  · exact h1 ▸ hv
/-! ### A word out of four bytes -/
theorem word_eq {a b c d : Int} (ha : 0 ≤ a ∧ a ≤ 255) (hb : 0 ≤ b ∧ b ≤ 255) (hc : 0 ≤ c ∧ c ≤ 255) (hd : 0 ≤ d ∧ d ≤ 255) :
    Go.bits .or .i64 (Go.bits .or .i64 (Go.bits .or .i64 (wrap64 ((wrap64 a) * 16777216)) (wrap64 ((wrap64 b) * 65536))) (wrap64 ((wrap64 c) * 256))) (wrap64 d) =
      Go.bits .or .u32 (Go.bits .or .u32 (Go.bits .or .u32 (IntKind.u32.wrap (IntKind.u32.wrap a * 16777216)) (IntKind.u32.wrap (IntKind.u32.wrap b * 65536))) (IntKind.u32.wrap (IntKind.u32.wrap c * 256))) (IntKind.u32.wrap d) ∧
    W32 (Go.bits .or .u32 (Go.bits .or .u32 (Go.bits .or .u32 (IntKind.u32.wrap (IntKind.u32.wrap a * 16777216)) (IntKind.u32.wrap (IntKind.u32.wrap b * 65536))) (IntKind.u32.wrap (IntKind.u32.wrap c * 256))) (IntKind.u32.wrap d)) := by
  have e : ∀ x m : Int, 0 ≤ x → x ≤ 255 → 0 ≤ m → m ≤ 16777216 → wrap64 ((wrap64 x) * m) = IntKind.u32.wrap (IntKind.u32.wrap x * m) := by
    intro x m h0 h1 h2 h3
    have p0 : 0 ≤ x * m := Int.mul_nonneg h0 h2
    have p1 : x * m ≤ 255 * 16777216 := Int.mul_le_mul h1 h3 h2 (by decide)
    have e1 : IntKind.u32.wrap x = x := by rw [IntKind.wrap_u32']; omega
    rw [w64 (x := x) (by omega) (by omega), e1, w64 (by omega) (by omega), IntKind.wrap_u32']
    omega
  have e0 : wrap64 d = IntKind.u32.wrap d := by rw [w64 (by omega) (by omega), IntKind.wrap_u32']; omega
  rw [e a _ ha.1 ha.2 (by decide) (by decide), e b _ hb.1 hb.2 (by decide) (by decide), e c _ hc.1 hc.2 (by decide) (by decide), e0]
  have o1 := or_both (w32_wrap (IntKind.u32.wrap a * 16777216)) (w32_wrap (IntKind.u32.wrap b * 65536))
  have o2 := or_both o1.2 (w32_wrap (IntKind.u32.wrap c * 256))
  have o3 := or_both o2.2 (w32_wrap d)
  rw [o1.1, o2.1, o3.1]
  exact ⟨rfl, o3.2⟩
theorem sha_word_w32 (b : ByteArray) (m : Nat) : W32 (sha_word b m) := (word_eq (bt_range b _) (bt_range b _) (bt_range b _) (bt_range b _)).2
/-! ### Sums -/
theorem sum4 {a b c d : Int} (ha : W32 a) (hb : W32 b) (hc : W32 c) (hd : W32 d) : Int.tmod (wrap64 ((wrap64 ((wrap64 (a + b)) + c)) + d)) 4294967296 = IntKind.u32.wrap (IntKind.u32.wrap (IntKind.u32.wrap (a + b) + c) + d) := by
  have := ha.1; have := ha.2; have := hb.1; have := hb.2; have := hc.1; have := hc.2; have := hd.1; have := hd.2
  rw [w64 (x := a + b) (by omega) (by omega), w64 (x := a + b + c) (by omega) (by omega), w64 (x := a + b + c + d) (by omega) (by omega), Int.tmod_eq_emod_of_nonneg (by omega), IntKind.wrap_u32', IntKind.wrap_u32', IntKind.wrap_u32']
  omega
theorem sum5 {a b c d e : Int} (ha : W32 a) (hb : W32 b) (hc : W32 c) (hd : W32 d) (he : W32 e) : Int.tmod (wrap64 ((wrap64 ((wrap64 ((wrap64 (a + b)) + c)) + d)) + e)) 4294967296 = IntKind.u32.wrap (IntKind.u32.wrap (IntKind.u32.wrap (IntKind.u32.wrap (a + b) + c) + d) + e) := by
  have := ha.1; have := ha.2; have := hb.1; have := hb.2; have := hc.1; have := hc.2; have := hd.1; have := hd.2; have := he.1; have := he.2
  rw [w64 (x := a + b) (by omega) (by omega), w64 (x := a + b + c) (by omega) (by omega), w64 (x := a + b + c + d) (by omega) (by omega), w64 (x := a + b + c + d + e) (by omega) (by omega), Int.tmod_eq_emod_of_nonneg (by omega), IntKind.wrap_u32', IntKind.wrap_u32', IntKind.wrap_u32', IntKind.wrap_u32']
  omega
theorem sum2 {a b : Int} (ha : W32 a) (hb : W32 b) : Int.tmod (wrap64 (a + b)) 4294967296 = IntKind.u32.wrap (a + b) := by
  have := ha.1; have := ha.2; have := hb.1; have := hb.2
  rw [w64 (x := a + b) (by omega) (by omega), Int.tmod_eq_emod_of_nonneg (by omega), IntKind.wrap_u32']
/-! ### The lists that come out are such -/
theorem sha_s1_wl (b : ByteArray) : ∀ m, Wl (sha_s1 b m)
  | 0 => by
    intro x hx
    rw [List.eq_of_mem_replicate hx]
    exact ⟨by decide, by decide⟩
  | m + 1 => wl_set (sha_s1_wl b m) m (sha_word_w32 b m)
theorem sha_s2_wl {xs : List Int} (h : Wl xs) : ∀ m, Wl (sha_s2 xs m)
  | 0 => h
  | m + 1 => wl_set (sha_s2_wl h m) _ (w32_wrap _)
theorem sha_sched_wl (b : ByteArray) : Wl (sha_sched b) := sha_s2_wl (sha_s1_wl b 16) 48
theorem sha_rnd_wl {vs : List Int} (h : Wl vs) (a b : Int) : Wl (sha_rnd vs a b) := by
  intro x hx
  unfold sha_rnd at hx
  simp only [List.mem_cons, List.not_mem_nil, or_false] at hx
  rcases hx with rfl | rfl | rfl | rfl | rfl | rfl | rfl | rfl
  · exact w32_wrap _
  · exact wl_rd h _
  · exact wl_rd h _
  · exact wl_rd h _
  · exact w32_wrap _
  · exact wl_rd h _
  · exact wl_rd h _
  · exact wl_rd h _
theorem sha_rs_wl (kk ws : List Int) {vs : List Int} (h : Wl vs) : ∀ m, Wl (sha_rs kk ws vs m)
  | 0 => h
  | m + 1 => sha_rnd_wl (sha_rs_wl kk ws h m) _ _
theorem sha_ad_wl {s : List Int} (h : Wl s) (vs : List Int) : ∀ m, Wl (sha_ad s vs m)
  | 0 => h
  | m + 1 => wl_set (sha_ad_wl h vs m) m (w32_wrap _)
theorem sha_H0_wl : Wl sha_H0 := by
  intro x hx
  have : ∀ y ∈ sha_H0, 0 ≤ y ∧ y < 4294967296 := by decide
  exact this x hx
theorem sha_K_wl : Wl sha_K := by
  intro x hx
  have : (sha_K.all fun y => decide (0 ≤ y ∧ y < 4294967296)) = true := by kernel_rfl
  have h : 0 ≤ x ∧ x < 4294967296 := of_decide_eq_true (List.all_eq_true.1 this x hx)
  exact h
theorem sha_run_wl (all : ByteArray) : ∀ m, Wl (sha_run all m)
  | 0 => sha_H0_wl
  | m + 1 => sha_ad_wl (sha_run_wl all m) _ 8
theorem bytesOf_append (s t : ByteArray) : bytesOf (s ++ t) = bytesOf s ++ bytesOf t := by
  unfold bytesOf
  rw [ByteArray.data_append, Array.toList_append, List.map_append]
theorem rd_drop (xs : List Int) (d : Nat) (i : Int) (h : 0 ≤ i) : rd (xs.drop d) i = rd xs (d + i) := by
  unfold rd
  rw [List.getD_eq_getElem?_getD, List.getD_eq_getElem?_getD, List.getElem?_drop, show ((d : Int) + i).toNat = d + i.toNat by omega]
theorem bt_cut (s : ByteArray) (a b : Nat) (i : Int) (h0 : 0 ≤ i) (h1 : a + i < b) (h2 : b ≤ s.size) : bt (s.extract a b) i = bt s (a + i) := by
  have hs : (s.extract a b).size = b - a := by rw [ByteArray.size_extract]; omega
  unfold bt
  rw [dif_pos (by omega), dif_pos (by omega)]
  congr 2
  have : (s.extract a b)[i.toNat]'(by omega) = s[a + i.toNat]'(by omega) := by
    rw [ByteArray.getElem_extract]
  rw [this]
  congr 1
  omega
/-! ### The filled bytes -/
theorem shr_kinds (x : Int) (j : Nat) (h : j ≤ 64) : shr .u64 x (j : Int) = shr .i64 x (j : Int) := by
  unfold shr
  have h1 : (IntKind.u64.bits : Nat) = 64 := rfl
  have h2 : (IntKind.i64.bits : Nat) = 64 := rfl
  rw [h1, h2]
theorem fill_l1 (n4 : Int) : ∀ (j : Nat) (xs : List Int), j ≤ 8 → xs.length + j ≤ 2000000 → Ev (fun k => vitrineref14_Filled.l1 k xs n4 ((j : Int) - 1)) (xs ++ padT n4 j) := by
  intro j
  induction j with
  | zero =>
    intro xs hj hx
    refine ⟨1, fun k hk => ?_⟩
    obtain ⟨m, rfl⟩ : ∃ m, k = m + 1 := ⟨k - 1, by omega⟩
    simp only [vitrineref14_Filled.l1]
    rw [if_neg (by omega), padT, List.append_nil]
  | succ j ih =>
    intro xs hj hx
    refine Ev.step (f := fun k => vitrineref14_Filled.l1 k (xs ++ [(shr .u64 n4 (8 * (j : Int))) % 256]) n4 ((j : Int) - 1)) (fun k => ?_) ?_
    · simp only [vitrineref14_Filled.l1]
      rw [show ((j + 1 : Nat) : Int) - 1 = (j : Int) by omega, w64 (x := 8 * (j : Int)) (by omega) (by omega), w64 (x := (j : Int) - 1) (by omega) (by omega), if_pos (by omega), if_pos (by omega), if_pos (by omega), show (8 * (j : Int)) = ((8 * j : Nat) : Int) by omega, shr_kinds n4 (8 * j) (by omega)]
    · have := ih (xs ++ [(shr .u64 n4 (8 * (j : Int))) % 256]) (by omega) (by simp; omega)
      rw [List.append_assoc] at this
      exact this
theorem fill_l0 (s : ByteArray) (hs : s.size ≤ 100000) {r : List Int} : ∀ (d : Nat) (xs : List Int), xs.length + d ≤ 1000000 → d < 64 → (xs.length + d) % 64 = 56 → Ev (fun k => vitrineref14_Filled.l1 k (xs ++ List.replicate d 0) (8 * (s.size : Int)) 7) r → Ev (fun k => vitrineref14_Filled.l0 k s xs) r := by
  intro d
  induction d with
  | zero =>
    intro xs hx hd hm h
    refine Ev.step (f := fun k => vitrineref14_Filled.l1 k xs (8 * (s.size : Int)) 7) (fun k => ?_) (by simpa using h)
    simp only [vitrineref14_Filled.l0]
    rw [w64 (by omega) (by omega), if_pos (by omega)]
  | succ d ih =>
    intro xs hx hd hm h
    refine Ev.step (f := fun k => vitrineref14_Filled.l0 k s (xs ++ [0])) (fun k => ?_) (ih (xs ++ [0]) (by simp; omega) (by omega) (by simp; omega) ?_)
    · simp only [vitrineref14_Filled.l0]
      rw [if_neg (by omega), if_pos (by omega)]
    · rw [List.append_assoc]
      exact h
theorem padT_byt (n : Int) : ∀ j, Byt (padT n j)
  | 0 => by intro x hx; cases hx
  | j + 1 => by
    intro x hx
    rcases List.mem_cons.1 hx with rfl | hx
    · exact ⟨by omega, by omega⟩
    · exact padT_byt n j x hx
theorem byt_append {a b : List Int} (ha : Byt a) (hb : Byt b) : Byt (a ++ b) := fun x hx => (List.mem_append.1 hx).elim (ha x) (hb x)
theorem padAll_bytes (s : ByteArray) (hs : s.size ≤ 100000) : bytesOf (padAll s) = bytesOf s ++ [128] ++ List.replicate (padZ s.size) 0 ++ padT (8 * (s.size : Int)) 8 := by
  have e : IntKind.u64.wrap ((IntKind.u64.wrap ((s.size : Int))) * 8) = 8 * (s.size : Int) := by
    have w : ∀ x : Int, 0 ≤ x → x ≤ 9223372036854775807 → IntKind.u64.wrap x = x := by
      intro x h0 h1
      rw [IntKind.wrap_u64]
      omega
    rw [w (s.size : Int) (by omega) (by omega), w _ (by omega) (by omega)]
    omega
  unfold padAll
  rw [bytesOf_append, e, bytesOf_str]
  · simp only [List.append_assoc]
  · refine byt_append (byt_append ?_ ?_) (padT_byt _ _)
    · intro x hx
      rw [List.mem_singleton.1 hx]
      exact ⟨by decide, by decide⟩
    · intro x hx
      rw [List.eq_of_mem_replicate hx]
      exact ⟨by decide, by decide⟩
theorem filled_ev (s : ByteArray) (hs : s.size ≤ 100000) : Ev (fun k => vitrineref14_Filled.f k s) (bytesOf (padAll s)) := by
  have hl := bytesOf_length s
  refine Ev.congr (f := fun k => vitrineref14_Filled.l0 k s (bytesOf s ++ [128])) (fun k => ?_) ?_
  · unfold vitrineref14_Filled.f
    rw [if_pos (by omega), Option.bind_some, if_pos (by omega)]
  · have hz : padZ s.size < 64 := by unfold padZ; omega
    refine fill_l0 s hs (padZ s.size) _ (by simp; omega) hz (by simp; unfold padZ; omega) ?_
    rw [padAll_bytes s hs]
    exact fill_l1 _ 8 _ (by omega) (by simp; omega)
/-! ### The loops of a block -/
theorem r_l1 (H K F : List Int) (b : ByteArray) (hF : 64 ≤ F.length) (hF2 : F.length ≤ 1000000) (hb : ∀ i : Int, 0 ≤ i → i < 64 → rd F i = bt b i) {r : ByteArray} (h : Ev (fun k => vitrineref14_Sum.l2 k H K F (sha_s1 b 16) 16) r) :
    ∀ (d t : Nat), t + d = 16 → Ev (fun k => vitrineref14_Sum.l1 k H K F (sha_s1 b t) (t : Int)) r := by
  intro d
  induction d with
  | zero =>
    intro t ht
    obtain rfl : t = 16 := by omega
    refine Ev.step (fun k => ?_) h
    simp only [vitrineref14_Sum.l1]
    rw [if_neg (by omega)]
  | succ d ih =>
    intro t ht
    refine Ev.step (f := fun k => vitrineref14_Sum.l1 k H K F (sha_s1 b (t + 1)) ((t + 1 : Nat) : Int)) (fun k => ?_) (ih (t + 1) (by omega))
    have hl := sha_s1_len b t
    have e0 : wrap64 (4 * (t : Int)) = 4 * (t : Int) := w64 (by omega) (by omega)
    have e1 : wrap64 (4 * (t : Int) + 1) = 4 * (t : Int) + 1 := w64 (by omega) (by omega)
    have e2 : wrap64 (4 * (t : Int) + 2) = 4 * (t : Int) + 2 := w64 (by omega) (by omega)
    have e3 : wrap64 (4 * (t : Int) + 3) = 4 * (t : Int) + 3 := w64 (by omega) (by omega)
    have e4 : wrap64 ((t : Int) + 1) = ((t + 1 : Nat) : Int) := by rw [w64 (by omega) (by omega)]; omega
    simp only [vitrineref14_Sum.l1]
    rw [e0, e1, e2, e3, e4, if_pos (by omega), if_pos (by omega), if_pos (by omega), if_pos (by omega), if_pos (by omega), if_pos (by omega), if_pos (by omega), if_pos (by omega), if_pos (by omega), if_pos (by omega), if_pos (by omega)]
    rw [hb _ (by omega) (by omega), hb _ (by omega) (by omega), hb _ (by omega) (by omega), hb _ (by omega) (by omega), (word_eq (bt_range b _) (bt_range b _) (bt_range b _) (bt_range b _)).1]
    rfl
theorem r_l2 (H K F : List Int) {xs : List Int} (hx : Wl xs) (hxl : xs.length = 64) (hH : H.length = 8) {r : ByteArray} (h : Ev (fun k => vitrineref14_Sum.l3 k H K F (sha_s2 xs 48) H 0) r) :
    ∀ (d m : Nat), m + d = 48 → Ev (fun k => vitrineref14_Sum.l2 k H K F (sha_s2 xs m) ((16 + m : Nat) : Int)) r := by
  intro d
  induction d with
  | zero =>
    intro m hm
    obtain rfl : m = 48 := by omega
    refine Ev.step (fun k => ?_) h
    simp only [vitrineref14_Sum.l2]
    rw [if_neg (by omega), Option.bind_some, if_pos (by simp only [List.length_nil]; omega), List.nil_append]
  | succ d ih =>
    intro m hm
    refine Ev.step (f := fun k => vitrineref14_Sum.l2 k H K F (sha_s2 xs (m + 1)) ((16 + (m + 1) : Nat) : Int)) (fun k => ?_) (ih (m + 1) (by omega))
    have hl : (sha_s2 xs m).length = 64 := by rw [sha_s2_len, hxl]
    have hw := sha_s2_wl hx m
    have e0 : wrap64 (((16 + m : Nat) : Int) - 15) = ((16 + m : Nat) : Int) - 15 := w64 (by omega) (by omega)
    have e1 : wrap64 (((16 + m : Nat) : Int) - 2) = ((16 + m : Nat) : Int) - 2 := w64 (by omega) (by omega)
    have e2 : wrap64 (((16 + m : Nat) : Int) - 16) = ((16 + m : Nat) : Int) - 16 := w64 (by omega) (by omega)
    have e3 : wrap64 (((16 + m : Nat) : Int) - 7) = ((16 + m : Nat) : Int) - 7 := w64 (by omega) (by omega)
    have e4 : wrap64 (((16 + m : Nat) : Int) + 1) = ((16 + (m + 1) : Nat) : Int) := by rw [w64 (by omega) (by omega)]; omega
    have ra := wl_rd hw (((16 + m : Nat) : Int) - 15)
    have rb := wl_rd hw (((16 + m : Nat) : Int) - 2)
    have rc := wl_rd hw (((16 + m : Nat) : Int) - 16)
    have rdd := wl_rd hw (((16 + m : Nat) : Int) - 7)
    have t1 : vitrineref14_turned.f (rd (sha_s2 xs m) (((16 + m : Nat) : Int) - 15)) 7 = _ := turned_i ra 7 (by omega) (by omega)
    have t2 : vitrineref14_turned.f (rd (sha_s2 xs m) (((16 + m : Nat) : Int) - 15)) 18 = _ := turned_i ra 18 (by omega) (by omega)
    have t3 : vitrineref14_turned.f (rd (sha_s2 xs m) (((16 + m : Nat) : Int) - 2)) 17 = _ := turned_i rb 17 (by omega) (by omega)
    have t4 : vitrineref14_turned.f (rd (sha_s2 xs m) (((16 + m : Nat) : Int) - 2)) 19 = _ := turned_i rb 19 (by omega) (by omega)
    have x1 := xor_both (trn_w32 ra 7 (by omega)) (trn_w32 ra 18 (by omega))
    have x2 := xor_both x1.2 (div_w32 ra 8 (by decide))
    have y1 := xor_both (trn_w32 rb 17 (by omega)) (trn_w32 rb 19 (by omega))
    have y2 := xor_both y1.2 (div_w32 rb 1024 (by decide))
    simp only [vitrineref14_Sum.l2]
    rw [e0, e1, e2, e3, e4, if_pos (by omega), if_pos (by omega), if_pos (by omega), if_pos (by omega), if_pos (by omega), if_pos (by omega), if_pos (by omega), t1, t2]
    simp only [Option.bind_some]
    rw [if_pos (by omega), if_pos (by omega), t3, t4]
    simp only [Option.bind_some]
    rw [if_pos (by omega), if_pos (by omega), x1.1, x2.1, y1.1, y2.1, sum4 rc x2.2 rdd y2.2]
    rfl
theorem r_l3 (H F W : List Int) (hW : Wl W) (hWl : W.length = 64) {vs : List Int} (hv : Wl vs) (hvl : vs.length = 8) {r : ByteArray} (h : Ev (fun k => vitrineref14_Sum.l4 k H sha_K F (sha_rs sha_K W vs 64) 0) r) :
    ∀ (d m : Nat), m + d = 64 → Ev (fun k => vitrineref14_Sum.l3 k H sha_K F W (sha_rs sha_K W vs m) (m : Int)) r := by
  intro d
  induction d with
  | zero =>
    intro m hm
    obtain rfl : m = 64 := by omega
    refine Ev.step (fun k => ?_) h
    simp only [vitrineref14_Sum.l3]
    rw [if_neg (by omega)]
  | succ d ih =>
    intro m hm
    refine Ev.step (f := fun k => vitrineref14_Sum.l3 k H sha_K F W (sha_rs sha_K W vs (m + 1)) ((m + 1 : Nat) : Int)) (fun k => ?_) (ih (m + 1) (by omega))
    have hl : (sha_rs sha_K W vs m).length = 8 := sha_rs_len _ _ _ hvl m
    have hw := sha_rs_wl sha_K W hv m
    have hkl : sha_K.length = 64 := by kernel_rfl
    have e4 : wrap64 ((m : Int) + 1) = ((m + 1 : Nat) : Int) := by rw [w64 (by omega) (by omega)]; omega
    obtain ⟨v, hvv⟩ : ∃ v, sha_rs sha_K W vs m = v := ⟨_, rfl⟩
    have hsucc : sha_rs sha_K W vs (m + 1) = sha_rnd v (rd sha_K (m : Int)) (rd W (m : Int)) := by rw [← hvv]; rfl
    rw [hsucc]
    rw [hvv] at hl hw
    rw [hvv]
    have r0 := wl_rd hw 0
    have r1 := wl_rd hw 1
    have r2 := wl_rd hw 2
    have r3 := wl_rd hw 3
    have r4 := wl_rd hw 4
    have r5 := wl_rd hw 5
    have r6 := wl_rd hw 6
    have r7 := wl_rd hw 7
    have t1 : vitrineref14_turned.f (rd v 4) 6 = _ := turned_i r4 6 (by omega) (by omega)
    have t2 : vitrineref14_turned.f (rd v 4) 11 = _ := turned_i r4 11 (by omega) (by omega)
    have t3 : vitrineref14_turned.f (rd v 4) 25 = _ := turned_i r4 25 (by omega) (by omega)
    have t4 : vitrineref14_turned.f (rd v 0) 2 = _ := turned_i r0 2 (by omega) (by omega)
    have t5 : vitrineref14_turned.f (rd v 0) 13 = _ := turned_i r0 13 (by omega) (by omega)
    have t6 : vitrineref14_turned.f (rd v 0) 22 = _ := turned_i r0 22 (by omega) (by omega)
    have a1 := xor_both (trn_w32 r4 6 (by omega)) (trn_w32 r4 11 (by omega))
    have a2 := xor_both a1.2 (trn_w32 r4 25 (by omega))
    have b1 := and_both r4 r5
    have b2 := andNot_both r4 r6
    have b3 := xor_both b1.2 b2.2
    have c1 := xor_both (trn_w32 r0 2 (by omega)) (trn_w32 r0 13 (by omega))
    have c2 := xor_both c1.2 (trn_w32 r0 22 (by omega))
    have d1 := and_both r0 r1
    have d2 := and_both r0 r2
    have d3 := and_both r1 r2
    have d4 := xor_both d1.2 d2.2
    have d5 := xor_both d4.2 d3.2
    have rk := wl_rd sha_K_wl (m : Int)
    have rw_ := wl_rd hW (m : Int)
    have sx := sum5 r7 a2.2 b3.2 rk rw_
    have sy := sum2 c2.2 d5.2
    simp only [vitrineref14_Sum.l3]
    rw [if_pos (by omega), if_pos (by omega), if_pos (by omega), if_pos (by omega), t1, t2, t3]
    simp only [Option.bind_some]
    rw [if_pos (by omega), if_pos (by omega), if_pos (by omega), if_pos (by omega), if_pos (by omega), t4, t5, t6]
    simp only [Option.bind_some]
    rw [if_pos (by omega), if_pos (by omega), if_pos (by omega), e4, a1.1, a2.1, b1.1, b2.1, b3.1, c1.1, c2.1, d1.1, d2.1, d3.1, d4.1, d5.1, sx, sy, sum2 (w32_wrap _) (w32_wrap _), sum2 r3 (w32_wrap _)]
    rfl
theorem r_l4 (K F : List Int) {s vs : List Int} (hs : Wl s) (hsl : s.length = 8) (hv : Wl vs) (hvl : vs.length = 8) (hF : 64 ≤ F.length) {r : ByteArray} (h : Ev (fun k => vitrineref14_Sum.l0 k (sha_ad s vs 8) K (F.drop 64)) r) :
    ∀ (d m : Nat), m + d = 8 → Ev (fun k => vitrineref14_Sum.l4 k (sha_ad s vs m) K F vs (m : Int)) r := by
  intro d
  induction d with
  | zero =>
    intro m hm
    obtain rfl : m = 8 := by omega
    refine Ev.step (fun k => ?_) h
    simp only [vitrineref14_Sum.l4]
    rw [if_neg (by omega), if_pos (by omega)]
    rfl
  | succ d ih =>
    intro m hm
    refine Ev.step (f := fun k => vitrineref14_Sum.l4 k (sha_ad s vs (m + 1)) K F vs ((m + 1 : Nat) : Int)) (fun k => ?_) (ih (m + 1) (by omega))
    have hl : (sha_ad s vs m).length = 8 := by rw [sha_ad_len, hsl]
    have e4 : wrap64 ((m : Int) + 1) = ((m + 1 : Nat) : Int) := by rw [w64 (by omega) (by omega)]; omega
    simp only [vitrineref14_Sum.l4]
    rw [if_pos (by omega), if_pos (by omega), if_pos (by omega), if_pos (by omega), e4, sum2 (wl_rd (sha_ad_wl hs vs m) _) (wl_rd hv _)]
    rfl
theorem r_l5 (H : List Int) (hl : H.length = 8) : ∀ (d m : Nat), m + d = 8 → Ev (fun k => vitrineref14_Sum.l5 k H (sha_out H m) (m : Int)) (strOfNums (sha_out H 8)) := by
  intro d
  induction d with
  | zero =>
    intro m hm
    obtain rfl : m = 8 := by omega
    refine ⟨1, fun k hk => ?_⟩
    obtain ⟨j, rfl⟩ : ∃ j, k = j + 1 := ⟨k - 1, by omega⟩
    simp only [vitrineref14_Sum.l5]
    rw [if_neg (by omega)]
  | succ d ih =>
    intro m hm
    refine Ev.step (f := fun k => vitrineref14_Sum.l5 k H (sha_out H (m + 1)) ((m + 1 : Nat) : Int)) (fun k => ?_) (ih (m + 1) (by omega))
    have e4 : wrap64 ((m : Int) + 1) = ((m + 1 : Nat) : Int) := by rw [w64 (by omega) (by omega)]; omega
    have ho := sha_out_len H m
    simp only [vitrineref14_Sum.l5]
    rw [if_pos (by omega), if_pos (by omega), if_pos (by omega), Option.bind_some, if_pos (by simp only [List.length_cons, List.length_nil]; omega), e4]
    rfl
theorem r_l0 (S : ByteArray) (N : Nat) (hS : S.size = 64 * N) (hS2 : S.size ≤ 1000000) : ∀ (d m : Nat), m + d = N → Ev (fun k => vitrineref14_Sum.l0 k (sha_run S m) sha_K ((bytesOf S).drop (64 * m))) (strOfNums (sha_out (sha_run S N) 8)) := by
  intro d
  have hbl := bytesOf_length S
  induction d with
  | zero =>
    intro m hm
    obtain rfl : m = N := by omega
    refine Ev.step (f := fun k => vitrineref14_Sum.l5 k (sha_run S m) (sha_out (sha_run S m) 0) ((0 : Nat) : Int)) (fun k => ?_) (r_l5 _ (sha_run_len S m) 8 0 rfl)
    simp only [vitrineref14_Sum.l0]
    rw [if_neg (by rw [List.length_drop]; omega)]
    rfl
  | succ d ih =>
    intro m hm
    have hFl : 64 ≤ ((bytesOf S).drop (64 * m)).length := by rw [List.length_drop]; omega
    have hFl2 : ((bytesOf S).drop (64 * m)).length ≤ 1000000 := by rw [List.length_drop]; omega
    have h0 := ih (m + 1) (by omega)
    have hb : ∀ i : Int, 0 ≤ i → i < 64 → rd ((bytesOf S).drop (64 * m)) i = bt (S.extract (64 * m) (64 * m + 64)) i := by
      intro i h0 h1
      rw [rd_drop _ _ _ h0, rd_bytesOf, bt_cut S _ _ i h0 (by omega) (by omega)]
    have hrl := sha_run_len S m
    have hrw := sha_run_wl S m
    have hd : ((bytesOf S).drop (64 * m)).drop 64 = (bytesOf S).drop (64 * (m + 1)) := by rw [List.drop_drop]; congr 1
    obtain ⟨b, hbb⟩ : ∃ b, S.extract (64 * m) (64 * m + 64) = b := ⟨_, rfl⟩
    have hrun : sha_run S (m + 1) = sha_ad (sha_run S m) (sha_rs sha_K (sha_sched b) (sha_run S m) 64) 8 := by rw [← hbb]; rfl
    rw [hrun, ← hd] at h0
    rw [hbb] at hb
    have h4 := r_l4 sha_K ((bytesOf S).drop (64 * m)) hrw hrl (sha_rs_wl sha_K (sha_sched b) hrw 64) (sha_rs_len _ _ _ hrl 64) hFl h0 8 0 rfl
    have h3 := r_l3 (sha_run S m) ((bytesOf S).drop (64 * m)) (sha_sched b) (sha_sched_wl b) (sha_sched_len b) hrw hrl h4 64 0 rfl
    have h2 := r_l2 (sha_run S m) sha_K ((bytesOf S).drop (64 * m)) (sha_s1_wl b 16) (sha_s1_len b 16) hrl h3 48 0 rfl
    have h1 := r_l1 (sha_run S m) sha_K ((bytesOf S).drop (64 * m)) b hFl hFl2 hb h2 16 0 rfl
    refine Ev.step (fun k => ?_) h1
    simp only [vitrineref14_Sum.l0]
    rw [if_pos (by omega), if_pos (by decide)]
    rfl
theorem rsum_ev (s : ByteArray) (hs : s.size ≤ 100000) : Ev (fun k => vitrineref14_Sum.f k s) (shaS s) := by
  have hp := padAll_size s
  have h := r_l0 (padAll s) ((padAll s).size / 64) (by rw [hp]; unfold padZ; omega) (by rw [hp]; unfold padZ; omega) ((padAll s).size / 64) 0 (by omega)
  refine Ev.congr (f := fun k => (vitrineref14_Filled.f k s).bind fun t123 => (vitrineref14_Sum.l0 k sha_H0 sha_K t123)) (fun k => ?_) ?_
  · unfold vitrineref14_Sum.f
    rfl
  · refine Ev.bind (f := fun k t123 => vitrineref14_Sum.l0 k sha_H0 sha_K t123) (filled_ev s hs) ?_
    exact h
theorem four_f {n : Int} (h : 0 ≤ n) (h2 : n ≤ 4611686018427387904) : vitrineref06_Four.f n = some (be4 n) := by
  unfold vitrineref06_Four.f be4
  rw [Int.tdiv_eq_ediv_of_nonneg h, Int.tdiv_eq_ediv_of_nonneg h, Int.tdiv_eq_ediv_of_nonneg h, w64 (x := n / 16777216) (by omega) (by omega), w64 (x := n / 65536) (by omega) (by omega), w64 (x := n / 256) (by omega) (by omega)]
theorem rMan_loop {R h : Nat} {s : ByteArray} (W H : Int) (hs : s.size = R * h) (hR : R ≤ 8192) (hh : h ≤ 1024) : ∀ d i : Nat, i + d = mb h → Ev (fun k => vitrineref15_Manifest.l0 k (pieces R h s (mb h)) (manL W H R h s i) (i : Int)) (manL W H R h s (mb h), 0) := by
  intro d
  induction d with
  | zero =>
    intro i hi
    obtain rfl : i = mb h := by omega
    refine Ev.step (f := fun _ => some (manL W H R h s (mb h), 0)) (fun k => ?_) (Ev.now _)
    simp only [vitrineref15_Manifest.l0]
    rw [if_neg (by rw [pieces_len]; omega)]
  | succ d ih =>
    intro i hi
    have hlt : i < mb h := by omega
    have hmb : mb h ≤ 1031 := by unfold mb; omega
    have w1 : wrap64 ((i : Int) + 1) = ((i + 1 : Nat) : Int) := by rw [w64 (by omega) (by omega)]; omega
    have hrd : rdOf ByteArray.empty (pieces R h s (mb h)) (i : Int) = piece R h s i := rdOf_map _ _ _ hlt
    have hm := manL_size W H R h s i
    have hsh := shaS_size (piece R h s i)
    refine Ev.step (f := fun k => (vitrineref14_Sum.f k (piece R h s i)).bind fun t267 => (if (manL W H R h s i).size + t267.size ≤ 9223372036854775807 then (vitrineref15_Manifest.l0 k (pieces R h s (mb h)) ((manL W H R h s i) ++ t267) (wrap64 ((i : Int) + 1))) else (none))) (fun k => ?_) ?_
    · simp only [vitrineref15_Manifest.l0]
      rw [if_pos (by rw [pieces_len]; omega), if_pos (by omega), hrd]
    · refine Ev.bind (f := fun k t267 => (if (manL W H R h s i).size + t267.size ≤ 9223372036854775807 then (vitrineref15_Manifest.l0 k (pieces R h s (mb h)) ((manL W H R h s i) ++ t267) (wrap64 ((i : Int) + 1))) else (none))) (rsum_ev _ (by have := piece_le hs hR i hlt; omega)) ?_
      refine Ev.congr (fun k => ?_) (ih (i + 1) (by omega))
      rw [if_pos (by omega), w1, manL_succ]
theorem rMan_ev (W H : Int) (s : ByteArray) : Ev (fun k => vitrineref15_Manifest.f k W H s) (manV W H s) := by
  refine Ev.bind (f := fun k bt260 => (if bt260.2 = 0 then ((vitrineref06_Four.f W).bind fun t264 => ((vitrineref06_Four.f H).bind fun t265 => (if t264.size + t265.size ≤ 9223372036854775807 then (vitrineref15_Manifest.l0 k bt260.1 (t264 ++ t265) 0) else (none)))) else (some ((⟨#[]⟩ : ByteArray), bt260.2)))) (rCut_ev W H s) ?_
  unfold manV cutV
  by_cases hc : chk W H s = 0
  · have hc' := hc
    obtain ⟨w, h, rfl, rfl, h1, h2, h3, h4, h5, h6⟩ := chk_0 hc
    have e : be4 (w : Int) ++ be4 (h : Int) = manL w h (8 * w) h s 0 := by
      unfold manL cat
      rw [ByteArray.append_empty]
    simp only [if_pos hc', four_f (show (0 : Int) ≤ (w : Int) by omega) (by omega), four_f (show (0 : Int) ≤ (h : Int) by omega) (by omega), Option.bind_some, Int.toNat_natCast, if_true]
    refine Ev.congr (fun k => ?_) (rMan_loop (R := 8 * w) (h := h) w h h6 (by omega) h4 (mb h) 0 (by omega))
    rw [if_pos (by rw [be4_size, be4_size]; omega), e]
    rfl
  · simp only [if_neg hc]
    exact Ev.now _
theorem BandsManifest : ∀ (a0_0 : Int) (a0_1 : Int) (a0_2 : ByteArray), ((Lit.int .i64 a0_0).wf = true) → ((Lit.int .i64 a0_1).wf = true) → (a0_2.size ≤ 140737488351232) → ∃ k, vitrinelaw15_BandsManifest.f k a0_0 a0_1 a0_2 = some true := by
  intro W H s _ _ _
  refine Ev.rounds ?_
  refine Ev.bind (f := fun k bt326 => ((vitrineref15_Manifest.f k W H s).bind fun bt328 => (if bt326.1.toList = bt328.1.toList then (if bt326.2 = bt328.2 then ((vitrinelaw15_awake.f k).bind fun t330 => (some t330)) else (some false)) else (some false)))) (Man_ev W H s) ?_
  refine Ev.bind (f := fun k bt328 => (if (manV W H s).1.toList = bt328.1.toList then (if (manV W H s).2 = bt328.2 then ((vitrinelaw15_awake.f k).bind fun t330 => (some t330)) else (some false)) else (some false))) (rMan_ev W H s) ?_
  exact Ev.congr (fun k => by rw [if_pos rfl, if_pos rfl]) (ev_id awake15)

end Go.Proofs.Ytbonmhgihedjpaa.Pure
