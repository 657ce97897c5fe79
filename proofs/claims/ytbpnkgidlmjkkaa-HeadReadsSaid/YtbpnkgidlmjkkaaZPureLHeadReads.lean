/- HeadReads, plain: what chunks say of an image, as the document's answer says. Conditions: lists as long as the model allows. -/
import Derived.Test.YtbpnkgidlmjkkaaZPL08x3
import Derived.Test.YtbpnkgidlmjkkaaZPL08x4
import Derived.Test.YtbpnkgidlmjkkaaZPL08x5
import Derived.Test.YtbpnkgidlmjkkaaZPL08x13
import Derived.Test.YtbpnkgidlmjkkaaZPL08x14
import Derived.Test.YtbpnkgidlmjkkaaZPL08x16
import Derived.Test.YtbpnkgidlmjkkaaZPL08x21
import Derived.Test.YtbpnkgidlmjkkaaZPL08x22
import Derived.Test.YtbpnkgidlmjkkaaZPL08x23
import Derived.Test.YtbpnkgidlmjkkaaZPL08S
import Derived.Test.YtbpnkgidlmjkkaaZWMore
import Derived.Laws.Strings
namespace Go.Proofs.Ytbpnkgidlmjkkaa.Pure
open Go.RowKit Go.Proofs.YtbpnkgidlmjkkaaW.PrintWords Go.Proofs.YtbpnkgidlmjkkaaW.PrintLast Go.Proofs.YtbpnkgidlmjkkaaW.PrintMore Go.Proofs.Ytbpnkgidlmjkkaa.PL08
set_option linter.unusedVariables false
set_option linter.unusedSimpArgs false
theorem w64 {x : Int} (h1 : -9223372036854775808 ≤ x) (h2 : x ≤ 9223372036854775807) : wrap64 x = x := by
  unfold wrap64
  omega
theorem w64_bt (s : ByteArray) (i : Int) : wrap64 (bt s i) = bt s i := by
  have := bt_range s i
  exact w64 (by omega) (by omega)
theorem toList_data (s : ByteArray) : s.toList = s.data.toList := by
  exact ByteArray.toList_eq s
theorem ev_same {α : Type} {g : Nat → Option α} {r r' : α} (h : Ev g r) (e : r = r') : Ev g r' := e ▸ h
/-- The place of a number in a list, from place i on; -1: none. -/
def idx : List Int → Int → Nat → Int
  | [], _, _ => -1
  | x :: xs, v, i => if v = x then (i : Int) else idx xs v (i + 1)
theorem index_loop (l : List Int) (v : Int) (hl : l.length ≤ 4611686018427387904) : ∀ d i : Nat, i + d = l.length → Ev (fun k => slices_Index_int_int.l0 k l v (l.length : Int) (i : Int)) (idx (l.drop i) v i) := by
  intro d
  induction d with
  | zero =>
    intro i hi
    have e : l.drop i = [] := List.drop_of_length_le (by omega)
    rw [e]
    refine Ev.step (f := fun _ => some (-1)) (fun k => ?_) (Ev.now _)
    simp only [slices_Index_int_int.l0]
    rw [if_neg (by omega)]
  | succ d ih =>
    intro i hi
    have hlt : i < l.length := by omega
    have w1 : wrap64 ((i : Int) + 1) = ((i + 1 : Nat) : Int) := by rw [w64 (by omega) (by omega)]; rfl
    have hr : rd l (i : Int) = l[i] := by
      unfold rd
      rw [List.getD_eq_getElem?_getD, Int.toNat_natCast, List.getElem?_eq_getElem hlt]
      rfl
    rw [List.drop_eq_getElem_cons hlt]
    unfold idx
    by_cases h : v = l[i]
    · rw [if_pos h]
      refine Ev.step (f := fun _ => some (i : Int)) (fun k => ?_) (Ev.now _)
      simp only [slices_Index_int_int.l0]
      rw [if_pos (by omega), if_pos (by omega), if_pos (by omega), hr, if_pos h]
    · rw [if_neg h]
      refine Ev.step (fun k => ?_) (ih (i + 1) (by omega))
      simp only [slices_Index_int_int.l0]
      rw [if_pos (by omega), if_pos (by omega), if_pos (by omega), hr, if_neg h, w1]
theorem index_ev (l : List Int) (v : Int) (hl : l.length ≤ 4611686018427387904) : Ev (fun k => slices_Index_int_int.f k l v) (idx l v 0) := by
  unfold slices_Index_int_int.f
  exact index_loop l v hl l.length 0 (by omega)
theorem contains_ev (l : List Int) (v : Int) (hl : l.length ≤ 4611686018427387904) : Ev (fun k => slices_Contains_int_int.f k l v) (decide (idx l v 0 ≥ 0)) := by
  unfold slices_Contains_int_int.f
  exact Ev.bind (index_ev l v hl) (Ev.now _)
/-- The depths of a colour. -/
def dep (c d : Int) : Prop := (c = 0 ∧ (d = 1 ∨ d = 2 ∨ d = 4 ∨ d = 8 ∨ d = 16)) ∨ (c = 3 ∧ (d = 1 ∨ d = 2 ∨ d = 4 ∨ d = 8)) ∨ ((c = 2 ∨ c = 4 ∨ c = 6) ∧ (d = 8 ∨ d = 16))
instance (c d : Int) : Decidable (dep c d) := by unfold dep; infer_instance
/-- Which heads may be: 0; else what is wrong. -/
def rgt (W H D C L : Int) : Int := if 1 ≤ W ∧ W ≤ 2147483647 ∧ 1 ≤ H ∧ H ≤ 2147483647 ∧ dep C D ∧ (L = 0 ∨ L = 1) then (if W > 1024 ∨ H > 1024 ∨ W * H > 4096 then 5 else 0) else 24
theorem rgt_0 {W H D C L : Int} (h : rgt W H D C L = 0) : 1 ≤ W ∧ W ≤ 1024 ∧ 1 ≤ H ∧ H ≤ 1024 ∧ W * H ≤ 4096 ∧ dep C D ∧ (L = 0 ∨ L = 1) := by
  unfold rgt at h
  by_cases hc : 1 ≤ W ∧ W ≤ 2147483647 ∧ 1 ≤ H ∧ H ≤ 2147483647 ∧ dep C D ∧ (L = 0 ∨ L = 1)
  · rw [if_pos hc] at h
    by_cases h2 : W > 1024 ∨ H > 1024 ∨ W * H > 4096
    · rw [if_pos h2] at h; omega
    · obtain ⟨a, _, b, _, c, d⟩ := hc
      exact ⟨a, by omega, b, by omega, by omega, c, d⟩
  · rw [if_neg hc] at h; omega
theorem rgt_area {W H : Int} (h1 : 1 ≤ W) (h2 : W ≤ 2147483647) (h3 : 1 ≤ H) (h4 : H ≤ 2147483647) : wrap64 (W * H) = W * H := by
  have h5 : W * H ≤ 2147483647 * 2147483647 := Int.mul_le_mul h2 h4 (by omega) (by omega)
  have h6 : 0 ≤ W * H := Int.mul_nonneg (by omega) (by omega)
  exact w64 (by omega) (by omega)
theorem andNot1 {x : Int} (h1 : -9223372036854775808 ≤ x) (h2 : x ≤ 9223372036854775807) : (Go.bits .andNot .i64 x 1 != 0) = !decide (x = 0 ∨ x = 1) := by
  by_cases h0 : x = 0
  · subst h0; decide
  · by_cases h3 : x = 1
    · subst h3; decide
    · rw [decide_eq_false (by omega)]
      refine bne_iff_ne.mpr fun hz => ?_
      have e : Go.bits .andNot .i64 x 1 = IntKind.i64.wrap ((BitVec.ofInt 64 x &&& ~~~ BitVec.ofInt 64 1).toNat : Int) := rfl
      rw [e, IntKind.wrap_i64] at hz
      generalize hb : BitVec.ofInt 64 x = b at hz
      have hlt := (b &&& ~~~ BitVec.ofInt 64 1).isLt
      have hn : (b &&& ~~~ BitVec.ofInt 64 1).toNat = 0 := by omega
      have hv : b &&& ~~~ BitVec.ofInt 64 1 = 0#64 := BitVec.eq_of_toNat_eq hn
      have hs : b >>> 1 = 0#64 := by
        apply BitVec.eq_of_getLsbD_eq
        intro i hi
        rw [BitVec.getLsbD_ushiftRight]
        by_cases h63 : 1 + i < 64
        · have h4 : (b &&& ~~~ BitVec.ofInt 64 1).getLsbD (1 + i) = false := by rw [hv]; simp
          have h5 : (BitVec.ofInt 64 1).getLsbD (1 + i) = false := by
            show (1#64).getLsbD (1 + i) = false
            rw [BitVec.getLsbD_one]
            simp
          rw [BitVec.getLsbD_and, BitVec.getLsbD_not, h5] at h4
          simp only [h63, decide_true, Bool.not_false, Bool.and_true] at h4
          rw [h4]
          simp
        · simp [BitVec.getLsbD_of_ge b (1 + i) (by omega)]
      have h6 : (b >>> 1).toNat = 0 := by rw [hs]; rfl
      rw [BitVec.toNat_ushiftRight, Nat.shiftRight_eq_div_pow] at h6
      have h7 : b.toNat = (x % 18446744073709551616).toNat := by rw [← hb, BitVec.toNat_ofInt]; rfl
      omega
theorem side_f (n : Int) : head_side.f n = some (decide (1 ≤ n ∧ n ≤ 2147483647)) := by
  unfold head_side.f
  by_cases h : n ≥ 1
  · rw [if_pos h]
    congr 1
    by_cases h2 : n ≤ 2147483647
    · rw [decide_eq_true h2, decide_eq_true ⟨h, h2⟩]
    · rw [decide_eq_false h2, decide_eq_false (by omega)]
  · rw [if_neg h, decide_eq_false (by omega)]
/-- The list of a colour's depths. -/
def deps (c : Int) : List Int := if c = 0 then [1, 2, 4, 8, 16] else if c = 3 then [1, 2, 4, 8] else if c = 2 ∨ c = 4 ∨ c = 6 then [8, 16] else []
theorem depths_ev (c : Int) : Ev (fun k => head_depths.f k c) (deps c) := by
  have hj : ∀ b : Bool, Ev (fun k => head_depths.j0 k b) (if b = true then [8, 16] else []) := by
    intro b
    refine Ev.step (f := fun _ => some (if b = true then [8, 16] else [])) (fun k => ?_) (Ev.now _)
    simp only [head_depths.j0]
    cases b <;> rfl
  unfold head_depths.f deps
  by_cases h0 : c = 0
  · simp only [if_pos h0]; exact Ev.now _
  · simp only [if_neg h0]
    by_cases h3 : c = 3
    · simp only [if_pos h3]; exact Ev.now _
    · simp only [if_neg h3]
      by_cases h2 : c = 2
      · subst h2; exact ev_same (hj _) (by decide)
      · simp only [if_neg h2]
        by_cases h4 : c = 4
        · subst h4; exact ev_same (hj _) (by decide)
        · simp only [if_neg h4]
          refine ev_same (hj _) ?_
          by_cases h6 : c = 6
          · subst h6; decide
          · rw [if_neg (by simpa using h6), if_neg (by omega)]
theorem deps_has (c d : Int) : decide (idx (deps c) d 0 ≥ 0) = decide (dep c d) := by
  have key : ∀ (l : List Int) (i : Nat), (idx l d i ≥ 0 ↔ d ∈ l) := by
    intro l
    induction l with
    | nil => intro i; simp [idx]
    | cons x xs ih =>
      intro i
      unfold idx
      by_cases h : d = x
      · rw [if_pos h]; simp [h]
      · rw [if_neg h, ih]; simp [h]
  have h := key (deps c) 0
  have h2 : d ∈ deps c ↔ dep c d := by
    unfold deps dep
    by_cases h0 : c = 0
    · rw [if_pos h0]; simp; omega
    · rw [if_neg h0]
      by_cases h3 : c = 3
      · rw [if_pos h3]; simp; omega
      · rw [if_neg h3]
        by_cases h4 : c = 2 ∨ c = 4 ∨ c = 6
        · rw [if_pos h4]; simp; omega
        · rw [if_neg h4]; simp; omega
  rw [decide_eq_decide]
  exact h.trans h2
theorem Right_ev (W H D C L : Int) (hL : -9223372036854775808 ≤ L ∧ L ≤ 9223372036854775807) : Ev (fun k => head_Right.f k W H D C L) (rgt W H D C L) := by
  have hj1 : Ev (fun k => head_Right.j0 k true W H D C L) 24 := by
    refine Ev.step (f := fun _ => some 24) (fun k => ?_) (Ev.now _)
    simp only [head_Right.j0]
    rw [if_pos trivial]
  have hj0 : 1 ≤ W → W ≤ 2147483647 → 1 ≤ H → H ≤ 2147483647 → Ev (fun k => head_Right.j0 k false W H D C L) (if W > 1024 ∨ H > 1024 ∨ W * H > 4096 then 5 else 0) := by
    intro h1 h2 h3 h4
    refine Ev.step (f := fun _ => some (if W > 1024 ∨ H > 1024 ∨ W * H > 4096 then 5 else 0)) (fun k => ?_) (Ev.now _)
    simp only [head_Right.j0]
    rw [if_neg (by decide), rgt_area h1 h2 h3 h4]
    by_cases h5 : mx W H > 1024
    · rw [if_pos h5, if_pos (by unfold mx at h5; omega)]
    · rw [if_neg h5]
      by_cases h6 : W * H > 4096
      · rw [if_pos h6, if_pos (.inr (.inr h6))]
      · rw [if_neg h6, if_neg (by unfold mx at h5; omega)]
  unfold head_Right.f
  simp only [side_f, Option.bind_some]
  unfold rgt
  by_cases hW : 1 ≤ W ∧ W ≤ 2147483647
  · rw [decide_eq_true hW]
    simp only [if_true]
    by_cases hH : 1 ≤ H ∧ H ≤ 2147483647
    · rw [decide_eq_true hH]
      simp only [if_true]
      refine Ev.bind (depths_ev C) ?_
      refine Ev.bind (contains_ev (deps C) D (by unfold deps; split; simp; split; simp; split <;> simp)) ?_
      rw [deps_has]
      by_cases hd : dep C D
      · rw [decide_eq_true hd]
        simp only [if_true]
        rw [andNot1 hL.1 hL.2]
        by_cases hl : L = 0 ∨ L = 1
        · rw [decide_eq_true hl, if_pos ⟨hW.1, hW.2, hH.1, hH.2, hd, hl⟩]
          exact hj0 hW.1 hW.2 hH.1 hH.2
        · rw [decide_eq_false hl, if_neg (fun h => hl h.2.2.2.2.2)]
          exact hj1
      · rw [decide_eq_false hd, if_neg (fun h => hd h.2.2.2.2.1)]
        simp only [Bool.false_eq_true, if_false]
        exact hj1
    · rw [decide_eq_false hH, if_neg (fun h => hH ⟨h.2.2.1, h.2.2.2.1⟩)]
      simp only [Bool.false_eq_true, if_false]
      exact hj1
  · rw [decide_eq_false hW, if_neg (fun h => hW ⟨h.1, h.2.1⟩)]
    simp only [Bool.false_eq_true, if_false]
    exact hj1
theorem rRight_ev (W H D C L : Int) : Ev (fun k => vitrineref08_Right.f k W H D C L) (rgt W H D C L) := by
  have h4 : ∀ b : Bool, Ev (fun k => vitrineref08_Right.j4 k b) (if b = true then 5 else 0) := by
    intro b
    refine Ev.step (f := fun _ => some (if b = true then 5 else 0)) (fun k => ?_) (Ev.now _)
    simp only [vitrineref08_Right.j4]
    cases b <;> rfl
  have h3 : ∀ b : Bool, (b = false → 1 ≤ W ∧ W ≤ 2147483647 ∧ 1 ≤ H ∧ H ≤ 2147483647) → Ev (fun k => vitrineref08_Right.j3 k b W H D C L) (if b = true then 24 else if W > 1024 ∨ H > 1024 ∨ W * H > 4096 then 5 else 0) := by
    intro b hb
    cases b with
    | true =>
      refine Ev.step (f := fun _ => some 24) (fun k => ?_) (Ev.now _)
      simp only [vitrineref08_Right.j3, if_true]
    | false =>
      obtain ⟨a1, a2, a3, a4⟩ := hb rfl
      simp only [Bool.false_eq_true, if_false]
      by_cases hw : W > 1024
      · refine Ev.step (fun k => ?_) (ev_same (h4 true) (by rw [if_pos rfl, if_pos (.inl hw)]))
        simp only [vitrineref08_Right.j3]
        rw [if_neg (by decide), if_pos hw]
      · by_cases hh : H > 1024
        · refine Ev.step (fun k => ?_) (ev_same (h4 true) (by rw [if_pos rfl, if_pos (.inr (.inl hh))]))
          simp only [vitrineref08_Right.j3]
          rw [if_neg (by decide), if_neg hw, if_pos hh]
        · refine Ev.step (fun k => ?_) (ev_same (h4 (decide (W * H > 4096))) ?_)
          · simp only [vitrineref08_Right.j3]
            rw [if_neg (by decide), if_neg hw, if_neg hh, rgt_area a1 a2 a3 a4]
          · by_cases hz : W * H > 4096
            · rw [decide_eq_true hz, if_pos rfl, if_pos (.inr (.inr hz))]
            · rw [decide_eq_false hz, if_neg (by decide), if_neg (by omega)]
  have h2 : ∀ b : Bool, (b = true ↔ dep C D) → Ev (fun k => vitrineref08_Right.j2 k b W H D C L) (rgt W H D C L) := by
    intro b hb
    have bad : ¬ (1 ≤ W ∧ W ≤ 2147483647 ∧ 1 ≤ H ∧ H ≤ 2147483647 ∧ dep C D ∧ (L = 0 ∨ L = 1)) → Ev (fun k => vitrineref08_Right.j3 k true W H D C L) (rgt W H D C L) := fun hn =>
      ev_same (h3 true (fun e => by cases e)) (by unfold rgt; rw [if_neg hn, if_pos rfl])
    by_cases c1 : W < 1
    · refine Ev.step (fun k => ?_) (bad (by omega))
      simp only [vitrineref08_Right.j2]; rw [if_pos c1]
    · by_cases c2 : W > 2147483647
      · refine Ev.step (fun k => ?_) (bad (by omega))
        simp only [vitrineref08_Right.j2]; rw [if_neg c1, if_pos c2]
      · by_cases c3 : H < 1
        · refine Ev.step (fun k => ?_) (bad (by omega))
          simp only [vitrineref08_Right.j2]; rw [if_neg c1, if_neg c2, if_pos c3]
        · by_cases c4 : H > 2147483647
          · refine Ev.step (fun k => ?_) (bad (by omega))
            simp only [vitrineref08_Right.j2]; rw [if_neg c1, if_neg c2, if_neg c3, if_pos c4]
          · by_cases c5 : b = true
            · by_cases c6 : L = 0
              · refine Ev.step (fun k => ?_) (ev_same (h3 false (fun _ => by omega)) ?_)
                · simp only [vitrineref08_Right.j2]; rw [if_neg c1, if_neg c2, if_neg c3, if_neg c4, if_pos c5, if_pos c6]
                · unfold rgt; rw [if_neg (by decide), if_pos (show (1 ≤ W ∧ W ≤ 2147483647 ∧ 1 ≤ H ∧ H ≤ 2147483647 ∧ dep C D ∧ (L = 0 ∨ L = 1)) from ⟨by omega, by omega, by omega, by omega, hb.1 c5, .inl c6⟩)]
              · refine Ev.step (fun k => ?_) (ev_same (h3 (L != 1) (fun _ => by omega)) ?_)
                · simp only [vitrineref08_Right.j2]; rw [if_neg c1, if_neg c2, if_neg c3, if_neg c4, if_pos c5, if_neg c6]
                · unfold rgt
                  by_cases c7 : L = 1
                  · rw [if_neg (by simp [c7]), if_pos (show (1 ≤ W ∧ W ≤ 2147483647 ∧ 1 ≤ H ∧ H ≤ 2147483647 ∧ dep C D ∧ (L = 0 ∨ L = 1)) from ⟨by omega, by omega, by omega, by omega, hb.1 c5, .inr c7⟩)]
                  · rw [if_pos (by simpa using c7), if_neg (by omega)]
            · refine Ev.step (fun k => ?_) (bad (fun h => c5 (hb.2 h.2.2.2.2.1)))
              simp only [vitrineref08_Right.j2]; rw [if_neg c1, if_neg c2, if_neg c3, if_neg c4, if_neg c5]
  have h1 : ∀ b : Bool, C ≠ 0 → C ≠ 3 → (b = true ↔ (C = 2 ∨ C = 4 ∨ C = 6)) → Ev (fun k => vitrineref08_Right.j1 k D false b W H D C L) (rgt W H D C L) := by
    intro b n0 n3 hb
    by_cases c1 : b = true
    · have hc := hb.1 c1
      by_cases c2 : D = 8
      · refine Ev.step (fun k => ?_) (h2 true ⟨fun _ => Or.inr (Or.inr ⟨hc, Or.inl c2⟩), fun _ => rfl⟩)
        simp only [vitrineref08_Right.j1]; rw [if_pos c1, if_pos c2]
      · refine Ev.step (fun k => ?_) (h2 (D == 16) ?_)
        · simp only [vitrineref08_Right.j1]; rw [if_pos c1, if_neg c2]
        · unfold dep; rw [beq_iff_eq]; omega
    · refine Ev.step (fun k => ?_) (h2 false ?_)
      · simp only [vitrineref08_Right.j1]; rw [if_neg c1]
      · refine ⟨fun e => (by cases e), fun h => ?_⟩
        exact absurd (hb.2 (by unfold dep at h; omega)) c1
  have h0 : ∀ b : Bool, (b = true ↔ (D = 1 ∨ D = 2 ∨ D = 4)) → Ev (fun k => vitrineref08_Right.j0 k D b W H D C L) (rgt W H D C L) := by
    intro b hb
    by_cases c0 : C = 0
    · by_cases c1 : b = true
      · have := hb.1 c1
        refine Ev.step (fun k => ?_) (h2 true ⟨fun _ => .inl ⟨c0, by omega⟩, fun _ => rfl⟩)
        simp only [vitrineref08_Right.j0]; rw [if_pos c0, if_pos c1]
      · have hnb : ¬ (D = 1 ∨ D = 2 ∨ D = 4) := fun h => c1 (hb.2 h)
        by_cases c2 : D = 8
        · refine Ev.step (fun k => ?_) (h2 true ⟨fun _ => .inl ⟨c0, by omega⟩, fun _ => rfl⟩)
          simp only [vitrineref08_Right.j0]; rw [if_pos c0, if_neg c1, if_pos c2]
        · refine Ev.step (fun k => ?_) (h2 (D == 16) ?_)
          · simp only [vitrineref08_Right.j0]; rw [if_pos c0, if_neg c1, if_neg c2]
          · unfold dep; rw [beq_iff_eq]; omega
    · by_cases c3 : C = 3
      · by_cases c1 : b = true
        · have := hb.1 c1
          refine Ev.step (fun k => ?_) (h2 true ⟨fun _ => .inr (.inl ⟨c3, by omega⟩), fun _ => rfl⟩)
          simp only [vitrineref08_Right.j0]; rw [if_neg c0, if_pos c3, if_pos c1]
        · have hnb : ¬ (D = 1 ∨ D = 2 ∨ D = 4) := fun h => c1 (hb.2 h)
          refine Ev.step (fun k => ?_) (h2 (D == 8) ?_)
          · simp only [vitrineref08_Right.j0]; rw [if_neg c0, if_pos c3, if_neg c1]
          · unfold dep; rw [beq_iff_eq]; omega
      · by_cases c2 : C = 2
        · refine Ev.step (fun k => ?_) (h1 (C == 2) c0 c3 (by rw [beq_iff_eq]; omega))
          simp only [vitrineref08_Right.j0]; rw [if_neg c0, if_neg c3, if_pos c2]
        · by_cases c4 : C = 4
          · refine Ev.step (fun k => ?_) (h1 (C == 4) c0 c3 (by rw [beq_iff_eq]; omega))
            simp only [vitrineref08_Right.j0]; rw [if_neg c0, if_neg c3, if_neg c2, if_pos c4]
          · refine Ev.step (fun k => ?_) (h1 (C == 6) c0 c3 (by rw [beq_iff_eq]; omega))
            simp only [vitrineref08_Right.j0]; rw [if_neg c0, if_neg c3, if_neg c2, if_neg c4]
  unfold vitrineref08_Right.f
  by_cases d1 : D = 1
  · simp only [if_pos d1]; exact h0 true ⟨fun _ => .inl d1, fun _ => rfl⟩
  · simp only [if_neg d1]
    by_cases d2 : D = 2
    · simp only [if_pos d2]; exact h0 true ⟨fun _ => .inr (.inl d2), fun _ => rfl⟩
    · simp only [if_neg d2]; exact h0 (D == 4) (by rw [beq_iff_eq]; omega)
theorem aw_id : Ev (fun _ : Nat => (vitrinelaw08_awake.f).bind fun t => some t) true := Ev.now _
theorem crit_some (ty : ByteArray) : ∃ b, chunk_Critical.f ty = some b := by
  unfold chunk_Critical.f
  by_cases h : ty.toList = ([] : List UInt8)
  · exact ⟨false, by rw [if_pos h]⟩
  · rw [if_neg h]
    have h1 : 0 < (ty.size : Int) := by
      have : ty.size ≠ 0 := fun e => h (by rw [ByteArray.size_eq_zero_iff.1 e]; simp)
      omega
    rw [if_pos h1]
    unfold chunk_capital.f
    by_cases h2 : bt ty 0 ≥ 65
    · rw [if_pos h2]; exact ⟨_, rfl⟩
    · rw [if_neg h2]; exact ⟨_, rfl⟩
theorem loop_some : ∀ (l : List S30) (s : HSt), ∃ r, head_loop l s = some r
  | [], s => ⟨_, rfl⟩
  | c :: r, s => by
    unfold head_loop
    by_cases h : c.f0.toList = [73, 69, 78, 68]
    · rw [if_pos h]
      by_cases h2 : endsV s c.f1 (r.length : Int) = 0
      · rw [if_pos h2]; exact ⟨_, rfl⟩
      · rw [if_neg h2]; exact ⟨_, rfl⟩
    · rw [if_neg h]
      obtain ⟨b, hb⟩ := crit_some c.f0
      rw [hb, Option.bind_some]
      by_cases h2 : (takesV s b c.f0 c.f1).1 = 0
      · rw [if_pos h2]; exact loop_some r _
      · rw [if_neg h2]; exact ⟨_, rfl⟩
/-- What is read: the first chunk's answer, then the loop's. -/
theorem read_ev (c : S30) (r : List S30) (p : Int × Int × Int × Int × Int × Int) (q : HOut) (hp : Ev (fun k => firstV k c.f0 c.f1) p) (hq : (if p.2.2.2.2.2 = 0 then head_loop r (st0 p.1 p.2.1 p.2.2.1 p.2.2.2.1 p.2.2.2.2.1) else some (outE p.2.2.2.2.2)) = some q) : Ev (fun k => readV k (c :: r)) q := by
  unfold readV
  exact Ev.bind hp ⟨0, fun _ _ => hq⟩
def outT (r : HOut) : Int × Int × Int × Int × Int × ByteArray × ByteArray × Bool × ByteArray × Int := (r.W, r.H, r.D, r.C, r.L, r.pal, r.tr, r.ht, r.data, r.e)
theorem Read_ev (l : List S30) (q : HOut) (h1 : l.length ≤ 4611686018427387904) (h2 : szs l ≤ 140737488355328) (h : Ev (fun k => readV k l) q) : Ev (fun k => head_Read.f k l) (outT q) := by
  unfold head_Read.f
  simp only [if_pos (show l.length ≤ 4611686018427387904 ∧ szs l ≤ 140737488355328 from ⟨h1, h2⟩)]
  exact Ev.bind h (Ev.now _)
theorem rdT_get {l : List S30} {i : Nat} (h : i < l.length) : rd_T30 l (i : Int) = l[i] := by
  unfold rd_T30
  rw [Int.toNat_natCast, List.getD_eq_getElem?_getD, List.getElem?_eq_getElem h]
  rfl
theorem few_l0 (l : List S30) (hl : l.length ≤ 4398046511104) (hz : ∀ c ∈ l, c.f1.size ≤ 140737488351232) : ∀ (d i n : Nat), l.length - i = d → i ≤ l.length → n ≤ 100000 → ∃ b, Ev (fun k => vitrinelaw08_few.l0 k l (n : Int) (i : Int)) b ∧ (b = true → n + 12 * d + szs (l.drop i) ≤ 100000)
  | 0, i, n, hd, hi, hn => by
    refine ⟨true, Ev.step (f := fun _ => some true) (fun k => ?_) (Ev.now _), fun _ => ?_⟩
    · simp only [vitrinelaw08_few.l0]
      rw [if_neg (by omega)]
    · rw [List.drop_of_length_le (by omega)]
      show n + 12 * 0 + 0 ≤ _
      omega
  | d + 1, i, n, hd, hi, hn => by
    have hlt : i < l.length := by omega
    have hc := hz _ (List.getElem_mem hlt)
    have he : l.drop i = l[i] :: l.drop (i + 1) := List.drop_eq_getElem_cons hlt
    have w1 : wrap64 ((wrap64 ((n : Int) + 12)) + ((l[i]).f1.size : Int)) = ((n + 12 + (l[i]).f1.size : Nat) : Int) := by
      rw [w64 (x := (n : Int) + 12) (by omega) (by omega), w64 (by omega) (by omega)]
      omega
    have w2 : wrap64 ((i : Int) + 1) = ((i + 1 : Nat) : Int) := by
      rw [w64 (by omega) (by omega)]
      omega
    by_cases hb : n + 12 + (l[i]).f1.size > 100000
    · refine ⟨false, Ev.step (f := fun _ => some false) (fun k => ?_) (Ev.now _), fun h => by cases h⟩
      simp only [vitrinelaw08_few.l0]
      rw [if_pos (by omega), if_pos (by omega), rdT_get hlt, w1, if_pos (by omega)]
    · obtain ⟨b, h1, h2⟩ := few_l0 l hl hz d (i + 1) (n + 12 + (l[i]).f1.size) (by omega) (by omega) (by omega)
      refine ⟨b, Ev.step (fun k => ?_) h1, fun h => ?_⟩
      · simp only [vitrinelaw08_few.l0]
        rw [if_pos (by omega), if_pos (by omega), rdT_get hlt, w1, if_neg (by omega), w2]
      · have := h2 h
        rw [he]
        show n + 12 * (d + 1) + ((l[i]).f1.size + szs (l.drop (i + 1))) ≤ _
        omega
theorem few_ev (l : List S30) (hl : l.length ≤ 4398046511104) (hz : ∀ c ∈ l, c.f1.size ≤ 140737488351232) : ∃ b, Ev (fun k => vitrinelaw08_few.f k l) b ∧ (b = true → 12 * l.length + szs l ≤ 100000) := by
  obtain ⟨b, h1, h2⟩ := few_l0 l hl hz l.length 0 0 (by omega) (by omega) (by omega)
  exact ⟨b, h1, fun h => by have := h2 h; rw [List.drop_zero] at this; omega⟩
theorem wrapi64 {x : Int} (h1 : -9223372036854775808 ≤ x) (h2 : x ≤ 9223372036854775807) : IntKind.i64.wrap x = x := by
  rw [IntKind.wrap_i64]
  omega
theorem or_join {x y : Int} (i : Nat) (hx : x % 2 ^ i = 0) (hx0 : 0 ≤ x) (hx1 : x < 2 ^ 62) (hy0 : 0 ≤ y) (hy1 : y < 2 ^ i) (hy2 : y < 2 ^ 62) : Go.bits .or .i64 x y = x + y :=
  bits_join .i64 62 (by decide) (fun n h0 h1 => wrapi64 (by omega) (by omega)) i x y hx0 hx hx1 hy0 hy1 hy2
theorem toList_nil (s : ByteArray) : s.toList = [] ↔ s.size = 0 := by
  rw [toList_data, ← data_length, List.length_eq_zero_iff]
theorem toList_eq {s t : ByteArray} : s.toList = t.toList ↔ s = t := by
  rw [toList_data, toList_data]
  constructor
  · intro h
    cases s; cases t
    simp only [ByteArray.mk.injEq]
    exact Array.toList_inj.1 h
  · intro h; rw [h]
theorem bt_extract (s : ByteArray) (a b : Nat) (i : Nat) (h : a + i < b) (hb : b ≤ s.size) : bt (s.extract a b) (i : Int) = bt s ((a + i : Nat) : Int) := by
  have h1 : i < (s.extract a b).size := by rw [ByteArray.size_extract]; omega
  unfold bt
  rw [dif_pos (by simpa using h1), dif_pos (show ((a + i : Nat) : Int).toNat < s.size by simp; omega)]
  simp only [Int.toNat_natCast]
  rw [ByteArray.getElem_extract]
def num4 (s : ByteArray) : Int := bt s 0 * 16777216 + bt s 1 * 65536 + bt s 2 * 256 + bt s 3
theorem num4_extract (s : ByteArray) (a b : Nat) (h : a + 4 ≤ b) (hb : b ≤ s.size) : num4 (s.extract a b) = num4 (s.extract a (a + 4)) := by
  unfold num4
  rw [show (0 : Int) = ((0 : Nat) : Int) from rfl, show (1 : Int) = ((1 : Nat) : Int) from rfl, show (2 : Int) = ((2 : Nat) : Int) from rfl, show (3 : Int) = ((3 : Nat) : Int) from rfl,
    bt_extract _ _ _ _ (by omega) hb, bt_extract _ _ _ _ (by omega) hb, bt_extract _ _ _ _ (by omega) hb, bt_extract _ _ _ _ (by omega) hb, bt_extract _ _ _ _ (by omega) (by omega), bt_extract _ _ _ _ (by omega) (by omega), bt_extract _ _ _ _ (by omega) (by omega), bt_extract _ _ _ _ (by omega) (by omega)]
theorem or4 (s : ByteArray) : Go.bits .or .i64 (Go.bits .or .i64 (Go.bits .or .i64 (wrap64 ((wrap64 (bt s 0)) * 16777216)) (wrap64 ((wrap64 (bt s 1)) * 65536))) (wrap64 ((wrap64 (bt s 2)) * 256))) (wrap64 (bt s 3)) = num4 s := by
  have h0 := bt_range s 0; have h1 := bt_range s 1; have h2 := bt_range s 2; have h3 := bt_range s 3
  unfold num4
  rw [w64_bt, w64_bt, w64_bt, w64_bt]
  generalize bt s 0 = a at *
  generalize bt s 1 = b at *
  generalize bt s 2 = c at *
  generalize bt s 3 = d at *
  rw [w64 (x := a * 16777216) (by omega) (by omega), w64 (x := b * 65536) (by omega) (by omega), w64 (x := c * 256) (by omega) (by omega)]
  rw [or_join (x := a * 16777216) (y := b * 65536) 24 (by omega) (by omega) (by omega) (by omega) (by omega) (by omega), or_join (x := a * 16777216 + b * 65536) (y := c * 256) 16 (by omega) (by omega) (by omega) (by omega) (by omega) (by omega), or_join (x := a * 16777216 + b * 65536 + c * 256) (y := d) 8 (by omega) (by omega) (by omega) (by omega) (by omega) (by omega)]
theorem of_loop (s : ByteArray) (hs : s.size = 4) : Ev (fun k => vitrineref06_Of.l0 k s 0 0) (num4 s) := by
  have h0 := bt_range s 0; have h1 := bt_range s 1; have h2 := bt_range s 2; have h3 := bt_range s 3
  refine Ev.step (f := fun k => vitrineref06_Of.l0 k s (bt s 0) 1) (fun k => ?_) ?_
  · simp only [vitrineref06_Of.l0]
    rw [if_pos (by omega), if_pos (by omega), w64_bt, w64 (x := 256 * 0) (by omega) (by omega), w64 (x := 256 * 0 + bt s 0) (by omega) (by omega), w64 (x := 0 + 1) (by omega) (by omega)]
    congr 1 <;> omega
  refine Ev.step (f := fun k => vitrineref06_Of.l0 k s (256 * bt s 0 + bt s 1) 2) (fun k => ?_) ?_
  · simp only [vitrineref06_Of.l0]
    rw [if_pos (by omega), if_pos (by omega), w64_bt, w64 (x := 256 * bt s 0) (by omega) (by omega), w64 (x := 256 * bt s 0 + bt s 1) (by omega) (by omega), w64 (x := 1 + 1) (by omega) (by omega)]
    rfl
  refine Ev.step (f := fun k => vitrineref06_Of.l0 k s (256 * (256 * bt s 0 + bt s 1) + bt s 2) 3) (fun k => ?_) ?_
  · simp only [vitrineref06_Of.l0]
    rw [if_pos (by omega), if_pos (by omega), w64_bt, w64 (x := 256 * (256 * bt s 0 + bt s 1)) (by omega) (by omega), w64 (x := 256 * (256 * bt s 0 + bt s 1) + bt s 2) (by omega) (by omega), w64 (x := 2 + 1) (by omega) (by omega)]
    rfl
  refine Ev.step (f := fun k => vitrineref06_Of.l0 k s (256 * (256 * (256 * bt s 0 + bt s 1) + bt s 2) + bt s 3) 4) (fun k => ?_) ?_
  · simp only [vitrineref06_Of.l0]
    rw [if_pos (by omega), if_pos (by omega), w64_bt, w64 (x := 256 * (256 * (256 * bt s 0 + bt s 1) + bt s 2)) (by omega) (by omega), w64 (x := 256 * (256 * (256 * bt s 0 + bt s 1) + bt s 2) + bt s 3) (by omega) (by omega), w64 (x := 3 + 1) (by omega) (by omega)]
    rfl
  refine Ev.step (f := fun _ => some (num4 s)) (fun k => ?_) (Ev.now _)
  simp only [vitrineref06_Of.l0]
  rw [if_neg (by omega)]
  unfold num4
  congr 1
  omega
theorem Of_ev (s : ByteArray) (hs : s.size = 4) : Ev (fun k => vitrineref06_Of.f k s) (num4 s) := by
  unfold vitrineref06_Of.f
  exact of_loop s hs
theorem shl13 {D : Int} (h : D = 1 ∨ D = 2 ∨ D = 4 ∨ D = 8 ∨ D = 16) : shl .i64 3 D = 3 * shl .i64 1 D := by
  rcases h with h | h | h | h | h <;> subst h <;> rfl
theorem dep_D {c d : Int} (h : dep c d) : d = 1 ∨ d = 2 ∨ d = 4 ∨ d = 8 ∨ d = 16 := by unfold dep at h; omega
theorem dep_C {c d : Int} (h : dep c d) : c = 0 ∨ c = 2 ∨ c = 3 ∨ c = 4 ∨ c = 6 := by unfold dep at h; omega
/-- Both go on alike, or stop with one error. -/
def Alike (a b : Int × HSt) : Prop := a = b ∨ (a.1 = b.1 ∧ a.1 ≠ 0)
theorem plt_alike (s : HSt) (d : ByteArray) (hd : dep s.C s.D) : Alike ((plteV s d).1, (plteV s d).2.late)
    (if s.plt = true then (23, s) else if s.ht = true then (23, s) else if s.idat = true then (23, s)
    else if s.C = 0 then (25, s) else if s.C = 4 then (25, s) else if ¬ (d.size : Int) % 3 = 0 then (25, s) else if (d.size : Int) < 3 then (25, s) else if 768 < (d.size : Int) then (25, s)
    else if s.C = 3 then (if shl .i64 3 s.D < (d.size : Int) then (25, s) else (0, { s with plt := true, pal := d, gap := s.idat })) else (0, { s with plt := true, pal := d, gap := s.idat })) := by
  unfold plteV
  by_cases h1 : s.plt = true
  · rw [if_pos h1, if_pos h1]; exact .inr ⟨rfl, by simp⟩
  rw [if_neg h1, if_neg h1]
  by_cases h2 : s.ht = true
  · rw [if_pos h2, if_pos h2]; exact .inr ⟨rfl, by simp⟩
  rw [if_neg h2, if_neg h2]
  by_cases h3 : s.idat = true
  · rw [if_pos h3, if_pos h3]; exact .inr ⟨rfl, by simp⟩
  rw [if_neg h3, if_neg h3]
  by_cases h4 : s.C = 0
  · rw [if_pos h4, if_pos h4]; exact .inr ⟨rfl, by simp⟩
  rw [if_neg h4, if_neg h4]
  by_cases h5 : s.C = 4
  · rw [if_pos h5, if_pos h5]; exact .inr ⟨rfl, by simp⟩
  rw [if_neg h5, if_neg h5]
  by_cases h6 : ¬ (d.size : Int) % 3 = 0
  · rw [if_pos h6, if_pos h6]; exact .inr ⟨rfl, by simp⟩
  rw [if_neg h6, if_neg h6]
  by_cases h7 : d.toList = ([] : List UInt8)
  · rw [if_pos h7, if_pos (by have := (toList_nil d).1 h7; omega)]; exact .inr ⟨rfl, by simp⟩
  have h7' : ¬ (d.size : Int) < 3 := fun h => h7 ((toList_nil d).2 (by omega))
  rw [if_neg h7, if_neg h7']
  by_cases h8 : 768 < (d.size : Int)
  · rw [if_pos h8, if_pos h8]; exact .inr ⟨rfl, by simp⟩
  rw [if_neg h8, if_neg h8]
  by_cases h9 : s.C = 3
  · rw [if_pos h9, if_pos h9]
    have hs := shl13 (dep_D hd)
    by_cases ha : shl .i64 1 s.D < (d.size : Int) / 3
    · rw [if_pos ha, if_pos (by rw [hs]; omega)]; exact .inr ⟨rfl, by simp⟩
    · rw [if_neg ha, if_neg (by rw [hs]; omega)]; exact .inl rfl
  · rw [if_neg h9, if_neg h9]; exact .inl rfl
theorem trn_alike (s : HSt) (d : ByteArray) (hd : dep s.C s.D) : Alike ((trnsV s d).1, (trnsV s d).2.late)
    (if s.ht = true then (23, s) else if s.idat = true then (23, s) else if s.C = 3 then (if s.plt = true then (if (s.pal.size : Int) / 3 < (d.size : Int) then (26, s) else (0, { s with ht := true, tr := d, gap := s.idat })) else (23, s))
    else if s.C = 4 then (26, s) else if s.C = 6 then (26, s) else if s.C = 0 then (if (d.size : Int) = 2 then (0, { s with ht := true, tr := d, gap := s.idat }) else (26, s)) else if s.C = 2 then (if (d.size : Int) = 6 then (0, { s with ht := true, tr := d, gap := s.idat }) else (26, s)) else (0, { s with ht := true, tr := d, gap := s.idat })) := by
  have hC := dep_C hd
  unfold trnsV
  by_cases h2 : s.ht = true
  · rw [if_pos h2, if_pos h2]; exact .inr ⟨rfl, by simp⟩
  rw [if_neg h2, if_neg h2]
  by_cases h3 : s.idat = true
  · rw [if_pos h3, if_pos h3]; exact .inr ⟨rfl, by simp⟩
  rw [if_neg h3, if_neg h3]
  by_cases h4 : s.C = 3
  · rw [if_pos h4, if_pos h4]
    by_cases h5 : s.plt = true
    · rw [if_pos h5, if_pos h5]
      by_cases h6 : (d.size : Int) ≤ (s.pal.size : Int) / 3
      · rw [if_pos h6, if_neg (by omega)]; exact .inl rfl
      · rw [if_neg h6, if_pos (by omega)]; exact .inr ⟨rfl, by simp⟩
    · rw [if_neg h5, if_neg h5]; exact .inr ⟨rfl, by simp⟩
  rw [if_neg h4, if_neg h4]
  by_cases h5 : s.C = 0
  · rw [if_pos h5, if_neg (show ¬ s.C = 4 by omega), if_neg (show ¬ s.C = 6 by omega), if_pos h5]
    by_cases h6 : (d.size : Int) = 2
    · rw [if_pos h6, if_pos h6]; exact .inl rfl
    · rw [if_neg h6, if_neg h6]; exact .inr ⟨rfl, by simp⟩
  rw [if_neg h5]
  by_cases h6 : s.C = 2
  · rw [if_pos h6, if_neg (show ¬ s.C = 4 by omega), if_neg (show ¬ s.C = 6 by omega), if_neg h5, if_pos h6]
    by_cases h7 : (d.size : Int) = 6
    · rw [if_pos h7, if_pos h7]; exact .inl rfl
    · rw [if_neg h7, if_neg h7]; exact .inr ⟨rfl, by simp⟩
  rw [if_neg h6]
  by_cases h7 : s.C = 4
  · rw [if_pos h7]; exact .inr ⟨rfl, by simp⟩
  · rw [if_neg h7, if_pos (show s.C = 6 by omega)]; exact .inr ⟨rfl, by simp⟩
theorem step_alike (s : HSt) (ty d : ByteArray) (cr : Bool) (hc : chunk_Critical.f ty = some cr) (hd : dep s.C s.D) : Alike (takesV s cr ty d) (refStep s ty d) := by
  unfold takesV refStep
  by_cases h1 : ty.toList = [73, 72, 68, 82]
  · rw [if_pos h1, if_pos h1]; exact .inr ⟨rfl, by simp⟩
  rw [if_neg h1, if_neg h1]
  by_cases h2 : ty.toList = [80, 76, 84, 69]
  · rw [if_pos h2, if_pos h2]; exact plt_alike s d hd
  rw [if_neg h2, if_neg h2]
  by_cases h3 : ty.toList = [116, 82, 78, 83]
  · rw [if_pos h3, if_pos h3]; exact trn_alike s d hd
  rw [if_neg h3, if_neg h3]
  by_cases h4 : ty.toList = [73, 68, 65, 84]
  · rw [if_pos h4, if_pos h4]
    by_cases h5 : s.gap = true
    · simp only [if_pos h5]
      by_cases h6 : s.C = 3
      · rw [if_pos h6]
        by_cases h7 : s.plt = true
        · rw [if_pos h7]; exact .inr ⟨rfl, by simp⟩
        · rw [if_neg h7]; exact .inr ⟨rfl, by simp⟩
      · rw [if_neg h6]; exact .inr ⟨rfl, by simp⟩
    · simp only [if_neg h5]
      by_cases h6 : s.C = 3
      · rw [if_pos h6, if_pos h6]
        by_cases h7 : s.plt = true
        · rw [if_pos h7, if_pos h7]; exact .inl rfl
        · rw [if_neg h7, if_neg h7]; exact .inr ⟨rfl, by simp⟩
      · rw [if_neg h6, if_neg h6]; exact .inl rfl
  rw [if_neg h4, if_neg h4]
  unfold chunk_Critical.f at hc
  by_cases h5 : ty.toList = ([] : List UInt8)
  · rw [if_pos h5] at hc
    cases hc
    have h6 : ¬ 0 < (ty.size : Int) := by have := (toList_nil ty).1 h5; omega
    rw [if_neg h6, if_neg (by decide)]
    exact .inl rfl
  · rw [if_neg h5] at hc
    have h6 : 0 < (ty.size : Int) := by
      have : ty.size ≠ 0 := fun e => h5 ((toList_nil ty).2 e)
      omega
    rw [if_pos h6] at hc ⊢
    unfold chunk_capital.f at hc
    by_cases h7 : bt ty 0 ≥ 65
    · rw [if_pos h7] at hc
      rw [if_pos (show 65 ≤ bt ty 0 from h7)]
      simp only [Option.bind_some, Option.some.injEq] at hc
      by_cases h8 : bt ty 0 ≤ 90
      · rw [decide_eq_true h8] at hc
        subst hc
        rw [if_pos rfl, if_pos h8]
        exact .inr ⟨rfl, by simp⟩
      · rw [decide_eq_false h8] at hc
        subst hc
        rw [if_neg (by decide), if_neg h8]
        exact .inl rfl
    · rw [if_neg h7] at hc
      simp only [Option.bind_some, Option.some.injEq] at hc
      subst hc
      rw [if_neg (by decide), if_neg (show ¬ 65 ≤ bt ty 0 from h7)]
      exact .inl rfl
theorem loops_eq : ∀ (l : List S30) (s : HSt), dep s.C s.D → s.pal.size ≤ 768 → head_loop l s = refLoop l s
  | [], _, _, _ => rfl
  | c :: r, s, hd, hp => by
    rw [head_loop, refLoop]
    by_cases h : c.f0.toList = [73, 69, 78, 68]
    · rw [if_pos h, if_pos h]
      unfold endsV
      by_cases h1 : c.f1.toList = ([] : List UInt8)
      · have h1' : (c.f1.size : Int) = 0 := by have := (toList_nil c.f1).1 h1; omega
        simp only [if_pos h1, if_pos h1']
        by_cases h2 : s.idat = true
        · simp only [if_pos h2]
          by_cases h3 : 0 < r.length
          · rw [if_pos h3]
            simp only [if_pos (show (0 : Int) < (r.length : Int) by omega)]
            rfl
          · rw [if_neg h3]
            simp only [if_neg (show ¬ (0 : Int) < (r.length : Int) by omega), if_true]
        · simp only [if_neg h2]
          rfl
      · have h1' : ¬ (c.f1.size : Int) = 0 := fun e => h1 ((toList_nil c.f1).2 (by omega))
        simp only [if_neg h1, if_neg h1']
        rfl
    · rw [if_neg h, if_neg h]
      obtain ⟨b, hb⟩ := crit_some c.f0
      rw [hb, Option.bind_some]
      rcases step_alike s c.f0 c.f1 b hb hd with e | ⟨e, e0⟩
      · rw [← e]
        obtain ⟨k1, k2, _, k4⟩ := takesV_keeps s b c.f0 c.f1 hp
        by_cases h0 : (takesV s b c.f0 c.f1).1 = 0
        · rw [if_pos h0, if_pos h0]
          exact loops_eq r _ (by rw [k1, k2]; exact hd) k4
        · rw [if_neg h0, if_neg h0]
      · rw [if_neg e0, ← e, if_neg e0]
theorem ref_ev (c : S30) (r : List S30) : ∃ q, Ev (fun k => readV k (c :: r)) q ∧ Ev (fun k => refV k (c :: r)) q := by
  by_cases y : c.f0.toList = [73, 72, 68, 82]
  · by_cases z : (c.f1.size : Int) = 13 ∧ bt c.f1 10 = 0 ∧ bt c.f1 11 = 0
    · have hs : c.f1.size = 13 := by omega
      have n1 : numV c.f1 = num4 c.f1 := or4 c.f1
      have n2 : numV (c.f1.extract 4 c.f1.size) = num4 (c.f1.extract 4 8) := (or4 _).trans (num4_extract c.f1 4 c.f1.size (by omega) (by omega))
      have o1 := Of_ev (c.f1.extract 0 4) (by rw [ByteArray.size_extract]; omega)
      have o2 := Of_ev (c.f1.extract 4 8) (by rw [ByteArray.size_extract]; omega)
      have n3 : num4 (c.f1.extract 0 4) = num4 c.f1 := by
        have e := num4_extract c.f1 0 c.f1.size (by omega) (Nat.le_refl _)
        rw [ByteArray.extract_zero_size] at e
        exact e.symm
      rw [n3] at o1
      have hb := bt_range c.f1 12
      have hR1 := Right_ev (num4 c.f1) (num4 (c.f1.extract 4 8)) (wrap64 (bt c.f1 8)) (wrap64 (bt c.f1 9)) (wrap64 (bt c.f1 12)) (by rw [w64_bt]; omega)
      have hR2 := rRight_ev (num4 c.f1) (num4 (c.f1.extract 4 8)) (wrap64 (bt c.f1 8)) (wrap64 (bt c.f1 9)) (wrap64 (bt c.f1 12))
      have hf : Ev (fun k => firstV k c.f0 c.f1) (num4 c.f1, num4 (c.f1.extract 4 8), wrap64 (bt c.f1 8), wrap64 (bt c.f1 9), wrap64 (bt c.f1 12), rgt (num4 c.f1) (num4 (c.f1.extract 4 8)) (wrap64 (bt c.f1 8)) (wrap64 (bt c.f1 9)) (wrap64 (bt c.f1 12))) := by
        unfold firstV
        simp only [if_pos y, if_pos z, n1, n2]
        exact Ev.bind hR1 (Ev.now _)
      by_cases e0 : rgt (num4 c.f1) (num4 (c.f1.extract 4 8)) (wrap64 (bt c.f1 8)) (wrap64 (bt c.f1 9)) (wrap64 (bt c.f1 12)) = 0
      · have hdep := (rgt_0 e0).2.2.2.2.2.1
        have hD := dep_D hdep
        obtain ⟨q, hq⟩ := loop_some r (st0 (num4 c.f1) (num4 (c.f1.extract 4 8)) (wrap64 (bt c.f1 8)) (wrap64 (bt c.f1 9)) (wrap64 (bt c.f1 12)))
        have hq2 := hq
        rw [loops_eq r (st0 (num4 c.f1) (num4 (c.f1.extract 4 8)) (wrap64 (bt c.f1 8)) (wrap64 (bt c.f1 9)) (wrap64 (bt c.f1 12))) hdep (show (0 : Nat) ≤ 768 by decide)] at hq2
        refine ⟨q, read_ev c r _ q hf (by rw [if_pos e0]; exact hq), ?_⟩
        unfold refV
        simp only [if_pos y, if_pos z]
        refine Ev.bind o1 (Ev.bind o2 (Ev.bind hR2 ?_))
        rw [if_pos (show wrap64 (bt c.f1 8) ≤ 16 by omega), if_pos e0]
        exact ⟨0, fun _ _ => hq2⟩
      · refine ⟨_, read_ev c r _ _ hf (by rw [if_neg e0]), ?_⟩
        unfold refV
        simp only [if_pos y, if_pos z]
        refine Ev.bind o1 (Ev.bind o2 (Ev.bind hR2 ?_))
        by_cases hD : wrap64 (bt c.f1 8) ≤ 16
        · rw [if_pos hD, if_neg e0]; exact Ev.now _
        · rw [if_neg hD, if_neg e0]; exact Ev.now _
    · refine ⟨outE 24, read_ev c r (0, 0, 0, 0, 0, 24) _ ?_ (by rw [if_neg (by decide)]), ?_⟩
      · unfold firstV
        simp only [if_pos y, if_neg z]
        exact Ev.now _
      · unfold refV
        simp only [if_pos y, if_neg z]
        exact Ev.now _
  · refine ⟨outE 23, read_ev c r (0, 0, 0, 0, 0, 23) _ ?_ (by rw [if_neg (by decide)]), ?_⟩
    · unfold firstV
      simp only [if_neg y]
      exact Ev.now _
    · unfold refV
      simp only [if_neg y]
      exact Ev.now _
theorem RefRead_ev (l : List S30) (q : HOut) (h1 : l.length ≤ 4611686018427387904) (h2 : szs l ≤ 140737488355328) (h : Ev (fun k => refV k l) q) : Ev (fun k => vitrineref08_Read.f k l) (outT q) := by
  unfold vitrineref08_Read.f
  simp only [if_pos (show l.length ≤ 4611686018427387904 ∧ szs l ≤ 140737488355328 from ⟨h1, h2⟩)]
  exact Ev.bind h (Ev.now _)
theorem reads_l0 (l : List S30) (hl : l.length ≤ 4398046511104) (t5 : ByteArray) (t6 : Int) (a b c d e : Int) (f g : ByteArray) (h : Bool) : ∀ (n i : Nat), i + n = l.length → Ev (fun k => vitrinelaw08_HeadReads.l0 k l l t5 t6 t5 t6 (i : Int) a b c d e f g h a b c d e f g h) true
  | 0, i, hi => by
    refine Ev.step (fun k => ?_) aw_id
    simp only [vitrinelaw08_HeadReads.l0]
    rw [if_neg (by omega)]
    simp only [beq_self_eq_true, Bool.and_self, if_true]
  | n + 1, i, hi => by
    have w1 : wrap64 ((i : Int) + 1) = ((i + 1 : Nat) : Int) := by rw [w64 (by omega) (by omega)]; omega
    refine Ev.step (fun k => ?_) (reads_l0 l hl t5 t6 a b c d e f g h n (i + 1) (by omega))
    simp only [vitrinelaw08_HeadReads.l0]
    rw [if_pos (by omega), if_pos (by omega), if_pos (by omega), if_neg (by simp), w1]
theorem HeadReads : ∀ (l0 : List (S30)), (l0.length ≤ maxLen ∧ l0.length * 32 ≤ 140737488351232 ∧ ∀ y_ ∈ l0, okS30 y_) → ∃ k, vitrinelaw08_HeadReads.f k l0 = some true := by
  intro l hl
  refine Ev.rounds ?_
  unfold vitrinelaw08_HeadReads.f
  obtain ⟨b, b1, b2⟩ := few_ev l (by omega) (fun c hc => (hl.2.2 c hc).2)
  refine Ev.bind b1 ?_
  cases b with
  | false =>
    simp only [Bool.false_eq_true, if_false]
    exact aw_id
  | true =>
    have hz := b2 rfl
    simp only [if_true, Option.bind_some, List.nil_append, List.length_nil, Nat.zero_add]
    simp only [if_pos (show l.length < 4398046511104 by omega)]
    have hq : ∃ q, Ev (fun k => readV k l) q ∧ Ev (fun k => refV k l) q := by
      cases l with
      | nil => exact ⟨outE 23, Ev.now _, Ev.now _⟩
      | cons c r => exact ref_ev c r
    obtain ⟨q, q1, q2⟩ := hq
    refine Ev.bind (Read_ev l q (by omega) (by omega) q1) (Ev.bind (RefRead_ev l q (by omega) (by omega) q2) ?_)
    exact reads_l0 l (by omega) _ _ _ _ _ _ _ _ _ _ l.length 0 (by omega)

end Go.Proofs.Ytbpnkgidlmjkkaa.Pure
