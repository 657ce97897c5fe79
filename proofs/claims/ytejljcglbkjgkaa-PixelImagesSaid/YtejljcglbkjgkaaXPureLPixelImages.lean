/- PixelImages, plain: which raster an image's packed bytes are, or what is wrong with them first, as the document's answer says. Conditions: whole numbers of 64 bits, strings of at most 2^47 - 4096 bytes. -/
import Derived.Test.YtejljcglbkjgkaaXPL12x5
import Derived.Test.YtejljcglbkjgkaaXPL12x8
import Derived.Test.YtejljcglbkjgkaaXPL12x10
import Derived.Test.YtejljcglbkjgkaaXPL12x12
import Derived.Test.YtejljcglbkjgkaaXPL12x14
import Derived.Test.YtejljcglbkjgkaaXPL12x15
import Derived.Test.YtejljcglbkjgkaaXPL12x17
import Derived.Test.YtejljcglbkjgkaaXPL12x21
import Derived.Test.YtejljcglbkjgkaaXPL12x26
import Derived.Test.YtejljcglbkjgkaaXPL12x33
import Derived.Test.YtejljcglbkjgkaaXPL12x36
import Derived.Test.YtejljcglbkjgkaaXPL12x37
import Derived.Test.YtejljcglbkjgkaaXPL12x39
import Derived.Test.YtejljcglbkjgkaaXPL12x42
import Derived.Test.YtejljcglbkjgkaaXWMore
import Derived.Laws.Strings
import Derived.KernelRfl
namespace Go.Proofs.Ytejljcglbkjgkaa.Pure
open Go.RowKit Go.Proofs.YtejljcglbkjgkaaW.PrintWords Go.Proofs.YtejljcglbkjgkaaW.PrintLast Go.Proofs.YtejljcglbkjgkaaW.PrintMore Go.Proofs.Ytejljcglbkjgkaa.PL12
set_option linter.unusedVariables false
set_option linter.unusedSimpArgs false
theorem w64 {x : Int} (h1 : -9223372036854775808 ≤ x) (h2 : x ≤ 9223372036854775807) : wrap64 x = x := by
  unfold wrap64
  omega
theorem w64_bt (s : ByteArray) (i : Int) : wrap64 (bt s i) = bt s i := by
  have := bt_range s i
  exact w64 (by omega) (by omega)
theorem wf_i64 {x : Int} (h : (Lit.int .i64 x).wf = true) : -9223372036854775808 ≤ x ∧ x ≤ 9223372036854775807 := by
  simpa [Lit.wf, IntKind.min, IntKind.max, IntKind.signed, IntKind.bits] using h
def Byt (xs : List Int) : Prop := ∀ x ∈ xs, 0 ≤ x ∧ x ≤ 255
theorem byt_rd {xs : List Int} (h : Byt xs) (i : Int) : 0 ≤ rd xs i ∧ rd xs i ≤ 255 := by
  unfold rd
  rw [List.getD_eq_getElem?_getD]
  cases e : xs[i.toNat]? with
  | none => simp
  | some x => exact h x (List.mem_of_getElem? e)
theorem toList_data (s : ByteArray) : s.toList = s.data.toList := by
  exact ByteArray.toList_eq s
theorem range_set {f : Nat → Int} {i d : Nat} (v : Int) (hv : v = f i) : ((List.range i).map f ++ List.replicate (d + 1) 0).set i v = (List.range (i + 1)).map f ++ List.replicate d 0 := by
  subst hv
  rw [List.set_append_right _ _ (by simp), List.range_succ, List.map_append, List.length_map, List.length_range, Nat.sub_self, List.replicate_succ, List.set_cons_zero]
  simp
theorem ev_same {α : Type} {g : Nat → Option α} {r r' : α} (h : Ev g r) (e : r = r') : Ev g r' := e ▸ h
theorem ev_id {α : Type} {g : Nat → Option α} {r : α} (h : Ev g r) : Ev (fun n => (g n).bind fun t => some t) r := Ev.bind (f := fun _ t => some t) h (Ev.now r)
def idx : List Int → Int → Nat → Int
  | [], _, _ => -1
  | x :: xs, v, i => if v = x then (i : Int) else idx xs v (i + 1)
theorem index_loop (l : List Int) (v : Int) (hl : l.length ≤ 4611686018427387904) : ∀ d i : Nat, i + d = l.length → Ev (fun k => slices_Index_int_int.l0 k l v (l.length : Int) (i : Int)) (idx (l.drop i) v i) := by
  intro d
  induction d with
  | zero =>
    intro i hi
    have e : l.drop i = [] := List.drop_of_length_le (by omega)
    rw [e]
    refine Ev.step (f := fun _ => some (-1)) (fun k => ?_) (Ev.now _)
    simp only [slices_Index_int_int.l0]
    rw [if_neg (by omega)]
  | succ d ih =>
    intro i hi
    have hlt : i < l.length := by omega
    have w1 : wrap64 ((i : Int) + 1) = ((i + 1 : Nat) : Int) := by rw [w64 (by omega) (by omega)]; rfl
    have hr : rd l (i : Int) = l[i] := by
      unfold rd
      rw [List.getD_eq_getElem?_getD, Int.toNat_natCast, List.getElem?_eq_getElem hlt]
      rfl
    rw [List.drop_eq_getElem_cons hlt]
    unfold idx
    by_cases h : v = l[i]
    · rw [if_pos h]
      refine Ev.step (f := fun _ => some (i : Int)) (fun k => ?_) (Ev.now _)
      simp only [slices_Index_int_int.l0]
      rw [if_pos (by omega), if_pos (by omega), if_pos (by omega), hr, if_pos h]
    · rw [if_neg h]
      refine Ev.step (fun k => ?_) (ih (i + 1) (by omega))
      simp only [slices_Index_int_int.l0]
      rw [if_pos (by omega), if_pos (by omega), if_pos (by omega), hr, if_neg h, w1]
theorem index_ev (l : List Int) (v : Int) (hl : l.length ≤ 4611686018427387904) : Ev (fun k => slices_Index_int_int.f k l v) (idx l v 0) := by
  unfold slices_Index_int_int.f
  exact index_loop l v hl l.length 0 (by omega)
theorem contains_ev (l : List Int) (v : Int) (hl : l.length ≤ 4611686018427387904) : Ev (fun k => slices_Contains_int_int.f k l v) (decide (idx l v 0 ≥ 0)) := by
  unfold slices_Contains_int_int.f
  exact Ev.bind (index_ev l v hl) (Ev.now _)
def dep (c d : Int) : Prop := (c = 0 ∧ (d = 1 ∨ d = 2 ∨ d = 4 ∨ d = 8 ∨ d = 16)) ∨ (c = 3 ∧ (d = 1 ∨ d = 2 ∨ d = 4 ∨ d = 8)) ∨ ((c = 2 ∨ c = 4 ∨ c = 6) ∧ (d = 8 ∨ d = 16))
instance (c d : Int) : Decidable (dep c d) := by unfold dep; infer_instance
def rgt (W H D C L : Int) : Int := if 1 ≤ W ∧ W ≤ 2147483647 ∧ 1 ≤ H ∧ H ≤ 2147483647 ∧ dep C D ∧ (L = 0 ∨ L = 1) then (if W > 1024 ∨ H > 1024 ∨ W * H > 4096 then 5 else 0) else 24
theorem rgt_0 {W H D C L : Int} (h : rgt W H D C L = 0) : 1 ≤ W ∧ W ≤ 1024 ∧ 1 ≤ H ∧ H ≤ 1024 ∧ W * H ≤ 4096 ∧ dep C D ∧ (L = 0 ∨ L = 1) := by
  unfold rgt at h
  by_cases hc : 1 ≤ W ∧ W ≤ 2147483647 ∧ 1 ≤ H ∧ H ≤ 2147483647 ∧ dep C D ∧ (L = 0 ∨ L = 1)
  · rw [if_pos hc] at h
    by_cases h2 : W > 1024 ∨ H > 1024 ∨ W * H > 4096
    · rw [if_pos h2] at h; omega
    · obtain ⟨a, _, b, _, c, d⟩ := hc
      exact ⟨a, by omega, b, by omega, by omega, c, d⟩
  · rw [if_neg hc] at h; omega
theorem rgt_area {W H : Int} (h1 : 1 ≤ W) (h2 : W ≤ 2147483647) (h3 : 1 ≤ H) (h4 : H ≤ 2147483647) : wrap64 (W * H) = W * H := by
  have h5 : W * H ≤ 2147483647 * 2147483647 := Int.mul_le_mul h2 h4 (by omega) (by omega)
  have h6 : 0 ≤ W * H := Int.mul_nonneg (by omega) (by omega)
  exact w64 (by omega) (by omega)
theorem andNot1 {x : Int} (h1 : -9223372036854775808 ≤ x) (h2 : x ≤ 9223372036854775807) : (Go.bits .andNot .i64 x 1 != 0) = !decide (x = 0 ∨ x = 1) := by
  by_cases h0 : x = 0
  · subst h0; decide
  · by_cases h3 : x = 1
    · subst h3; decide
    · rw [decide_eq_false (by omega)]
      refine bne_iff_ne.mpr fun hz => ?_
      have e : Go.bits .andNot .i64 x 1 = IntKind.i64.wrap ((BitVec.ofInt 64 x &&& ~~~ BitVec.ofInt 64 1).toNat : Int) := rfl
      rw [e, IntKind.wrap_i64] at hz
      generalize hb : BitVec.ofInt 64 x = b at hz
      have hlt := (b &&& ~~~ BitVec.ofInt 64 1).isLt
      have hn : (b &&& ~~~ BitVec.ofInt 64 1).toNat = 0 := by omega
      have hv : b &&& ~~~ BitVec.ofInt 64 1 = 0#64 := BitVec.eq_of_toNat_eq hn
      have hs : b >>> 1 = 0#64 := by
        apply BitVec.eq_of_getLsbD_eq
        intro i hi
        rw [BitVec.getLsbD_ushiftRight]
        by_cases h63 : 1 + i < 64
        · have h4 : (b &&& ~~~ BitVec.ofInt 64 1).getLsbD (1 + i) = false := by rw [hv]; simp
          have h5 : (BitVec.ofInt 64 1).getLsbD (1 + i) = false := by
            show (1#64).getLsbD (1 + i) = false
            rw [BitVec.getLsbD_one]
            simp
          rw [BitVec.getLsbD_and, BitVec.getLsbD_not, h5] at h4
          simp only [h63, decide_true, Bool.not_false, Bool.and_true] at h4
          rw [h4]
          simp
        · simp [BitVec.getLsbD_of_ge b (1 + i) (by omega)]
      have h6 : (b >>> 1).toNat = 0 := by rw [hs]; rfl
      rw [BitVec.toNat_ushiftRight, Nat.shiftRight_eq_div_pow] at h6
      have h7 : b.toNat = (x % 18446744073709551616).toNat := by rw [← hb, BitVec.toNat_ofInt]; rfl
      omega
theorem side_f (n : Int) : head_side.f n = some (decide (1 ≤ n ∧ n ≤ 2147483647)) := by
  unfold head_side.f
  by_cases h : n ≥ 1
  · rw [if_pos h]
    congr 1
    by_cases h2 : n ≤ 2147483647
    · rw [decide_eq_true h2, decide_eq_true ⟨h, h2⟩]
    · rw [decide_eq_false h2, decide_eq_false (by omega)]
  · rw [if_neg h, decide_eq_false (by omega)]
def deps (c : Int) : List Int := if c = 0 then [1, 2, 4, 8, 16] else if c = 3 then [1, 2, 4, 8] else if c = 2 ∨ c = 4 ∨ c = 6 then [8, 16] else []
theorem depths_ev (c : Int) : Ev (fun k => head_depths.f k c) (deps c) := by
  have hj : ∀ b : Bool, Ev (fun k => head_depths.j0 k b) (if b = true then [8, 16] else []) := by
    intro b
    refine Ev.step (f := fun _ => some (if b = true then [8, 16] else [])) (fun k => ?_) (Ev.now _)
    simp only [head_depths.j0]
    cases b <;> rfl
  unfold head_depths.f deps
  by_cases h0 : c = 0
  · simp only [if_pos h0]; exact Ev.now _
  · simp only [if_neg h0]
    by_cases h3 : c = 3
    · simp only [if_pos h3]; exact Ev.now _
    · simp only [if_neg h3]
      by_cases h2 : c = 2
      · subst h2; exact ev_same (hj _) (by decide)
      · simp only [if_neg h2]
        by_cases h4 : c = 4
        · subst h4; exact ev_same (hj _) (by decide)
        · simp only [if_neg h4]
          refine ev_same (hj _) ?_
          by_cases h6 : c = 6
          · subst h6; decide
          · rw [if_neg (by simpa using h6), if_neg (by omega)]
theorem deps_has (c d : Int) : decide (idx (deps c) d 0 ≥ 0) = decide (dep c d) := by
  have key : ∀ (l : List Int) (i : Nat), (idx l d i ≥ 0 ↔ d ∈ l) := by
    intro l
    induction l with
    | nil => intro i; simp [idx]
    | cons x xs ih =>
      intro i
      unfold idx
      by_cases h : d = x
      · rw [if_pos h]; simp [h]
      · rw [if_neg h, ih]; simp [h]
  have h := key (deps c) 0
  have h2 : d ∈ deps c ↔ dep c d := by
    unfold deps dep
    by_cases h0 : c = 0
    · rw [if_pos h0]; simp; omega
    · rw [if_neg h0]
      by_cases h3 : c = 3
      · rw [if_pos h3]; simp; omega
      · rw [if_neg h3]
        by_cases h4 : c = 2 ∨ c = 4 ∨ c = 6
        · rw [if_pos h4]; simp; omega
        · rw [if_neg h4]; simp; omega
  rw [decide_eq_decide]
  exact h.trans h2
theorem Right_ev (W H D C L : Int) (hL : -9223372036854775808 ≤ L ∧ L ≤ 9223372036854775807) : Ev (fun k => head_Right.f k W H D C L) (rgt W H D C L) := by
  have hj1 : Ev (fun k => head_Right.j0 k true W H D C L) 24 := by
    refine Ev.step (f := fun _ => some 24) (fun k => ?_) (Ev.now _)
    simp only [head_Right.j0]
    rw [if_pos trivial]
  have hj0 : 1 ≤ W → W ≤ 2147483647 → 1 ≤ H → H ≤ 2147483647 → Ev (fun k => head_Right.j0 k false W H D C L) (if W > 1024 ∨ H > 1024 ∨ W * H > 4096 then 5 else 0) := by
    intro h1 h2 h3 h4
    refine Ev.step (f := fun _ => some (if W > 1024 ∨ H > 1024 ∨ W * H > 4096 then 5 else 0)) (fun k => ?_) (Ev.now _)
    simp only [head_Right.j0]
    rw [if_neg (by decide), rgt_area h1 h2 h3 h4]
    by_cases h5 : mx W H > 1024
    · rw [if_pos h5, if_pos (by unfold mx at h5; omega)]
    · rw [if_neg h5]
      by_cases h6 : W * H > 4096
      · rw [if_pos h6, if_pos (.inr (.inr h6))]
      · rw [if_neg h6, if_neg (by unfold mx at h5; omega)]
  unfold head_Right.f
  simp only [side_f, Option.bind_some]
  unfold rgt
  by_cases hW : 1 ≤ W ∧ W ≤ 2147483647
  · rw [decide_eq_true hW]
    simp only [if_true]
    by_cases hH : 1 ≤ H ∧ H ≤ 2147483647
    · rw [decide_eq_true hH]
      simp only [if_true]
      refine Ev.bind (depths_ev C) ?_
      refine Ev.bind (contains_ev (deps C) D (by unfold deps; split; simp; split; simp; split <;> simp)) ?_
      rw [deps_has]
      by_cases hd : dep C D
      · rw [decide_eq_true hd]
        simp only [if_true]
        rw [andNot1 hL.1 hL.2]
        by_cases hl : L = 0 ∨ L = 1
        · rw [decide_eq_true hl, if_pos ⟨hW.1, hW.2, hH.1, hH.2, hd, hl⟩]
          exact hj0 hW.1 hW.2 hH.1 hH.2
        · rw [decide_eq_false hl, if_neg (fun h => hl h.2.2.2.2.2)]
          exact hj1
      · rw [decide_eq_false hd, if_neg (fun h => hd h.2.2.2.2.1)]
        simp only [Bool.false_eq_true, if_false]
        exact hj1
    · rw [decide_eq_false hH, if_neg (fun h => hH ⟨h.2.2.1, h.2.2.2.1⟩)]
      simp only [Bool.false_eq_true, if_false]
      exact hj1
  · rw [decide_eq_false hW, if_neg (fun h => hW ⟨h.1, h.2.1⟩)]
    simp only [Bool.false_eq_true, if_false]
    exact hj1
theorem rRight_ev (W H D C L : Int) : Ev (fun k => vitrineref08_Right.f k W H D C L) (rgt W H D C L) := by
  have h4 : ∀ b : Bool, Ev (fun k => vitrineref08_Right.j4 k b) (if b = true then 5 else 0) := by
    intro b
    refine Ev.step (f := fun _ => some (if b = true then 5 else 0)) (fun k => ?_) (Ev.now _)
    simp only [vitrineref08_Right.j4]
    cases b <;> rfl
  have h3 : ∀ b : Bool, (b = false → 1 ≤ W ∧ W ≤ 2147483647 ∧ 1 ≤ H ∧ H ≤ 2147483647) → Ev (fun k => vitrineref08_Right.j3 k b W H D C L) (if b = true then 24 else if W > 1024 ∨ H > 1024 ∨ W * H > 4096 then 5 else 0) := by
    intro b hb
    cases b with
    | true =>
      refine Ev.step (f := fun _ => some 24) (fun k => ?_) (Ev.now _)
      simp only [vitrineref08_Right.j3, if_true]
    | false =>
      obtain ⟨a1, a2, a3, a4⟩ := hb rfl
      simp only [Bool.false_eq_true, if_false]
      by_cases hw : W > 1024
      · refine Ev.step (fun k => ?_) (ev_same (h4 true) (by rw [if_pos rfl, if_pos (.inl hw)]))
        simp only [vitrineref08_Right.j3]
        rw [if_neg (by decide), if_pos hw]
      · by_cases hh : H > 1024
        · refine Ev.step (fun k => ?_) (ev_same (h4 true) (by rw [if_pos rfl, if_pos (.inr (.inl hh))]))
          simp only [vitrineref08_Right.j3]
          rw [if_neg (by decide), if_neg hw, if_pos hh]
        · refine Ev.step (fun k => ?_) (ev_same (h4 (decide (W * H > 4096))) ?_)
          · simp only [vitrineref08_Right.j3]
            rw [if_neg (by decide), if_neg hw, if_neg hh, rgt_area a1 a2 a3 a4]
          · by_cases hz : W * H > 4096
            · rw [decide_eq_true hz, if_pos rfl, if_pos (.inr (.inr hz))]
            · rw [decide_eq_false hz, if_neg (by decide), if_neg (by omega)]
  have h2 : ∀ b : Bool, (b = true ↔ dep C D) → Ev (fun k => vitrineref08_Right.j2 k b W H D C L) (rgt W H D C L) := by
    intro b hb
    have bad : ¬ (1 ≤ W ∧ W ≤ 2147483647 ∧ 1 ≤ H ∧ H ≤ 2147483647 ∧ dep C D ∧ (L = 0 ∨ L = 1)) → Ev (fun k => vitrineref08_Right.j3 k true W H D C L) (rgt W H D C L) := fun hn =>
      ev_same (h3 true (fun e => by cases e)) (by unfold rgt; rw [if_neg hn, if_pos rfl])
    by_cases c1 : W < 1
    · refine Ev.step (fun k => ?_) (bad (by omega))
      simp only [vitrineref08_Right.j2]; rw [if_pos c1]
    · by_cases c2 : W > 2147483647
      · refine Ev.step (fun k => ?_) (bad (by omega))
        simp only [vitrineref08_Right.j2]; rw [if_neg c1, if_pos c2]
      · by_cases c3 : H < 1
        · refine Ev.step (fun k => ?_) (bad (by omega))
          simp only [vitrineref08_Right.j2]; rw [if_neg c1, if_neg c2, if_pos c3]
        · by_cases c4 : H > 2147483647
          · refine Ev.step (fun k => ?_) (bad (by omega))
            simp only [vitrineref08_Right.j2]; rw [if_neg c1, if_neg c2, if_neg c3, if_pos c4]
          · by_cases c5 : b = true
            · by_cases c6 : L = 0
              · refine Ev.step (fun k => ?_) (ev_same (h3 false (fun _ => by omega)) ?_)
                · simp only [vitrineref08_Right.j2]; rw [if_neg c1, if_neg c2, if_neg c3, if_neg c4, if_pos c5, if_pos c6]
                · unfold rgt; rw [if_neg (by decide), if_pos (show (1 ≤ W ∧ W ≤ 2147483647 ∧ 1 ≤ H ∧ H ≤ 2147483647 ∧ dep C D ∧ (L = 0 ∨ L = 1)) from ⟨by omega, by omega, by omega, by omega, hb.1 c5, .inl c6⟩)]
              · refine Ev.step (fun k => ?_) (ev_same (h3 (L != 1) (fun _ => by omega)) ?_)
                · simp only [vitrineref08_Right.j2]; rw [if_neg c1, if_neg c2, if_neg c3, if_neg c4, if_pos c5, if_neg c6]
                · unfold rgt
                  by_cases c7 : L = 1
                  · rw [if_neg (by simp [c7]), if_pos (show (1 ≤ W ∧ W ≤ 2147483647 ∧ 1 ≤ H ∧ H ≤ 2147483647 ∧ dep C D ∧ (L = 0 ∨ L = 1)) from ⟨by omega, by omega, by omega, by omega, hb.1 c5, .inr c7⟩)]
                  · rw [if_pos (by simpa using c7), if_neg (by omega)]
            · refine Ev.step (fun k => ?_) (bad (fun h => c5 (hb.2 h.2.2.2.2.1)))
              simp only [vitrineref08_Right.j2]; rw [if_neg c1, if_neg c2, if_neg c3, if_neg c4, if_neg c5]
  have h1 : ∀ b : Bool, C ≠ 0 → C ≠ 3 → (b = true ↔ (C = 2 ∨ C = 4 ∨ C = 6)) → Ev (fun k => vitrineref08_Right.j1 k D false b W H D C L) (rgt W H D C L) := by
    intro b n0 n3 hb
    by_cases c1 : b = true
    · have hc := hb.1 c1
      by_cases c2 : D = 8
      · refine Ev.step (fun k => ?_) (h2 true ⟨fun _ => Or.inr (Or.inr ⟨hc, Or.inl c2⟩), fun _ => rfl⟩)
        simp only [vitrineref08_Right.j1]; rw [if_pos c1, if_pos c2]
      · refine Ev.step (fun k => ?_) (h2 (D == 16) ?_)
        · simp only [vitrineref08_Right.j1]; rw [if_pos c1, if_neg c2]
        · unfold dep; rw [beq_iff_eq]; omega
    · refine Ev.step (fun k => ?_) (h2 false ?_)
      · simp only [vitrineref08_Right.j1]; rw [if_neg c1]
      · refine ⟨fun e => (by cases e), fun h => ?_⟩
        exact absurd (hb.2 (by unfold dep at h; omega)) c1
  have h0 : ∀ b : Bool, (b = true ↔ (D = 1 ∨ D = 2 ∨ D = 4)) → Ev (fun k => vitrineref08_Right.j0 k D b W H D C L) (rgt W H D C L) := by
    intro b hb
    by_cases c0 : C = 0
    · by_cases c1 : b = true
      · have := hb.1 c1
        refine Ev.step (fun k => ?_) (h2 true ⟨fun _ => .inl ⟨c0, by omega⟩, fun _ => rfl⟩)
        simp only [vitrineref08_Right.j0]; rw [if_pos c0, if_pos c1]
      · have hnb : ¬ (D = 1 ∨ D = 2 ∨ D = 4) := fun h => c1 (hb.2 h)
        by_cases c2 : D = 8
        · refine Ev.step (fun k => ?_) (h2 true ⟨fun _ => .inl ⟨c0, by omega⟩, fun _ => rfl⟩)
          simp only [vitrineref08_Right.j0]; rw [if_pos c0, if_neg c1, if_pos c2]
        · refine Ev.step (fun k => ?_) (h2 (D == 16) ?_)
          · simp only [vitrineref08_Right.j0]; rw [if_pos c0, if_neg c1, if_neg c2]
          · unfold dep; rw [beq_iff_eq]; omega
    · by_cases c3 : C = 3
      · by_cases c1 : b = true
        · have := hb.1 c1
          refine Ev.step (fun k => ?_) (h2 true ⟨fun _ => .inr (.inl ⟨c3, by omega⟩), fun _ => rfl⟩)
          simp only [vitrineref08_Right.j0]; rw [if_neg c0, if_pos c3, if_pos c1]
        · have hnb : ¬ (D = 1 ∨ D = 2 ∨ D = 4) := fun h => c1 (hb.2 h)
          refine Ev.step (fun k => ?_) (h2 (D == 8) ?_)
          · simp only [vitrineref08_Right.j0]; rw [if_neg c0, if_pos c3, if_neg c1]
          · unfold dep; rw [beq_iff_eq]; omega
      · by_cases c2 : C = 2
        · refine Ev.step (fun k => ?_) (h1 (C == 2) c0 c3 (by rw [beq_iff_eq]; omega))
          simp only [vitrineref08_Right.j0]; rw [if_neg c0, if_neg c3, if_pos c2]
        · by_cases c4 : C = 4
          · refine Ev.step (fun k => ?_) (h1 (C == 4) c0 c3 (by rw [beq_iff_eq]; omega))
            simp only [vitrineref08_Right.j0]; rw [if_neg c0, if_neg c3, if_neg c2, if_pos c4]
          · refine Ev.step (fun k => ?_) (h1 (C == 6) c0 c3 (by rw [beq_iff_eq]; omega))
            simp only [vitrineref08_Right.j0]; rw [if_neg c0, if_neg c3, if_neg c2, if_neg c4]
  unfold vitrineref08_Right.f
  by_cases d1 : D = 1
  · simp only [if_pos d1]; exact h0 true ⟨fun _ => .inl d1, fun _ => rfl⟩
  · simp only [if_neg d1]
    by_cases d2 : D = 2
    · simp only [if_pos d2]; exact h0 true ⟨fun _ => .inr (.inl d2), fun _ => rfl⟩
    · simp only [if_neg d2]; exact h0 (D == 4) (by rw [beq_iff_eq]; omega)
theorem awake_ev : Ev (fun k => vitrinelaw12_awake.f k) true := Ev.of vitrinelaw12_awake.mono (k := 200) (by unfold vitrinelaw12_awake.f; simp only [toList_data]; decide +kernel)
theorem awake_id : Ev (fun k => (vitrinelaw12_awake.f k).bind fun t => some t) true := ev_id awake_ev
def smp (c : Int) : Int := if c = 0 ∨ c = 3 then 1 else if c = 2 then 3 else if c = 4 then 2 else if c = 6 then 4 else 0
theorem Samples_ev (c : Int) : Ev (fun k => head_Samples.f k c) (smp c) := by
  unfold head_Samples.f
  refine Ev.bind (index_ev [0, 4, 2, 6] c (by simp)) ?_
  unfold smp
  simp only [idx]
  by_cases h3 : c = 3
  · subst h3; exact ev_same (Ev.now _) (by decide +kernel)
  · rw [if_neg h3]
    by_cases h0 : c = 0
    · subst h0; exact ev_same (Ev.now _) (by decide +kernel)
    · by_cases h4 : c = 4
      · subst h4; exact ev_same (Ev.now _) (by decide +kernel)
      · by_cases h2 : c = 2
        · subst h2; exact ev_same (Ev.now _) (by decide +kernel)
        · by_cases h6 : c = 6
          · subst h6; exact ev_same (Ev.now _) (by decide +kernel)
          · rw [if_neg h0, if_neg h4, if_neg h2, if_neg h6, if_neg (by omega), if_neg h2, if_neg h4, if_neg h6]; exact ev_same (Ev.now _) (by decide +kernel)
theorem rSamples_ev (c : Int) : Ev (fun k => vitrineref08_Samples.f k c) (smp c) := by
  have hj : ∀ b : Bool, b = decide (c = 0 ∨ c = 3) → Ev (fun k => vitrineref08_Samples.j0 k c b) (smp c) := by
    intro b hb
    refine Ev.step (f := fun _ => some (smp c)) (fun k => ?_) (Ev.now _)
    simp only [vitrineref08_Samples.j0]
    unfold smp
    by_cases h : c = 0 ∨ c = 3
    · rw [if_pos h, hb, decide_eq_true h, if_pos rfl]
    · rw [if_neg h, hb, decide_eq_false h, if_neg (by decide)]
      by_cases h4 : c = 4
      · subst h4; rfl
      · by_cases h2 : c = 2
        · subst h2; rfl
        · rw [if_neg h4, if_neg h2, if_neg h2, if_neg h4]
          by_cases h6 : c = 6
          · rw [if_pos h6, if_pos h6]
          · rw [if_neg h6, if_neg h6]
  unfold vitrineref08_Samples.f
  by_cases h0 : c = 0
  · simp only [h0, if_true]
    have := hj true (by rw [decide_eq_true (.inl h0)])
    rw [h0] at this
    exact this
  · simp only [h0, if_false]
    refine hj (c == 3) ?_
    by_cases h3 : c = 3
    · subst h3; rfl
    · rw [decide_eq_false (by omega)]
      exact beq_eq_false_iff_ne.mpr h3
theorem w_succ {i : Nat} (h : i ≤ 4611686018427387904) : wrap64 ((i : Int) + 1) = ((i + 1 : Nat) : Int) := by rw [w64 (by omega) (by omega)]; omega
def stp (s : Int) : Prop := s = 1 ∨ s = 2 ∨ s = 4 ∨ s = 8
def cnt (n f s : Int) : Int := if n ≤ f then 0 else (n - f + s - 1) / s
theorem cnt_range {n f s : Int} (hs : stp s) (h0 : 0 ≤ f) (h1 : 1 ≤ n) : 0 ≤ cnt n f s ∧ cnt n f s ≤ n := by
  unfold cnt
  split
  · omega
  · rcases hs with rfl | rfl | rfl | rfl <;> omega
theorem lace_cnt_eq {n f s : Int} (hs : stp s) (h0 : 0 ≤ f) (h1 : f < s) (h2 : 1 ≤ n) (h3 : n ≤ 1024) : lace_cnt n f s = cnt n f s := by
  have hb : 1 ≤ s ∧ s ≤ 8 := by rcases hs with rfl | rfl | rfl | rfl <;> omega
  unfold lace_cnt cnt mx
  rw [w64 (x := n - f) (by omega) (by omega), w64 (x := n - f + s) (by omega) (by omega), w64 (x := n - f + s - 1) (by omega) (by omega), Int.tdiv_eq_ediv_of_nonneg (by omega)]
  have hq : 0 ≤ (n - f + s - 1) / s ∧ (n - f + s - 1) / s ≤ 1040 := by rcases hs with rfl | rfl | rfl | rfl <;> omega
  rw [w64 (by omega) (by omega)]
  by_cases hc : n ≤ f
  · rw [if_pos hc]
    rcases hs with rfl | rfl | rfl | rfl <;> split <;> omega
  · rw [if_neg hc]
    split <;> omega
theorem many_loop {n s : Int} (hs : stp s) (hn : n ≤ 1024) : ∀ (d : Nat) (acc i : Int), 0 ≤ i → i ≤ 1032 → n - i ≤ d → 0 ≤ acc → acc ≤ 4096 - d → d ≤ 2048 → Ev (fun k => vitrineref10_many.l0 k n s acc i) (acc + cnt n i s) := by
  intro d
  induction d with
  | zero =>
    intro acc i h0 h1 h2 _ _ _
    refine Ev.step (f := fun _ => some (acc + cnt n i s)) (fun k => ?_) (Ev.now _)
    simp only [vitrineref10_many.l0]
    rw [if_neg (by omega), cnt, if_pos (by omega), Int.add_zero]
  | succ d ih =>
    intro acc i h0 h1 h2 h3 h4 h5
    by_cases h : i < n
    · have hb : 1 ≤ s ∧ s ≤ 8 := by rcases hs with rfl | rfl | rfl | rfl <;> omega
      have e : acc + 1 + cnt n (i + s) s = acc + cnt n i s := by
        unfold cnt
        rw [if_neg (by omega : ¬ n ≤ i)]
        rcases hs with rfl | rfl | rfl | rfl <;> split <;> omega
      refine Ev.step (fun k => ?_) (ev_same (ih (acc + 1) (i + s) (by omega) (by omega) (by omega) (by omega) (by omega) (by omega)) e)
      simp only [vitrineref10_many.l0]
      rw [if_pos h, w64 (by omega) (by omega), w64 (by omega) (by omega)]
    · refine Ev.step (f := fun _ => some (acc + cnt n i s)) (fun k => ?_) (Ev.now _)
      simp only [vitrineref10_many.l0]
      rw [if_neg h, cnt, if_pos (by omega), Int.add_zero]
theorem many_ev {n f s : Int} (hs : stp s) (hn : n ≤ 1024) (h1 : 1 ≤ n) (h0 : 0 ≤ f) (h2 : f < s) : Ev (fun k => vitrineref10_many.f k n f s) (cnt n f s) := by
  have hb : 1 ≤ s ∧ s ≤ 8 := by rcases hs with rfl | rfl | rfl | rfl <;> omega
  unfold vitrineref10_many.f
  exact ev_same (many_loop hs hn 1024 0 f h0 (by omega) (by omega) (by omega) (by omega) (by omega)) (by omega)
def tabOk (p : S53) : Prop := 0 ≤ p.f0 ∧ p.f0 < p.f2 ∧ stp p.f2 ∧ 0 ≤ p.f1 ∧ p.f1 < p.f3 ∧ stp p.f3
def refone (W H : Int) (p : S53) : List (S53) := if cnt W p.f0 p.f2 > 0 ∧ cnt H p.f1 p.f3 > 0 then [⟨p.f0, p.f1, p.f2, p.f3, cnt W p.f0 p.f2, cnt H p.f1 p.f3⟩] else []
theorem refone_len (W H : Int) (p : S53) : (refone W H p).length ≤ 1 := by unfold refone; split <;> simp
theorem flat_len (W H : Int) (l : List (S53)) : (l.flatMap (refone W H)).length ≤ l.length := by
  induction l with
  | nil => simp
  | cons x xs ih =>
    rw [List.flatMap_cons, List.length_append, List.length_cons]
    have := refone_len W H x
    omega
theorem rd_at (l : List (S53)) (i : Nat) (h : i < l.length) : rd_T53 l (i : Int) = l[i] := by
  unfold rd_T53
  rw [List.getD_eq_getElem?_getD, Int.toNat_natCast, List.getElem?_eq_getElem h]
  rfl
theorem rpasses_loop {W H D C L : Int} (hW : 1 ≤ W) (hW2 : W ≤ 1024) (hH : 1 ≤ H) (hH2 : H ≤ 1024) (tab : List (S53)) (ht : ∀ p ∈ tab, tabOk p) (hl : tab.length ≤ 7) : ∀ (d i : Nat) (out : List (S53)), i + d = tab.length → out.length ≤ i → Ev (fun k => vitrineref10_Passes.l0 k tab out (i : Int) W H D C L) (out ++ (tab.drop i).flatMap (refone W H)) := by
  intro d
  induction d with
  | zero =>
    intro i out hi ho
    rw [List.drop_of_length_le (by omega), List.flatMap_nil, List.append_nil]
    refine Ev.step (f := fun _ => some out) (fun k => ?_) (Ev.now _)
    simp only [vitrineref10_Passes.l0]
    rw [if_neg (by omega)]
  | succ d ih =>
    intro i out hi ho
    have hlt : i < tab.length := by omega
    obtain ⟨a0, a1, a2, a3, a4, a5⟩ := ht _ (List.getElem_mem hlt)
    have hr := rd_at tab i hlt
    have hw := w_succ (i := i) (by omega)
    rw [List.drop_eq_getElem_cons hlt, List.flatMap_cons]
    have m1 := many_ev (n := W) a2 hW2 hW a0 a1
    have m2 := many_ev (n := H) a5 hH2 hH a3 a4
    generalize tab[i] = p at *
    refine Ev.step (f := fun k => ((vitrineref10_many.f k W p.f0 p.f2).bind fun t133 => ((vitrineref10_many.f k H p.f1 p.f3).bind fun t134 => (if t133 > 0 then (if t134 > 0 then (if out.length < 2932031007402 then (vitrineref10_Passes.l0 k tab (out ++ [(⟨p.f0, p.f1, p.f2, p.f3, t133, t134⟩ : S53)]) ((i + 1 : Nat) : Int) W H D C L) else (none)) else (vitrineref10_Passes.l0 k tab out ((i + 1 : Nat) : Int) W H D C L)) else (vitrineref10_Passes.l0 k tab out ((i + 1 : Nat) : Int) W H D C L))))) (fun k => ?_) ?_
    · simp only [vitrineref10_Passes.l0]
      rw [if_pos (by omega), if_pos (by omega), hr, hw]
    · refine Ev.bind m1 (Ev.bind m2 ?_)
      unfold refone
      by_cases c1 : cnt W p.f0 p.f2 > 0
      · simp only [if_pos c1]
        by_cases c2 : cnt H p.f1 p.f3 > 0
        · simp only [if_pos c2]
          simp only [if_pos (show out.length < 2932031007402 by omega), if_pos (And.intro c1 c2)]
          have := ih (i + 1) (out ++ [(⟨p.f0, p.f1, p.f2, p.f3, cnt W p.f0 p.f2, cnt H p.f1 p.f3⟩ : S53)]) (by omega) (by simp; omega)
          rw [List.append_assoc] at this
          exact this
        · simp only [if_neg c2]
          rw [if_neg (fun h => c2 h.2), List.nil_append]
          exact ih (i + 1) out (by omega) (by omega)
      · simp only [if_neg c1]
        rw [if_neg (fun h => c1 h.1), List.nil_append]
        exact ih (i + 1) out (by omega) (by omega)
def pss (W H D C L : Int) : List (S53) := if rgt W H D C L = 0 then lace_list W H L else []
def tab1 : List (S53) := [⟨0, 0, 1, 1, 0, 0⟩]
def tab7 : List (S53) := [⟨0, 0, 8, 8, 0, 0⟩, ⟨4, 0, 8, 8, 0, 0⟩, ⟨0, 4, 4, 8, 0, 0⟩, ⟨2, 0, 4, 4, 0, 0⟩, ⟨0, 2, 2, 4, 0, 0⟩, ⟨1, 0, 2, 2, 0, 0⟩, ⟨0, 1, 1, 2, 0, 0⟩]
theorem tab1_ok : ∀ p ∈ tab1, tabOk p := by
  intro p hp
  simp only [tab1, List.mem_cons, List.not_mem_nil, or_false] at hp
  subst hp
  unfold tabOk stp
  simp
theorem tab7_ok : ∀ p ∈ tab7, tabOk p := by
  intro p hp
  simp only [tab7, List.mem_cons, List.not_mem_nil, or_false] at hp
  rcases hp with rfl | rfl | rfl | rfl | rfl | rfl | rfl <;> unfold tabOk stp <;> simp
theorem one_eq {W H a b c d : Int} (hW : 1 ≤ W) (hW2 : W ≤ 1024) (hH : 1 ≤ H) (hH2 : H ≤ 1024) (ht : tabOk ⟨a, b, c, d, 0, 0⟩) : lace_one W H (a, b, c, d) = refone W H ⟨a, b, c, d, 0, 0⟩ := by
  obtain ⟨a0, a1, a2, a3, a4, a5⟩ := ht
  unfold lace_one refone
  dsimp only at *
  rw [lace_cnt_eq a2 a0 a1 hW hW2, lace_cnt_eq a5 a3 a4 hH hH2]
  have r1 := cnt_range a2 a0 hW
  have r2 := cnt_range a5 a3 hH
  generalize cnt W a c = x at *
  generalize cnt H b d = y at *
  have hm : 0 ≤ x * y := Int.mul_nonneg r1.1 r2.1
  have hm2 : x * y ≤ 1024 * 1024 := Int.mul_le_mul (by omega) (by omega) r2.1 (by omega)
  rw [w64 (by omega) (by omega)]
  by_cases h1 : x > 0
  · by_cases h2 : y > 0
    · rw [if_pos (show x * y > 0 from Int.mul_pos h1 h2), if_pos ⟨h1, h2⟩]
    · have : y = 0 := by omega
      subst this
      rw [Int.mul_zero, if_neg (by omega), if_neg (by omega)]
  · have : x = 0 := by omega
    subst this
    rw [Int.zero_mul, if_neg (by omega), if_neg (by omega)]
theorem list_eq {W H L : Int} (hW : 1 ≤ W) (hW2 : W ≤ 1024) (hH : 1 ≤ H) (hH2 : H ≤ 1024) (hL : L = 0 ∨ L = 1) : (if L = 1 then tab7 else tab1).flatMap (refone W H) = lace_list W H L := by
  rcases hL with rfl | rfl
  · rw [if_neg (by decide)]
    unfold lace_list
    rw [if_pos rfl]
    have e1 : cnt W 0 1 = W := by unfold cnt; rw [if_neg (by omega)]; omega
    have e2 : cnt H 0 1 = H := by unfold cnt; rw [if_neg (by omega)]; omega
    unfold tab1
    rw [List.flatMap_cons, List.flatMap_nil, List.append_nil]
    unfold refone
    dsimp only
    rw [e1, e2, if_pos (by omega)]
  · rw [if_pos rfl]
    unfold lace_list
    rw [if_neg (by decide)]
    unfold lace_upto lace_tab tab7
    have hm : ∀ p ∈ tab7, tabOk p := tab7_ok
    unfold tab7 at hm
    simp only [List.mem_cons, List.not_mem_nil, or_false, forall_eq_or_imp, forall_eq] at hm
    obtain ⟨t0, t1, t2, t3, t4, t5, t6⟩ := hm
    simp only [List.take_succ_cons, List.take_zero, List.flatMap_cons, List.flatMap_nil]
    rw [one_eq hW hW2 hH hH2 t0, one_eq hW hW2 hH hH2 t1, one_eq hW hW2 hH hH2 t2, one_eq hW hW2 hH hH2 t3, one_eq hW hW2 hH hH2 t4, one_eq hW hW2 hH hH2 t5, one_eq hW hW2 hH hH2 t6]
theorem Passes_ev (W H D C L : Int) (hL : -9223372036854775808 ≤ L ∧ L ≤ 9223372036854775807) : Ev (fun k => lace_Passes.f k W H D C L) (pss W H D C L) := by
  unfold lace_Passes.f
  refine Ev.bind (Right_ev W H D C L hL) ?_
  unfold pss
  by_cases h : rgt W H D C L = 0
  · simp only [if_pos h]; exact Ev.now _
  · simp only [if_neg h]; exact Ev.now _
theorem rPasses_ev (W H D C L : Int) : Ev (fun k => vitrineref10_Passes.f k W H D C L) (pss W H D C L) := by
  unfold vitrineref10_Passes.f
  refine Ev.bind (rRight_ev W H D C L) ?_
  unfold pss
  by_cases h : rgt W H D C L = 0
  · obtain ⟨a0, a1, a2, a3, _, _, a6⟩ := rgt_0 h
    simp only [if_pos h]
    have e := list_eq a0 a1 a2 a3 a6
    have key : ∀ tab : List (S53), (∀ p ∈ tab, tabOk p) → tab.length ≤ 7 → Ev (fun k => vitrineref10_Passes.j0 k tab W H D C L) (tab.flatMap (refone W H)) := by
      intro tab h1 h2
      refine Ev.step (fun k => ?_) (ev_same (rpasses_loop (D := D) (C := C) (L := L) a0 a1 a2 a3 tab h1 h2 tab.length 0 [] (by omega) (by simp)) (by simp))
      simp only [vitrineref10_Passes.j0]
      rfl
    by_cases h1 : L = 1
    · simp only [if_pos h1]
      rw [if_pos h1] at e
      exact ev_same (key tab7 tab7_ok (by simp [tab7])) e
    · simp only [if_neg h1]
      rw [if_neg h1] at e
      exact ev_same (key tab1 tab1_ok (by simp [tab1])) e
  · simp only [if_neg h]; exact Ev.now _
theorem pss_sides {W H D C L : Int} : ∀ p ∈ pss W H D C L, 1 ≤ p.f4 ∧ p.f4 ≤ 1024 ∧ 1 ≤ p.f5 ∧ p.f5 ≤ 1024 := by
  unfold pss
  by_cases h : rgt W H D C L = 0
  · obtain ⟨a0, a1, a2, a3, _, _, a6⟩ := rgt_0 h
    rw [if_pos h, ← list_eq a0 a1 a2 a3 a6]
    intro p hp
    obtain ⟨q, hq, hp⟩ := List.mem_flatMap.1 hp
    have hok : tabOk q := by
      by_cases h1 : L = 1
      · rw [if_pos h1] at hq; exact tab7_ok q hq
      · rw [if_neg h1] at hq; exact tab1_ok q hq
    obtain ⟨b0, b1, b2, b3, b4, b5⟩ := hok
    unfold refone at hp
    split at hp
    · rename_i hc
      have := List.mem_singleton.1 hp
      subst this
      have r1 := cnt_range b2 b0 a0
      have r2 := cnt_range b5 b3 a2
      dsimp only
      omega
    · cases hp
  · rw [if_neg h]; intro p hp; cases hp
theorem pss_len {W H D C L : Int} : (pss W H D C L).length ≤ 7 := by
  unfold pss
  by_cases h : rgt W H D C L = 0
  · obtain ⟨a0, a1, a2, a3, _, _, a6⟩ := rgt_0 h
    rw [if_pos h, ← list_eq a0 a1 a2 a3 a6]
    refine Nat.le_trans (flat_len W H _) ?_
    split <;> simp [tab7, tab1]
  · rw [if_neg h]; simp
def row (W H D C L p : Int) : Int := if rgt W H D C L = 0 ∧ 1 ≤ p ∧ p ≤ 1024 then (D * smp C * p + 7) / 8 else 0
theorem dep_smp {C D : Int} (h : dep C D) : 1 ≤ D * smp C ∧ D * smp C ≤ 64 := by
  unfold dep at h
  unfold smp
  rcases h with ⟨rfl, h⟩ | ⟨rfl, h⟩ | ⟨h1, h⟩
  · rw [if_pos (by omega)]; omega
  · rw [if_pos (by omega)]; omega
  · rcases h1 with rfl | rfl | rfl
    · rw [if_neg (by omega), if_pos rfl]; omega
    · rw [if_neg (by omega), if_neg (by omega), if_pos rfl]; omega
    · rw [if_neg (by omega), if_neg (by omega), if_neg (by omega), if_pos rfl]; omega
theorem row_prod {b p : Int} (h : 1 ≤ b ∧ b ≤ 64) (h1 : 1 ≤ p) (h2 : p ≤ 1024) : 1 ≤ b * p ∧ b * p ≤ 65536 := by
  have h3 : b * p ≤ 64 * 1024 := Int.mul_le_mul h.2 h2 (by omega) (by omega)
  have h4 : 0 < b * p := Int.mul_pos (by omega) (by omega)
  omega
theorem row_range (W H D C L p : Int) : 0 ≤ row W H D C L p ∧ row W H D C L p ≤ 8193 := by
  unfold row
  split
  · rename_i hc
    obtain ⟨h, h1, h2⟩ := hc
    obtain ⟨_, _, _, _, _, hd, _⟩ := rgt_0 h
    have := row_prod (dep_smp hd) h1 h2
    omega
  · omega
theorem Row_ev (W H D C L p : Int) (hL : -9223372036854775808 ≤ L ∧ L ≤ 9223372036854775807) : Ev (fun k => lace_Row.f k W H D C L p) (row W H D C L p) := by
  have ht : ¬ (rgt W H D C L = 0 ∧ 1 ≤ p ∧ p ≤ 1024) → Ev (fun k => lace_Row.j0 k p true W H D C L) (row W H D C L p) := by
    intro hn
    refine Ev.step (f := fun _ => some (row W H D C L p)) (fun k => ?_) (Ev.now _)
    simp only [lace_Row.j0]
    rw [if_pos trivial, row, if_neg hn]
  unfold lace_Row.f
  by_cases h1 : p < 1
  · simp only [if_pos h1]; exact ht (by omega)
  · simp only [if_neg h1]
    by_cases h2 : p > 1024
    · simp only [if_pos h2]; exact ht (by omega)
    · simp only [if_neg h2]
      refine Ev.bind (Right_ev W H D C L hL) ?_
      by_cases h : rgt W H D C L = 0
      · rw [h]
        obtain ⟨_, _, _, _, _, hd, _⟩ := rgt_0 h
        have hb := dep_smp hd
        have hp := row_prod hb (p := p) (by omega) (by omega)
        refine Ev.step (f := fun k => ((head_Samples.f k C).bind fun t144 => (some ((wrap64 ((wrap64 ((wrap64 (D * t144)) * p)) + 7)) / 8)))) (fun k => ?_) (Ev.bind (Samples_ev C) ?_)
        · simp only [lace_Row.j0]
          rw [if_neg (by decide)]
        · refine ev_same (Ev.now _) ?_
          rw [row, if_pos ⟨h, by omega, by omega⟩, w64 (x := D * smp C) (by omega) (by omega), w64 (x := D * smp C * p) (by omega) (by omega), w64 (by omega) (by omega)]
      · rw [show (rgt W H D C L != 0) = true from bne_iff_ne.mpr h]
        exact ht (fun hc => h hc.1)
theorem rRow_ev (W H D C L p : Int) : Ev (fun k => vitrineref10_Row.f k W H D C L p) (row W H D C L p) := by
  have ht : ¬ (rgt W H D C L = 0 ∧ 1 ≤ p ∧ p ≤ 1024) → Ev (fun k => vitrineref10_Row.j0 k p true W H D C L) (row W H D C L p) := by
    intro hn
    refine Ev.step (f := fun _ => some (row W H D C L p)) (fun k => ?_) (Ev.now _)
    simp only [vitrineref10_Row.j0]
    rw [if_pos trivial, row, if_neg hn]
  unfold vitrineref10_Row.f
  refine Ev.bind (rRight_ev W H D C L) ?_
  by_cases h : rgt W H D C L = 0
  · simp only [if_pos h]
    by_cases h1 : p < 1
    · simp only [if_pos h1]; exact ht (by omega)
    · simp only [if_neg h1]
      by_cases h2 : p > 1024
      · rw [decide_eq_true h2]; exact ht (by omega)
      · rw [decide_eq_false h2]
        obtain ⟨_, _, _, _, _, hd, _⟩ := rgt_0 h
        have hb := dep_smp hd
        have hp := row_prod hb (p := p) (by omega) (by omega)
        refine Ev.step (f := fun k => ((vitrineref08_Samples.f k C).bind fun t172 => (some (wrap64 (Int.tdiv (wrap64 ((wrap64 ((wrap64 (D * t172)) * p)) + 7)) 8))))) (fun k => ?_) (Ev.bind (rSamples_ev C) ?_)
        · simp only [vitrineref10_Row.j0]
          rw [if_neg (by decide)]
        · refine ev_same (Ev.now _) ?_
          rw [row, if_pos ⟨h, by omega, by omega⟩, w64 (x := D * smp C) (by omega) (by omega), w64 (x := D * smp C * p) (by omega) (by omega), w64 (x := D * smp C * p + 7) (by omega) (by omega), Int.tdiv_eq_ediv_of_nonneg (by omega), w64 (by omega) (by omega)]
  · simp only [if_neg h]
    exact ht (fun hc => h hc.1)
def siz (W H D C L : Int) : List (S53) → Int
  | [] => 0
  | p :: ps => p.f5 * (1 + row W H D C L p.f4) + siz W H D C L ps
theorem siz_step {W H D C L : Int} {p : S53} (h : 1 ≤ p.f5 ∧ p.f5 ≤ 1024) : 0 ≤ p.f5 * row W H D C L p.f4 ∧ p.f5 * row W H D C L p.f4 ≤ 8389632 := by
  have r := row_range W H D C L p.f4
  have h2 : p.f5 * row W H D C L p.f4 ≤ 1024 * 8193 := Int.mul_le_mul h.2 r.2 r.1 (by omega)
  exact ⟨Int.mul_nonneg (by omega) r.1, by omega⟩
theorem size_loop (W H D C L : Int) (hL : -9223372036854775808 ≤ L ∧ L ≤ 9223372036854775807) (l : List (S53)) (hl : l.length ≤ 7) (hs : ∀ p ∈ l, 1 ≤ p.f5 ∧ p.f5 ≤ 1024) : ∀ (d i : Nat) (acc : Int), i + d = l.length → 0 ≤ acc → acc ≤ i * 9000000 → Ev (fun k => lace_Size.l0 k acc l (l.length : Int) (i : Int) W H D C L) (acc + siz W H D C L (l.drop i)) := by
  intro d
  induction d with
  | zero =>
    intro i acc hi h0 h1
    rw [List.drop_of_length_le (by omega), siz, Int.add_zero]
    refine Ev.step (f := fun _ => some acc) (fun k => ?_) (Ev.now _)
    simp only [lace_Size.l0]
    rw [if_neg (by omega)]
  | succ d ih =>
    intro i acc hi h0 h1
    have hlt : i < l.length := by omega
    have hp := hs _ (List.getElem_mem hlt)
    have hr := rd_at l i hlt
    have hw := w_succ (i := i) (by omega)
    rw [List.drop_eq_getElem_cons hlt]
    generalize l[i] = p at *
    have hm := siz_step (W := W) (H := H) (D := D) (C := C) (L := L) hp
    refine Ev.step (f := fun k => ((lace_Row.f k W H D C L p.f4).bind fun t150 => (lace_Size.l0 k (wrap64 (acc + (wrap64 (p.f5 + (wrap64 (p.f5 * t150)))))) l (l.length : Int) ((i + 1 : Nat) : Int) W H D C L))) (fun k => ?_) (Ev.bind (Row_ev W H D C L p.f4 hL) ?_)
    · simp only [lace_Size.l0]
      rw [if_pos (by omega), if_pos (by omega), if_pos (by omega), hr, hw]
    · rw [w64 (x := p.f5 * row W H D C L p.f4) (by omega) (by omega), w64 (x := p.f5 + p.f5 * row W H D C L p.f4) (by omega) (by omega), w64 (by omega) (by omega)]
      refine ev_same (ih (i + 1) _ (by omega) (by omega) (by omega)) ?_
      rw [siz, Int.mul_add, Int.mul_one]
      omega
theorem rsize_loop (W H D C L : Int) (l : List (S53)) (hl : l.length ≤ 7) (hs : ∀ p ∈ l, 1 ≤ p.f5 ∧ p.f5 ≤ 1024) : ∀ (d i : Nat) (acc : Int), i + d = l.length → 0 ≤ acc → acc ≤ i * 9000000 → Ev (fun k => vitrineref10_Size.l0 k acc l (i : Int) W H D C L) (acc + siz W H D C L (l.drop i)) := by
  intro d
  induction d with
  | zero =>
    intro i acc hi h0 h1
    rw [List.drop_of_length_le (by omega), siz, Int.add_zero]
    refine Ev.step (f := fun _ => some acc) (fun k => ?_) (Ev.now _)
    simp only [vitrineref10_Size.l0]
    rw [if_neg (by omega)]
  | succ d ih =>
    intro i acc hi h0 h1
    have hlt : i < l.length := by omega
    have hp := hs _ (List.getElem_mem hlt)
    have hr := rd_at l i hlt
    have hw := w_succ (i := i) (by omega)
    rw [List.drop_eq_getElem_cons hlt]
    generalize l[i] = p at *
    have hm := siz_step (W := W) (H := H) (D := D) (C := C) (L := L) hp
    have hrr := row_range W H D C L p.f4
    refine Ev.step (f := fun k => ((vitrineref10_Row.f k W H D C L p.f4).bind fun t179 => (vitrineref10_Size.l0 k (wrap64 (acc + (wrap64 (p.f5 * (wrap64 (1 + t179)))))) l ((i + 1 : Nat) : Int) W H D C L))) (fun k => ?_) (Ev.bind (rRow_ev W H D C L p.f4) ?_)
    · simp only [vitrineref10_Size.l0]
      rw [if_pos (by omega), if_pos (by omega), hr, hw]
    · have e : p.f5 * (1 + row W H D C L p.f4) = p.f5 + p.f5 * row W H D C L p.f4 := by rw [Int.mul_add, Int.mul_one]
      rw [w64 (x := 1 + row W H D C L p.f4) (by omega) (by omega), e, w64 (x := p.f5 + p.f5 * row W H D C L p.f4) (by omega) (by omega), w64 (by omega) (by omega)]
      refine ev_same (ih (i + 1) _ (by omega) (by omega) (by omega)) ?_
      rw [siz, e]
      omega
theorem Size_ev (W H D C L : Int) (hL : -9223372036854775808 ≤ L ∧ L ≤ 9223372036854775807) : Ev (fun k => lace_Size.f k W H D C L) (siz W H D C L (pss W H D C L)) := by
  unfold lace_Size.f
  refine Ev.bind (Passes_ev W H D C L hL) ?_
  exact ev_same (size_loop W H D C L hL _ pss_len (fun p hp => (pss_sides p hp).2.2) (pss W H D C L).length 0 0 (by omega) (by omega) (by omega)) (by simp)
theorem rSize_ev (W H D C L : Int) : Ev (fun k => vitrineref10_Size.f k W H D C L) (siz W H D C L (pss W H D C L)) := by
  unfold vitrineref10_Size.f
  refine Ev.bind (rPasses_ev W H D C L) ?_
  exact ev_same (rsize_loop W H D C L _ pss_len (fun p hp => (pss_sides p hp).2.2) (pss W H D C L).length 0 0 (by omega) (by omega) (by omega)) (by simp)
def pae (a b c : Int) : Int :=
  if ((a + b - c - a).natAbs ≤ (a + b - c - b).natAbs ∧ (a + b - c - a).natAbs ≤ (a + b - c - c).natAbs) then a else if (a + b - c - b).natAbs ≤ (a + b - c - c).natAbs then b else c
def pred (kind a b c : Int) : Int := if kind = 1 then a else if kind = 2 then b else if kind = 3 then (a + b) / 2 else if kind = 4 then pae a b c else 0
theorem pae_range {a b c : Int} (ha : 0 ≤ a ∧ a ≤ 255) (hb : 0 ≤ b ∧ b ≤ 255) (hc : 0 ≤ c ∧ c ≤ 255) : 0 ≤ pae a b c ∧ pae a b c ≤ 255 := by
  unfold pae
  split
  · exact ha
  · split
    · exact hb
    · exact hc
theorem pred_range {kind a b c : Int} (ha : 0 ≤ a ∧ a ≤ 255) (hb : 0 ≤ b ∧ b ≤ 255) (hc : 0 ≤ c ∧ c ≤ 255) : 0 ≤ pred kind a b c ∧ pred kind a b c ≤ 255 := by
  have := pae_range ha hb hc
  unfold pred
  repeat' split
  all_goals omega
theorem apart_f {a b : Int} (ha : -1000 ≤ a ∧ a ≤ 1000) (hb : -1000 ≤ b ∧ b ≤ 1000) : filter_apart.f a b = some ((a - b).natAbs : Int) := by
  unfold filter_apart.f
  rw [w64 (by omega) (by omega), w64 (by omega) (by omega)]
  split
  · congr 1; omega
  · congr 1; omega
theorem near_ev {a b c : Int} (ha : 0 ≤ a ∧ a ≤ 255) (hb : 0 ≤ b ∧ b ≤ 255) (hc : 0 ≤ c ∧ c ≤ 255) : Ev (fun k => filter_nearest.f k a b c) (pae a b c) := by
  have e1 : wrap64 (wrap64 (a + b) - c) = a + b - c := by rw [w64 (x := a + b) (by omega) (by omega), w64 (by omega) (by omega)]
  have r0 : rd [b, c] 0 = b := rfl
  have r1 : rd [b, c] 1 = c := rfl
  have w1 : wrap64 (0 + 1) = 1 := w64 (by omega) (by omega)
  have w2 : wrap64 (1 + 1) = 2 := w64 (by omega) (by omega)
  have pa := apart_f (a := a + b - c) (b := a) (by omega) (by omega)
  have pb := apart_f (a := a + b - c) (b := b) (by omega) (by omega)
  have pc := apart_f (a := a + b - c) (b := c) (by omega) (by omega)
  have last : ∀ x : Int, Ev (fun k => filter_nearest.l0 k (a + b - c) x [b, c] 2 2) x := fun x => Ev.step (f := fun _ => some x) (fun k => by simp only [filter_nearest.l0]; rw [if_neg (by omega)]) (Ev.now x)
  refine Ev.congr (f := fun k => filter_nearest.l0 k (a + b - c) a [b, c] 2 0) (fun k => by unfold filter_nearest.f; simp only [Option.bind_some, e1]; rfl) ?_
  by_cases h1 : ((a + b - c - b).natAbs : Int) < ((a + b - c - a).natAbs : Int)
  · refine Ev.step (f := fun k => filter_nearest.l0 k (a + b - c) b [b, c] 2 1) (fun k => by simp only [filter_nearest.l0]; rw [if_pos (by omega), if_pos (by omega), if_pos (by simp), r0, pa, pb]; simp only [Option.bind_some, w1]; rw [if_pos h1]) ?_
    by_cases h2 : ((a + b - c - c).natAbs : Int) < ((a + b - c - b).natAbs : Int)
    · refine Ev.step (f := fun k => filter_nearest.l0 k (a + b - c) c [b, c] 2 2) (fun k => by simp only [filter_nearest.l0]; rw [if_pos (by omega), if_pos (by omega), if_pos (by simp), r1, pb, pc]; simp only [Option.bind_some, w2]; rw [if_pos h2]) ?_
      exact ev_same (last c) (by unfold pae; rw [if_neg (by omega), if_neg (by omega)])
    · refine Ev.step (f := fun k => filter_nearest.l0 k (a + b - c) b [b, c] 2 2) (fun k => by simp only [filter_nearest.l0]; rw [if_pos (by omega), if_pos (by omega), if_pos (by simp), r1, pb, pc]; simp only [Option.bind_some, w2]; rw [if_neg h2]) ?_
      exact ev_same (last b) (by unfold pae; rw [if_neg (by omega), if_pos (by omega)])
  · refine Ev.step (f := fun k => filter_nearest.l0 k (a + b - c) a [b, c] 2 1) (fun k => by simp only [filter_nearest.l0]; rw [if_pos (by omega), if_pos (by omega), if_pos (by simp), r0, pa, pb]; simp only [Option.bind_some, w1]; rw [if_neg h1]) ?_
    by_cases h2 : ((a + b - c - c).natAbs : Int) < ((a + b - c - a).natAbs : Int)
    · refine Ev.step (f := fun k => filter_nearest.l0 k (a + b - c) c [b, c] 2 2) (fun k => by simp only [filter_nearest.l0]; rw [if_pos (by omega), if_pos (by omega), if_pos (by simp), r1, pa, pc]; simp only [Option.bind_some, w2]; rw [if_pos h2]) ?_
      exact ev_same (last c) (by unfold pae; rw [if_neg (by omega), if_neg (by omega)])
    · refine Ev.step (f := fun k => filter_nearest.l0 k (a + b - c) a [b, c] 2 2) (fun k => by simp only [filter_nearest.l0]; rw [if_pos (by omega), if_pos (by omega), if_pos (by simp), r1, pa, pc]; simp only [Option.bind_some, w2]; rw [if_neg h2]) ?_
      exact ev_same (last a) (by unfold pae; rw [if_pos (by omega)])
theorem fore_ev {kind a b c : Int} (hk : 0 ≤ kind ∧ kind ≤ 4) (ha : 0 ≤ a ∧ a ≤ 255) (hb : 0 ≤ b ∧ b ≤ 255) (hc : 0 ≤ c ∧ c ≤ 255) : Ev (fun k => filter_foretold.f k kind a b c) (pred kind a b c) := by
  unfold filter_foretold.f
  refine Ev.bind (near_ev ha hb hc) ?_
  simp only [hk.1, show kind < 5 by omega, if_true]
  rw [w64 (x := a + b) (by omega) (by omega)]
  obtain h | h | h | h | h : kind = 0 ∨ kind = 1 ∨ kind = 2 ∨ kind = 3 ∨ kind = 4 := by omega
  all_goals
    subst h
    exact Ev.now _
theorem away_f {a b : Int} (ha : -1000 ≤ a ∧ a ≤ 1000) (hb : -1000 ≤ b ∧ b ≤ 1000) : vitrineref09_away.f a b = some ((a - b).natAbs : Int) := by
  unfold vitrineref09_away.f
  rw [w64 (by omega) (by omega), w64 (by omega) (by omega)]
  unfold mx
  split
  · congr 1; omega
  · congr 1; omega
theorem tells_ev {kind a b c : Int} (hk : 0 ≤ kind ∧ kind ≤ 4) (ha : 0 ≤ a ∧ a ≤ 255) (hb : 0 ≤ b ∧ b ≤ 255) (hc : 0 ≤ c ∧ c ≤ 255) : Ev (fun k => vitrineref09_tells.f k kind a b c) (pred kind a b c) := by
  have e1 : wrap64 (wrap64 (a + b) - c) = a + b - c := by rw [w64 (x := a + b) (by omega) (by omega), w64 (by omega) (by omega)]
  have pa := away_f (a := a + b - c) (b := a) (by omega) (by omega)
  have pb := away_f (a := a + b - c) (b := b) (by omega) (by omega)
  have pc := away_f (a := a + b - c) (b := c) (by omega) (by omega)
  unfold vitrineref09_tells.f
  obtain h | h | h | h | h : kind = 0 ∨ kind = 1 ∨ kind = 2 ∨ kind = 3 ∨ kind = 4 := by omega
  · subst h; exact Ev.now _
  · subst h; exact Ev.now _
  · subst h; exact Ev.now _
  · subst h
    refine Ev.congr (f := fun _ => some ((a + b) / 2)) (fun k => ?_) (Ev.now _)
    rw [if_neg (by decide), if_neg (by decide), if_pos rfl, w64 (x := a + b) (by omega) (by omega), Int.tdiv_eq_ediv_of_nonneg (by omega), w64 (by omega) (by omega)]
  · subst h
    have hj0 : ∀ x1 x2 x3 x9 : Int, Ev (fun k => vitrineref09_tells.j0 k x1 x2 x3 x9 true) x1 := fun x1 x2 x3 x9 => Ev.step (f := fun _ => some x1) (fun k => by simp only [vitrineref09_tells.j0, if_true]) (Ev.now _)
    have hj1 : Ev (fun k => vitrineref09_tells.j0 k a b c (a + b - c) false) (if (a + b - c - b).natAbs ≤ (a + b - c - c).natAbs then b else c) := by
      refine Ev.step (f := fun _ => some (if (a + b - c - b).natAbs ≤ (a + b - c - c).natAbs then b else c)) (fun k => ?_) (Ev.now _)
      simp only [vitrineref09_tells.j0]
      rw [if_neg (by decide), pb, pc]
      simp only [Option.bind_some]
      by_cases h : (a + b - c - b).natAbs ≤ (a + b - c - c).natAbs
      · rw [if_pos h, if_pos (by omega)]
      · rw [if_neg h, if_neg (by omega)]
    simp only [show ¬ (4 : Int) = 1 by decide, show ¬ (4 : Int) = 2 by decide, show ¬ (4 : Int) = 3 by decide, if_false, if_true, e1, pa, pb, pc, Option.bind_some]
    unfold pred
    rw [if_neg (by decide), if_neg (by decide), if_neg (by decide), if_pos rfl]
    unfold pae
    by_cases h1 : (a + b - c - a).natAbs ≤ (a + b - c - b).natAbs
    · by_cases h2 : (a + b - c - a).natAbs ≤ (a + b - c - c).natAbs
      · rw [if_pos ⟨h1, h2⟩]
        refine Ev.congr (fun k => ?_) (hj0 a b c (a + b - c))
        rw [if_pos (by omega), decide_eq_true (by omega)]
      · rw [if_neg (by omega)]
        refine Ev.congr (fun k => ?_) hj1
        rw [if_pos (by omega), decide_eq_false (by omega)]
    · rw [if_neg (by omega)]
      refine Ev.congr (fun k => ?_) hj1
      rw [if_neg (by omega)]
def wrg (bpp kind : Int) (line above : ByteArray) : Int := if bpp < 1 ∨ bpp > 8 ∨ (above.toList ≠ [] ∧ above.size ≠ line.size) then 1 else if kind < 0 ∨ kind > 4 then 28 else 0
theorem wrong_ev (bpp kind : Int) (line above : ByteArray) : Ev (fun k => filter_wrong.f k bpp kind line above) (wrg bpp kind line above) := by
  have ht : Ev (fun k => filter_wrong.j0 k kind true) 1 := Ev.step (f := fun _ => some 1) (fun k => by simp only [filter_wrong.j0, if_true]) (Ev.now _)
  have hf : Ev (fun k => filter_wrong.j0 k kind false) (if kind < 0 ∨ kind > 4 then 28 else 0) := by
    refine Ev.step (f := fun _ => some (if kind < 0 ∨ kind > 4 then 28 else 0)) (fun k => ?_) (Ev.now _)
    simp only [filter_wrong.j0]
    rw [if_neg (by decide)]
    by_cases h1 : kind < 0
    · rw [if_pos h1, if_pos (.inl h1)]
    · rw [if_neg h1]
      by_cases h2 : kind ≥ 5
      · rw [if_pos h2, if_pos (by omega)]
      · rw [if_neg h2, if_neg (by omega)]
  unfold filter_wrong.f wrg
  by_cases h1 : bpp < 1
  · simp only [h1, if_true, true_or]; exact ht
  by_cases h2 : bpp > 8
  · simp only [h1, h2, if_true, if_false, true_or, or_true]; exact ht
  by_cases h3 : above.toList = []
  · simp only [h1, h2, h3, if_true, if_false, false_or, ne_eq, not_true, false_and]; exact hf
  simp only [h1, h2, h3, if_false, false_or, ne_eq, not_false_iff, true_and]
  by_cases h4 : above.size = line.size
  · simp only [h4, bne_self_eq_false, not_true, if_false]; exact hf
  · have : ((above.size : Int) != (line.size : Int)) = true := by rw [bne_iff_ne]; omega
    simp only [this, h4, not_false_iff, if_true]; exact ht
theorem rwrong_ev (bpp kind : Int) (line above : ByteArray) : Ev (fun k => vitrineref09_wrong.f k bpp kind line above) (wrg bpp kind line above) := by
  have ht : Ev (fun k => vitrineref09_wrong.j0 k kind true) 1 := Ev.step (f := fun _ => some 1) (fun k => by simp only [vitrineref09_wrong.j0, if_true]) (Ev.now _)
  have hf : Ev (fun k => vitrineref09_wrong.j0 k kind false) (if kind < 0 ∨ kind > 4 then 28 else 0) := by
    refine Ev.step (f := fun _ => some (if kind < 0 ∨ kind > 4 then 28 else 0)) (fun k => ?_) (Ev.now _)
    simp only [vitrineref09_wrong.j0]
    rw [if_neg (by decide)]
    by_cases h1 : kind < 0
    · rw [if_pos h1, if_pos (.inl h1)]
    · rw [if_neg h1]
      by_cases h2 : kind > 4
      · rw [if_pos h2, if_pos (by omega)]
      · rw [if_neg h2, if_neg (by omega)]
  unfold vitrineref09_wrong.f wrg
  by_cases h1 : bpp < 1
  · simp only [h1, if_true, true_or]; exact ht
  by_cases h2 : bpp > 8
  · simp only [h1, h2, if_true, if_false, true_or, or_true]; exact ht
  by_cases h3 : above.toList = []
  · simp only [h1, h2, h3, if_true, if_false, false_or, ne_eq, not_true, false_and]; exact hf
  simp only [h1, h2, h3, if_false, false_or, ne_eq, not_false_iff, true_and]
  by_cases h4 : above.size = line.size
  · simp only [h4, bne_self_eq_false, not_true, if_false]; exact hf
  · have : ((above.size : Int) != (line.size : Int)) = true := by rw [bne_iff_ne]; omega
    simp only [this, h4, not_false_iff, if_true]; exact ht
theorem at_f (s : ByteArray) (i : Int) : vitrineref09_at.f s i = some (if i < 0 then 0 else bt s i) := by
  unfold vitrineref09_at.f
  by_cases h1 : i < 0
  · rw [if_pos h1, if_pos h1]
  · rw [if_neg h1, if_neg h1]
    by_cases h2 : i ≥ (s.size : Int)
    · rw [if_pos h2]
      have : bt s i = 0 := by unfold bt; rw [dif_neg (by omega)]
      rw [this]
    · rw [if_neg h2, if_pos (by omega), if_pos (by omega), w64_bt]
def lft (line : ByteArray) (bpp : Int) (i : Nat) : Int := if (i : Int) ≥ bpp then bt line (i - bpp) else 0
theorem bt_empty {s : ByteArray} (h : s.toList = []) (i : Int) : bt s i = 0 := by
  have : s.size = 0 := by
    rw [toList_data] at h
    have : s.data.size = 0 := by rw [← Array.length_toList, h]; rfl
    exact this
  unfold bt
  rw [dif_neg (by omega)]
theorem round_ev {bpp kind sg : Int} {line above : ByteArray} {out : List Int} {i : Nat} {r : ByteArray × Int} (hb : 1 ≤ bpp ∧ bpp ≤ 8) (hk : 0 ≤ kind ∧ kind ≤ 4) (hs : sg = -1 ∨ sg = 1) (hn : line.size ≤ 140737488351232) (ha : above.toList = [] ∨ above.size = line.size)
    (ho : out.length = line.size) (hbo : Byt out) (hi : i < line.size)
    (h : Ev (fun k => filter_through.l0 k bpp kind sg line above (out.set i ((bt line i + sg * pred kind (if (i : Int) ≥ bpp then (if sg > 0 then rd out (i - bpp) else bt line (i - bpp)) else 0) (bt above i) (lft above bpp i)) % 256)) line.size ((i + 1 : Nat) : Int)) r) :
    Ev (fun k => filter_through.l0 k bpp kind sg line above out line.size (i : Int)) r := by
  have w1 : wrap64 ((i : Int) + 1) = ((i + 1 : Nat) : Int) := by rw [w64 (by omega) (by omega)]; rfl
  have w2 : wrap64 ((i : Int) - bpp) = (i : Int) - bpp := w64 (by omega) (by omega)
  have wr : ∀ j, wrap64 (rd out j) = rd out j := fun j => by have := byt_rd hbo j; exact w64 (by omega) (by omega)
  have c1 : (i : Int) < (line.size : Int) := by omega
  have c2 : (0 : Int) ≤ (i : Int) := by omega
  have c3 : (i : Int) < (out.length : Int) := by omega
  -- the second half of a round, whatever b and c are
  have half : ∀ b c : Int, (0 ≤ b ∧ b ≤ 255) → (0 ≤ c ∧ c ≤ 255) → b = bt above i → c = 0 → (above.toList ≠ [] → (i : Int) < (above.size : Int)) →
      Ev (fun k => filter_through.j1 k bpp kind sg line above out (i : Int) 0 b c line.size (i : Int)) r := by
    intro b c hbr hcr hbe hce hab
    have val : ∀ A B C t : Int, (0 ≤ t ∧ t ≤ 255) → wrap64 (wrap64 (bt line i) + wrap64 (sg * t)) % 256 = (bt line i + sg * t) % 256 := by
      intro A B C t ht
      have hl := bt_range line i
      rw [w64_bt]
      rcases hs with rfl | rfl
      · rw [w64 (x := -1 * t) (by omega) (by omega), w64 (by omega) (by omega)]
      · rw [w64 (x := 1 * t) (by omega) (by omega), w64 (by omega) (by omega)]
    have go : ∀ A C : Int, (0 ≤ A ∧ A ≤ 255) → (0 ≤ C ∧ C ≤ 255) → A = (if (i : Int) ≥ bpp then (if sg > 0 then rd out (i - bpp) else bt line (i - bpp)) else 0) → C = lft above bpp i →
        Ev (fun k => (filter_foretold.f k kind A b C).bind fun t => if (i : Int) < (out.length : Int) then filter_through.l0 k bpp kind sg line above (out.set (i : Int).toNat (wrap64 (wrap64 (bt line i) + wrap64 (sg * t)) % 256)) line.size (wrap64 ((i : Int) + 1)) else none) r := by
      intro A C hA hC eA eC
      refine Ev.bind (fore_ev hk hA hbr hC) ?_
      refine Ev.congr (fun k => ?_) h
      rw [if_pos c3, val 0 0 0 _ (pred_range hA hbr hC), w1, Int.toNat_natCast, ← eA, ← hbe, ← eC]
    by_cases h1 : (i : Int) ≥ bpp
    · have c4 : (0 : Int) ≤ (i : Int) - bpp := by omega
      have c5 : (i : Int) - bpp < (line.size : Int) := by omega
      have c6 : (i : Int) - bpp < (out.length : Int) := by omega
      by_cases h2 : sg > 0
      · by_cases h3 : above.toList = []
        · refine Ev.step (fun k => ?_) (go (rd out (i - bpp)) 0 (byt_rd hbo _) (by omega) (by rw [if_pos h1, if_pos h2]) (by unfold lft; rw [if_pos h1, bt_empty h3]))
          simp only [filter_through.j1, h1, h2, h3, c1, c2, c4, c5, c6, w2, wr, hce, if_true]
        · have c7 : (i : Int) - bpp < (above.size : Int) := by have := hab h3; omega
          refine Ev.step (fun k => ?_) (go (rd out (i - bpp)) (bt above (i - bpp)) (byt_rd hbo _) (bt_range _ _) (by rw [if_pos h1, if_pos h2]) (by unfold lft; rw [if_pos h1]))
          simp only [filter_through.j1, h1, h2, h3, c1, c2, c4, c5, c6, c7, w2, wr, w64_bt, if_true, if_false]
      · by_cases h3 : above.toList = []
        · refine Ev.step (fun k => ?_) (go (bt line (i - bpp)) 0 (bt_range _ _) (by omega) (by rw [if_pos h1, if_neg h2]) (by unfold lft; rw [if_pos h1, bt_empty h3]))
          simp only [filter_through.j1, h1, h2, h3, c1, c2, c4, c5, c6, w2, wr, hce, w64_bt, if_true, if_false]
        · have c7 : (i : Int) - bpp < (above.size : Int) := by have := hab h3; omega
          refine Ev.step (fun k => ?_) (go (bt line (i - bpp)) (bt above (i - bpp)) (bt_range _ _) (bt_range _ _) (by rw [if_pos h1, if_neg h2]) (by unfold lft; rw [if_pos h1]))
          simp only [filter_through.j1, h1, h2, h3, c1, c2, c4, c5, c6, c7, w2, wr, w64_bt, if_true, if_false]
    · refine Ev.step (fun k => ?_) (go 0 0 (by omega) (by omega) (by rw [if_neg h1]) (by unfold lft; rw [if_neg h1]))
      simp only [filter_through.j1, h1, c1, c2, hce, w64_bt, if_true, if_false]
  by_cases h3 : above.toList = []
  · refine Ev.step (fun k => ?_) (half 0 0 (by omega) (by omega) (bt_empty h3 _).symm rfl (fun h => absurd h3 h))
    simp only [filter_through.l0, c1, h3, if_true]
  · have c7 : (i : Int) < (above.size : Int) := by
      rcases ha with ha | ha
      · exact absurd ha h3
      · omega
    refine Ev.step (fun k => ?_) (half (bt above i) 0 (bt_range _ _) (by omega) rfl rfl (fun _ => c7))
    simp only [filter_through.l0, c1, c2, c7, h3, w64_bt, if_true, if_false]
theorem byt_pad {xs : List Int} (h : Byt xs) (d : Nat) : Byt (xs ++ List.replicate d 0) := by
  intro x hx
  rcases List.mem_append.1 hx with hx | hx
  · exact h x hx
  · rw [List.eq_of_mem_replicate hx]; omega
theorem wrg_zero {bpp kind : Int} {line above : ByteArray} (h0 : wrg bpp kind line above = 0) : (1 ≤ bpp ∧ bpp ≤ 8) ∧ (0 ≤ kind ∧ kind ≤ 4) ∧ (above.toList = [] ∨ above.size = line.size) := by
  unfold wrg at h0
  by_cases h : bpp < 1 ∨ bpp > 8 ∨ (above.toList ≠ [] ∧ above.size ≠ line.size)
  · rw [if_pos h] at h0; omega
  · rw [if_neg h] at h0
    by_cases h2 : kind < 0 ∨ kind > 4
    · rw [if_pos h2] at h0; omega
    · refine ⟨by omega, by omega, ?_⟩
      by_cases h3 : above.toList = []
      · exact .inl h3
      · exact .inr (Classical.byContradiction fun h4 => h (.inr (.inr ⟨h3, h4⟩)))
def unL (bpp kind : Int) (line above : ByteArray) : Nat → List Int
  | 0 => []
  | i + 1 => unL bpp kind line above i ++ [(bt line i + pred kind (if (i : Int) ≥ bpp then rd (unL bpp kind line above i) (i - bpp) else 0) (bt above i) (lft above bpp i)) % 256]
theorem unL_length (bpp kind : Int) (line above : ByteArray) (i : Nat) : (unL bpp kind line above i).length = i := by
  induction i with
  | zero => rfl
  | succ i ih => simp [unL, ih]
theorem unL_byt (bpp kind : Int) (line above : ByteArray) (i : Nat) : Byt (unL bpp kind line above i) := by
  induction i with
  | zero => intro x hx; simp [unL] at hx
  | succ i ih =>
    intro x hx
    unfold unL at hx
    rcases List.mem_append.1 hx with hx | hx
    · exact ih x hx
    · rw [List.mem_singleton.1 hx]; omega
theorem rd_pad {xs : List Int} {d : Nat} {j : Int} (h1 : j < xs.length) : rd (xs ++ List.replicate d 0) j = rd xs j := by
  unfold rd
  by_cases h0 : xs = []
  · subst h0
    simp only [List.nil_append, List.length_nil] at *
    rw [List.getD_eq_getElem?_getD, List.getD_eq_getElem?_getD]
    simp [List.getElem?_replicate]
    split <;> rfl
  · rw [List.getD_eq_getElem?_getD, List.getD_eq_getElem?_getD, List.getElem?_append_left]
    have : 0 < xs.length := List.length_pos_iff.2 h0
    omega
theorem snoc_set (xs : List Int) (v : Int) (d : Nat) : (xs ++ List.replicate (d + 1) 0).set xs.length v = (xs ++ [v]) ++ List.replicate d 0 := by
  rw [List.set_append_right _ _ (Nat.le_refl _), Nat.sub_self, List.replicate_succ, List.set_cons_zero, List.append_assoc]
  rfl
theorem un_loop {bpp kind : Int} {line above : ByteArray} (hb : 1 ≤ bpp ∧ bpp ≤ 8) (hk : 0 ≤ kind ∧ kind ≤ 4) (hn : line.size ≤ 140737488351232) (ha : above.toList = [] ∨ above.size = line.size) :
    ∀ d i : Nat, i + d = line.size → Ev (fun k => filter_through.l0 k bpp kind 1 line above (unL bpp kind line above i ++ List.replicate d 0) line.size (i : Int)) (strOfNums (unL bpp kind line above line.size), 0) := by
  intro d
  induction d with
  | zero =>
    intro i hi
    have : i = line.size := by omega
    subst this
    refine Ev.step (f := fun _ => some (strOfNums (unL bpp kind line above line.size), 0)) (fun k => ?_) (Ev.now _)
    simp only [filter_through.l0]
    rw [if_neg (by omega), List.replicate_zero, List.append_nil]
  | succ d ih =>
    intro i hi
    refine round_ev hb hk (.inr rfl) hn ha (by simp [unL_length]; omega) (byt_pad (unL_byt _ _ _ _ _) _) (by omega) ?_
    have nx := ih (i + 1) (by omega)
    have e : (unL bpp kind line above i ++ List.replicate (d + 1) 0).set i ((bt line i + 1 * pred kind (if (i : Int) ≥ bpp then (if (1 : Int) > 0 then rd (unL bpp kind line above i ++ List.replicate (d + 1) 0) (i - bpp) else bt line (i - bpp)) else 0) (bt above i) (lft above bpp i)) % 256) = unL bpp kind line above (i + 1) ++ List.replicate d 0 := by
      have s1 := snoc_set (unL bpp kind line above i) ((bt line i + 1 * pred kind (if (i : Int) ≥ bpp then (if (1 : Int) > 0 then rd (unL bpp kind line above i ++ List.replicate (d + 1) 0) (i - bpp) else bt line (i - bpp)) else 0) (bt above i) (lft above bpp i)) % 256) d
      rw [unL_length] at s1
      rw [s1]
      conv => rhs; unfold unL
      rw [Int.one_mul, if_pos (show (1 : Int) > 0 by decide)]
      by_cases h1 : (i : Int) ≥ bpp
      · rw [if_pos h1, if_pos h1, rd_pad (by rw [unL_length]; omega)]
      · rw [if_neg h1, if_neg h1]
    rw [e]
    exact nx
theorem Undo_ev {bpp kind : Int} {line above : ByteArray} (hn : line.size ≤ 140737488351232) :
    Ev (fun k => filter_Undo.f k bpp kind line above) (if wrg bpp kind line above = 0 then (strOfNums (unL bpp kind line above line.size), 0) else ((⟨#[]⟩ : ByteArray), wrg bpp kind line above)) := by
  unfold filter_Undo.f
  refine ev_id (g := fun k => filter_through.f k bpp kind 1 line above) ?_
  unfold filter_through.f
  refine Ev.bind (wrong_ev bpp kind line above) ?_
  by_cases h0 : wrg bpp kind line above = 0
  · rw [if_pos h0]
    simp only [h0, if_true]
    have h1 : (0 : Int) ≤ (line.size : Int) := by omega
    have h2 : line.size ≤ 281474976710656 := by omega
    simp only [Int.toNat_natCast, h1, h2, if_true, Option.bind_some, List.length_replicate]
    obtain ⟨hb, hk, ha⟩ := wrg_zero h0
    have := un_loop hb hk hn ha line.size 0 (by omega)
    simpa [unL] using this
  · rw [if_neg h0]
    simp only [h0, if_false]
    exact Ev.now _
theorem run_loop {bpp kind : Int} {line above : ByteArray} (hb : 1 ≤ bpp ∧ bpp ≤ 8) (hk : 0 ≤ kind ∧ kind ≤ 4) (hn : line.size ≤ 140737488351232) :
    ∀ d i : Nat, i + d = line.size → Ev (fun k => vitrineref09_Undo.l0 k bpp kind line above (unL bpp kind line above i) (i : Int)) (strOfNums (unL bpp kind line above line.size), 0) := by
  intro d
  induction d with
  | zero =>
    intro i hi
    have : i = line.size := by omega
    subst this
    refine Ev.step (f := fun _ => some (strOfNums (unL bpp kind line above line.size), 0)) (fun k => ?_) (Ev.now _)
    simp only [vitrineref09_Undo.l0]
    rw [if_neg (by omega)]
  | succ d ih =>
    intro i hi
    have w1 : wrap64 ((i : Int) + 1) = ((i + 1 : Nat) : Int) := by rw [w64 (by omega) (by omega)]; rfl
    have w2 : wrap64 ((i : Int) - bpp) = (i : Int) - bpp := w64 (by omega) (by omega)
    have wr : ∀ j, wrap64 (rd (unL bpp kind line above i) j) = rd (unL bpp kind line above i) j := fun j => by have := byt_rd (unL_byt bpp kind line above i) j; exact w64 (by omega) (by omega)
    have c1 : (i : Int) < (line.size : Int) := by omega
    have c2 : (0 : Int) ≤ (i : Int) := by omega
    have c3 : ¬ (i : Int) < 0 := by omega
    have c4 : (unL bpp kind line above i).length < 140737488355328 := by rw [unL_length]; omega
    have nx := ih (i + 1) (by omega)
    rw [show unL bpp kind line above (i + 1) = unL bpp kind line above i ++ [(bt line i + pred kind (if (i : Int) ≥ bpp then rd (unL bpp kind line above i) (i - bpp) else 0) (bt above i) (lft above bpp i)) % 256] from rfl] at nx
    have hl := bt_range line i
    have hA : ∀ A C : Int, (0 ≤ A ∧ A ≤ 255) → (0 ≤ C ∧ C ≤ 255) → A = (if (i : Int) ≥ bpp then rd (unL bpp kind line above i) (i - bpp) else 0) → C = lft above bpp i →
        Ev (fun k => (vitrineref09_tells.f k kind A (bt above i) C).bind fun t => if (unL bpp kind line above i).length < 140737488355328 then vitrineref09_Undo.l0 k bpp kind line above (unL bpp kind line above i ++ [wrap64 (wrap64 (bt line i) + t) % 256]) (wrap64 ((i : Int) + 1)) else none) (strOfNums (unL bpp kind line above line.size), 0) := by
      intro A C hA hC eA eC
      refine Ev.bind (tells_ev hk hA (bt_range above i) hC) ?_
      have hp := pred_range (kind := kind) hA (bt_range above i) hC
      refine Ev.congr (fun k => ?_) nx
      rw [if_pos c4, w1, w64_bt, w64 (x := bt line i + _) (by omega) (by omega), eA, eC]
    by_cases h1 : (i : Int) ≥ bpp
    · have c5 : ¬ (i : Int) - bpp < 0 := by omega
      have c6 : (0 : Int) ≤ (i : Int) - bpp := by omega
      have c7 : (i : Int) - bpp < ((unL bpp kind line above i).length : Int) := by rw [unL_length]; omega
      refine Ev.step (fun k => ?_) (hA (rd (unL bpp kind line above i) (i - bpp)) (bt above (i - bpp)) (byt_rd (unL_byt _ _ _ _ _) _) (bt_range _ _) (by rw [if_pos h1]) (by unfold lft; rw [if_pos h1]))
      simp only [vitrineref09_Undo.l0, c1, c2, c3, c5, c6, c7, h1, w2, wr, at_f, Option.bind_some, if_true, if_false]
    · have c5 : (i : Int) - bpp < 0 := by omega
      refine Ev.step (fun k => ?_) (hA 0 0 (by omega) (by omega) (by rw [if_neg h1]) (by unfold lft; rw [if_neg h1]))
      simp only [vitrineref09_Undo.l0, c1, c2, c3, c5, h1, w2, at_f, Option.bind_some, if_true, if_false]
theorem rUndo_ev {bpp kind : Int} {line above : ByteArray} (hn : line.size ≤ 140737488351232) :
    Ev (fun k => vitrineref09_Undo.f k bpp kind line above) (if wrg bpp kind line above = 0 then (strOfNums (unL bpp kind line above line.size), 0) else ((⟨#[]⟩ : ByteArray), wrg bpp kind line above)) := by
  unfold vitrineref09_Undo.f
  refine Ev.bind (rwrong_ev bpp kind line above) ?_
  by_cases h0 : wrg bpp kind line above = 0
  · rw [if_pos h0]
    simp only [h0, if_true]
    obtain ⟨hb, hk, _⟩ := wrg_zero h0
    have := run_loop (above := above) hb hk hn line.size 0 (by omega)
    simpa [unL] using this
  · rw [if_neg h0]
    simp only [h0, if_false]
    exact Ev.now _
theorem wrapi64 {x : Int} (h1 : -9223372036854775808 ≤ x) (h2 : x ≤ 9223372036854775807) : IntKind.i64.wrap x = x := by
  rw [IntKind.wrap_i64]
  omega
theorem pow_pos' (i : Nat) : (0 : Int) < 2 ^ i := by
  have := Nat.two_pow_pos i
  exact_mod_cast this
theorem and_mask (x : Int) (i : Nat) (hi : i ≤ 62) : Go.bits .and .i64 x (2 ^ i - 1) = x % 2 ^ i := by
  have hp : (2 : Nat) ^ i ≤ 2 ^ 62 := Nat.pow_le_pow_right (by decide) hi
  have h0 : 0 < 2 ^ i := Nat.two_pow_pos i
  have hz := pow_pos' i
  have hm : ((2 : Int) ^ i - 1) = ((2 ^ i - 1 : Nat) : Int) := by rw [Int.natCast_sub h0]; simp
  have e2 : (2 ^ i - 1) % 2 ^ 64 = 2 ^ i - 1 := Nat.mod_eq_of_lt (by omega)
  have hr : 0 ≤ x % 2 ^ i := Int.emod_nonneg _ (by omega)
  have hl : x % 2 ^ i < 2 ^ i := Int.emod_lt_of_pos _ hz
  have hx : (x % 18446744073709551616).toNat % 2 ^ i = (x % 2 ^ i).toNat := by
    have h1 : ((x % 18446744073709551616).toNat : Int) = x % 18446744073709551616 := Int.toNat_of_nonneg (Int.emod_nonneg _ (by decide))
    have h2 : ((x % 2 ^ i).toNat : Int) = x % 2 ^ i := Int.toNat_of_nonneg hr
    have h3 : (x % 18446744073709551616) % 2 ^ i = x % 2 ^ i := by
      have hd : (18446744073709551616 : Int) = 2 ^ i * 2 ^ (64 - i) := by rw [← Int.pow_add, show i + (64 - i) = 64 by omega]; rfl
      exact Int.emod_emod_of_dvd x ⟨_, hd⟩
    have h4 : (((x % 18446744073709551616).toNat % 2 ^ i : Nat) : Int) = ((x % 2 ^ i).toNat : Int) := by
      rw [Int.natCast_emod, h1, h2, ← h3, Int.natCast_pow]
      rfl
    exact Int.ofNat_inj.1 h4
  rw [hm]
  have e4 : Go.bits .and .i64 x ((2 ^ i - 1 : Nat) : Int) = IntKind.i64.wrap ((BitVec.ofInt 64 x &&& BitVec.ofInt 64 ((2 ^ i - 1 : Nat) : Int)).toNat : Int) := rfl
  rw [e4, BitVec.ofInt_natCast, BitVec.toNat_and, BitVec.toNat_ofNat, BitVec.toNat_ofInt, e2, Nat.and_two_pow_sub_one_eq_mod]
  have e3 : (x % ((2 ^ 64 : Nat) : Int)).toNat = (x % 18446744073709551616).toNat := rfl
  rw [e3, hx]
  have hp2 : (2 : Int) ^ i ≤ 2 ^ 62 := by exact_mod_cast hp
  rw [Int.toNat_of_nonneg hr]
  exact wrapi64 (by omega) (by omega)
theorem or_join {x y : Int} (i : Nat) (hx : x % 2 ^ i = 0) (hx0 : 0 ≤ x) (hx1 : x < 2 ^ 62) (hy0 : 0 ≤ y) (hy1 : y < 2 ^ i) (hy2 : y < 2 ^ 62) : Go.bits .or .i64 x y = x + y :=
  bits_join .i64 62 (by decide) (fun n h0 h1 => wrapi64 (by omega) (by omega)) i x y hx0 hx hx1 hy0 hy1 hy2
theorem shr_pow {x : Int} {d : Nat} (hd : d ≤ 64) : shr .i64 x (d : Int) = x / 2 ^ d := by
  unfold shr
  rw [Int.toNat_natCast, show min d IntKind.i64.bits = d from Nat.min_eq_left hd]
def kn (d : Int) : Bool := decide (d = 1 ∨ d = 2 ∨ d = 4 ∨ d = 8 ∨ d = 16)
theorem kn_cases {d : Int} (h : kn d = true) : d = 1 ∨ d = 2 ∨ d = 4 ∨ d = 8 ∨ d = 16 := of_decide_eq_true h
theorem known_ev (d : Int) : Ev (fun k => samples_known.f k d) (kn d) := by
  unfold samples_known.f
  refine ev_same (ev_id (contains_ev [1, 2, 4, 8, 16] d (by simp))) ?_
  unfold kn
  simp only [idx]
  by_cases h1 : d = 1
  · subst h1; rfl
  · by_cases h2 : d = 2
    · subst h2; rfl
    · by_cases h4 : d = 4
      · subst h4; rfl
      · by_cases h8 : d = 8
        · subst h8; rfl
        · by_cases h16 : d = 16
          · subst h16; rfl
          · simp [h1, h2, h4, h8, h16]
theorem Depth_f (d : Int) : vitrineref11_Depth.f d = some (kn d) := by
  unfold vitrineref11_Depth.f kn
  by_cases h1 : d = 1
  · subst h1; rfl
  · by_cases h2 : d = 2
    · subst h2; rfl
    · by_cases h4 : d = 4
      · subst h4; rfl
      · by_cases h8 : d = 8
        · subst h8; rfl
        · rw [if_neg h1, if_neg h2, if_neg h4, if_neg h8]
          by_cases h16 : d = 16
          · subst h16; rfl
          · rw [decide_eq_false (by omega), beq_eq_false_iff_ne.mpr h16]
def pw (d : Int) : Int := 2 ^ d.toNat
theorem tab {d : Int} (h : kn d = true) : (1 ≤ d ∧ d ≤ 16) ∧ (2 ≤ pw d ∧ pw d ≤ 65536) ∧ shl .i64 1 d = pw d ∧ (∀ v, Go.bits .and .i64 v (pw d - 1) = v % pw d) := by
  rcases kn_cases h with rfl | rfl | rfl | rfl | rfl
  · exact ⟨by omega, by decide, by decide, fun v => and_mask v 1 (by decide)⟩
  · exact ⟨by omega, by decide, by decide, fun v => and_mask v 2 (by decide)⟩
  · exact ⟨by omega, by decide, by decide, fun v => and_mask v 4 (by decide)⟩
  · exact ⟨by omega, by decide, by decide, fun v => and_mask v 8 (by decide)⟩
  · exact ⟨by omega, by decide, by decide, fun v => and_mask v 16 (by decide)⟩
def wid (v d : Int) : Int := if kn d = true then v % pw d * (65535 / (pw d - 1)) else 0
theorem quo_tab {d : Int} (h : kn d = true) : (pw d - 1) * (65535 / (pw d - 1)) = 65535 := by
  rcases kn_cases h with rfl | rfl | rfl | rfl | rfl <;> decide
theorem mod_pw (v : Int) {d : Int} (h : kn d = true) : 0 ≤ v % pw d ∧ v % pw d < pw d := by
  obtain ⟨_, h2, _⟩ := tab h
  exact ⟨Int.emod_nonneg _ (by omega), Int.emod_lt_of_pos _ (by omega)⟩
theorem wid_range (v d : Int) : 0 ≤ wid v d ∧ wid v d ≤ 65535 := by
  unfold wid
  split
  · rename_i h
    have h1 := mod_pw v h
    have h2 := quo_tab h
    have h4 : 0 ≤ 65535 / (pw d - 1) := by
      obtain ⟨_, h3, _⟩ := tab h
      exact Int.ediv_nonneg (by decide) (by omega)
    refine ⟨Int.mul_nonneg h1.1 h4, ?_⟩
    exact Int.le_trans (Int.mul_le_mul_of_nonneg_right (by omega) h4) (Int.le_of_eq h2)
  · omega
theorem Wide_ev (v d : Int) : Ev (fun k => samples_Wide.f k v d) (wid v d) := by
  unfold samples_Wide.f
  refine Ev.bind (known_ev d) ?_
  by_cases h : kn d = true
  · obtain ⟨h1, h2, h3, h4⟩ := tab h
    have hr := wid_range v d
    unfold wid at hr ⊢
    simp only [h, if_true] at hr ⊢
    have e1 : wrap64 (pw d - 1) = pw d - 1 := w64 (by omega) (by omega)
    have e2 : Int.tdiv 65535 (pw d - 1) = 65535 / (pw d - 1) := Int.tdiv_eq_ediv_of_nonneg (by decide)
    have e3 : wrap64 (65535 / (pw d - 1)) = 65535 / (pw d - 1) := by
      have a : 0 ≤ 65535 / (pw d - 1) := Int.ediv_nonneg (by decide) (by omega)
      have b : 65535 / (pw d - 1) ≤ 65535 := Int.ediv_le_self _ (by decide)
      exact w64 (by omega) (by omega)
    rw [if_pos (by omega), h3, e1, if_neg (by omega), h4, e2, e3, w64 (by omega) (by omega)]
    exact Ev.now _
  · have h' : kn d = false := by cases e : kn d <;> simp_all
    unfold wid
    simp only [h', if_false, Bool.false_eq_true]
    exact Ev.now _
theorem rWide_f (v d : Int) : vitrineref11_Wide.f v d = some (wid v d) := by
  unfold vitrineref11_Wide.f
  rw [Depth_f]
  simp only [Option.bind_some]
  by_cases h : kn d = true
  · obtain ⟨h1, h2, h3, h4⟩ := tab h
    have hm := mod_pw v h
    have hq := quo_tab h
    unfold wid
    simp only [h, if_true]
    have e1 : wrap64 (pw d - 1) = pw d - 1 := w64 (by omega) (by omega)
    have e2 : wrap64 (v % pw d * 65535) = v % pw d * 65535 := w64 (by omega) (by omega)
    have e3 : v % pw d * 65535 / (pw d - 1) = v % pw d * (65535 / (pw d - 1)) := by
      conv => lhs; rw [← hq]
      rw [← Int.mul_assoc, Int.mul_comm (v % pw d) (pw d - 1), Int.mul_assoc, Int.mul_ediv_cancel_left _ (by omega)]
    have hr := wid_range v d
    unfold wid at hr
    simp only [h, if_true] at hr
    rw [if_pos (by omega), h3, e1, if_neg (by omega), h4, e2, Int.tdiv_eq_ediv_of_nonneg (by omega), e3, w64 (by omega) (by omega)]
  · have h' : kn d = false := by cases e : kn d <;> simp_all
    unfold wid
    simp only [h', if_false, Bool.false_eq_true]
def acc (f : Nat → Int) (a : Nat) : Nat → Int
  | 0 => 0
  | m + 1 => 2 * acc f a m + f (a + m)
def Bin (f : Nat → Int) : Prop := ∀ i, f i = 0 ∨ f i = 1
theorem acc_succ (f : Nat → Int) (a m : Nat) : acc f a (m + 1) = 2 * acc f a m + f (a + m) := rfl
theorem acc_split (f : Nat → Int) (a m p : Nat) : acc f a (m + p) = acc f a m * 2 ^ p + acc f (a + m) p := by
  induction p with
  | zero => simp [acc]
  | succ p ih =>
    rw [← Nat.add_assoc]
    show 2 * acc f a (m + p) + f (a + (m + p)) = acc f a m * 2 ^ (p + 1) + (2 * acc f (a + m) p + f (a + m + p))
    rw [ih, ← Nat.add_assoc, Int.pow_succ, ← Int.mul_assoc]
    omega
theorem acc_range {f : Nat → Int} (h : Bin f) (a m : Nat) : 0 ≤ acc f a m ∧ acc f a m < 2 ^ m := by
  induction m with
  | zero => simp [acc]
  | succ m ih =>
    unfold acc
    rw [Int.pow_succ]
    have := h (a + m)
    omega
theorem half_mod (q : Int) (m : Nat) : 2 * (q / 2 % 2 ^ m) + q % 2 = q % 2 ^ (m + 1) := by
  have hp := pow_pos' m
  have h1 : q = 2 * (q / 2) + q % 2 := by omega
  have h2 : q / 2 = 2 ^ m * (q / 2 / 2 ^ m) + q / 2 % 2 ^ m := (Int.mul_ediv_add_emod _ _).symm
  have h3 : 0 ≤ q / 2 % 2 ^ m := Int.emod_nonneg _ (by omega)
  have h4 : q / 2 % 2 ^ m < 2 ^ m := Int.emod_lt_of_pos _ hp
  have h5 : q = (2 * (q / 2 % 2 ^ m) + q % 2) + (2 : Int) ^ (m + 1) * (q / 2 / 2 ^ m) := by
    rw [Int.pow_succ, Int.mul_comm (2 ^ m) 2, Int.mul_assoc]
    omega
  have h6 : (2 * (q / 2 % 2 ^ m) + q % 2) < 2 ^ (m + 1) := by rw [Int.pow_succ]; omega
  conv => rhs; rw [h5]
  rw [Int.add_mul_emod_self_left, Int.emod_eq_of_lt (by omega) h6]
theorem acc_num {f : Nat → Int} (v : Int) (d a : Nat) (hf : ∀ i, i < d → f (a + i) = v / 2 ^ (d - 1 - i) % 2) : ∀ m, m ≤ d → acc f a m = v / 2 ^ (d - m) % 2 ^ m := by
  intro m
  induction m with
  | zero => intro _; simp [acc]
  | succ m ih =>
    intro hm
    unfold acc
    rw [ih (by omega), hf m (by omega), ← half_mod]
    have e : v / 2 ^ (d - m) = v / 2 ^ (d - (m + 1)) / 2 := by
      rw [show d - m = (d - (m + 1)) + 1 by omega, Int.pow_succ, Int.ediv_ediv_of_nonneg (by have := pow_pos' (d - (m + 1)); omega)]
    rw [e, show d - 1 - m = d - (m + 1) by omega]
def rbit (row : ByteArray) (k : Nat) : Int := bt row ((k / 8 : Nat) : Int) / 2 ^ (7 - k % 8) % 2
theorem mod2 (x : Int) : x % 2 = 0 ∨ x % 2 = 1 := by omega
theorem rbit_bin (row : ByteArray) : Bin (rbit row) := fun k => mod2 _
theorem acc_rbit (row : ByteArray) (a m : Nat) (h : a % 8 + m ≤ 8) : acc (rbit row) a m = bt row ((a / 8 : Nat) : Int) / 2 ^ (8 - m - a % 8) % 2 ^ m := by
  have h1 := acc_num (f := rbit row) (bt row ((a / 8 : Nat) : Int) / 2 ^ (8 - m - a % 8)) m a (fun i hi => by
    unfold rbit
    rw [show (a + i) / 8 = a / 8 by omega, show (a + i) % 8 = a % 8 + i by omega, Int.ediv_ediv_of_nonneg (by have := pow_pos' (8 - m - a % 8); omega), ← Int.pow_add, show 8 - m - a % 8 + (m - 1 - i) = 7 - (a % 8 + i) by omega]) m (Nat.le_refl _)
  rw [h1, Nat.sub_self, Int.pow_zero, Int.ediv_one]
theorem acc_byte (row : ByteArray) (j : Nat) : acc (rbit row) (8 * j) 8 = bt row (j : Int) := by
  rw [acc_rbit row (8 * j) 8 (by omega), show 8 * j / 8 = j by omega, show 8 - 8 - 8 * j % 8 = 0 by omega]
  have := bt_range row (j : Int)
  simp only [Int.pow_zero, Int.ediv_one]
  exact Int.emod_eq_of_lt (by omega) (by omega)
def unp (row : ByteArray) (d : Nat) (n : Nat) : List Int := (List.range n).map fun i => acc (rbit row) (i * d) d
def unpAll (row : ByteArray) (d n : Int) : List Int × Int :=
  if kn d = true ∧ 0 ≤ n ∧ n ≤ 4096 then (if (row.size : Int) * 8 < n * d then ([], 30) else (unp row d.toNat n.toNat, 0)) else ([], 1)
theorem tdiv_nn {x : Int} (h : 0 ≤ x) (y : Int) : Int.tdiv x y = x / y := Int.tdiv_eq_ediv_of_nonneg h
theorem tmod_nn {x : Int} (h : 0 ≤ x) (y : Int) : Int.tmod x y = x % y := Int.tmod_eq_emod_of_nonneg h
theorem unp16 (row : ByteArray) (i : Nat) : acc (rbit row) (i * 16) 16 = bt row ((2 * i : Nat) : Int) * 256 + bt row ((2 * i + 1 : Nat) : Int) := by
  rw [show (16 : Nat) = 8 + 8 from rfl, acc_split, show i * (8 + 8) = 8 * (2 * i) by omega, acc_byte, show 8 * (2 * i) + 8 = 8 * (2 * i + 1) by omega, acc_byte]
  rfl
theorem unp_low {d : Nat} (h : d = 1 ∨ d = 2 ∨ d = 4 ∨ d = 8) (row : ByteArray) (i : Nat) : acc (rbit row) (i * d) d = bt row ((i * d / 8 : Nat) : Int) / 2 ^ (8 - d - i * d % 8) % 2 ^ d := by
  refine acc_rbit row (i * d) d ?_
  rcases h with rfl | rfl | rfl | rfl <;> omega
theorem Unpack_step16 {row : ByteArray} {n : Nat} (hz : row.size ≤ 140737488351232) (i : Nat) (k r : Nat) (hi : i + (r + 1) = n) (hn : n ≤ 4096) (hs : n * 16 ≤ row.size * 8) :
    samples_Unpack.l0 (k + 1) row 16 ((List.range i).map (fun j => acc (rbit row) (j * 16) 16) ++ List.replicate (r + 1) 0) (n : Int) (i : Int) = samples_Unpack.l0 k row 16 ((List.range (i + 1)).map (fun j => acc (rbit row) (j * 16) 16) ++ List.replicate r 0) (n : Int) ((i + 1 : Nat) : Int) := by
  have w1 : wrap64 (2 * (i : Int)) = ((2 * i : Nat) : Int) := by rw [w64 (by omega) (by omega)]; omega
  have w2 : wrap64 (((2 * i : Nat) : Int) + 1) = ((2 * i + 1 : Nat) : Int) := by rw [w64 (by omega) (by omega)]; omega
  have w3 : wrap64 ((i : Int) + 1) = ((i + 1 : Nat) : Int) := by rw [w64 (by omega) (by omega)]; omega
  have b1 := bt_range row ((2 * i : Nat) : Int)
  have b2 := bt_range row ((2 * i + 1 : Nat) : Int)
  have e1 : Go.bits .or .i64 (wrap64 ((wrap64 (bt row ((2 * i : Nat) : Int))) * 256)) (wrap64 (bt row ((2 * i + 1 : Nat) : Int))) = acc (rbit row) (i * 16) 16 := by
    rw [w64_bt, w64_bt, w64 (by omega) (by omega), unp16]
    exact or_join 8 (by omega) (by omega) (by omega) (by omega) (by omega) (by omega)
  conv => lhs; simp only [samples_Unpack.l0]
  rw [if_pos (by omega), if_pos trivial, w1, if_pos (by omega), if_pos (by omega), w2, if_pos (by omega), if_pos (by omega), if_pos (by omega), if_pos (by simp; omega), w3, e1, Int.toNat_natCast, range_set _ rfl]
theorem low_facts {i n d z : Nat} (hd : d = 1 ∨ d = 2 ∨ d = 4 ∨ d = 8) (hi : i < n) (hn : n ≤ 4096) (hs : n * d ≤ z * 8) : i * d ≤ 32768 ∧ i * d / 8 < z ∧ i * d % 8 + d ≤ 8 := by
  rcases hd with rfl | rfl | rfl | rfl <;> omega
theorem low_w1 {i d : Nat} (h : i * d ≤ 32768) : wrap64 ((i : Int) * (d : Int)) = ((i * d : Nat) : Int) := by
  have : (i : Int) * (d : Int) = ((i * d : Nat) : Int) := by simp
  rw [this, w64 (by omega) (by omega)]
theorem low_w2 {m : Nat} (h : m ≤ 32768) : wrap64 (Int.tdiv (m : Int) 8) = ((m / 8 : Nat) : Int) := by rw [tdiv_nn (by omega), w64 (by omega) (by omega)]; omega
theorem low_w4 {m d : Nat} (h : m % 8 + d ≤ 8) : wrap64 (wrap64 (8 - (d : Int)) - Int.tmod (m : Int) 8) = ((8 - d - m % 8 : Nat) : Int) := by
  rw [tmod_nn (by omega), w64 (x := 8 - (d : Int)) (by omega) (by omega), w64 (by omega) (by omega)]
  omega
theorem low_e (row : ByteArray) {i d : Nat} (hd : d = 1 ∨ d = 2 ∨ d = 4 ∨ d = 8) : Go.bits .and .i64 (shr .i64 (wrap64 (bt row ((i * d / 8 : Nat) : Int))) ((8 - d - i * d % 8 : Nat) : Int)) (wrap64 ((shl .i64 1 (d : Int)) - 1)) = acc (rbit row) (i * d) d := by
  have hk : kn (d : Int) = true := by rcases hd with rfl | rfl | rfl | rfl <;> rfl
  obtain ⟨_, h2, h3, h4⟩ := tab hk
  have hle : 8 - d - i * d % 8 ≤ 64 := by omega
  rw [h3, w64 (x := pw (d : Int) - 1) (by omega) (by omega), h4, w64_bt, shr_pow hle, unp_low hd]
  rfl
theorem Unpack_stepLow {row : ByteArray} {n d : Nat} (hd : d = 1 ∨ d = 2 ∨ d = 4 ∨ d = 8) (i : Nat) (k r : Nat) (hi : i + (r + 1) = n) (hn : n ≤ 4096) (hs : n * d ≤ row.size * 8) :
    samples_Unpack.l0 (k + 1) row (d : Int) ((List.range i).map (fun j => acc (rbit row) (j * d) d) ++ List.replicate (r + 1) 0) (n : Int) (i : Int) = samples_Unpack.l0 k row (d : Int) ((List.range (i + 1)).map (fun j => acc (rbit row) (j * d) d) ++ List.replicate r 0) (n : Int) ((i + 1 : Nat) : Int) := by
  have c1 : (i : Int) < (n : Int) := by omega
  have c2 : ¬ ((d : Int) = 16) := by omega
  have c3 : (i : Int) < (((List.range i).map (fun j => acc (rbit row) (j * d) d) ++ List.replicate (r + 1) 0).length : Int) := by
    rw [List.length_append, List.length_map, List.length_range, List.length_replicate]
    omega
  obtain ⟨f1, f2, f3⟩ := low_facts hd (show i < n by omega) hn hs
  have c4 : ((i * d / 8 : Nat) : Int) < (row.size : Int) := Int.ofNat_lt.2 f2
  conv => lhs; simp only [samples_Unpack.l0]
  rw [if_pos c1, if_neg c2, low_w1 f1, low_w2 f1, if_pos (Int.natCast_nonneg _), if_pos c4, low_w4 f3, if_pos (Int.natCast_nonneg _), if_pos (Int.natCast_nonneg _), if_pos (Int.natCast_nonneg _), if_pos c3, w_succ (by omega), low_e row hd, Int.toNat_natCast, range_set _ rfl]
theorem Unpack_loop {row : ByteArray} {n d : Nat} (hz : row.size ≤ 140737488351232) (hd : d = 1 ∨ d = 2 ∨ d = 4 ∨ d = 8 ∨ d = 16) (hn : n ≤ 4096) (hs : n * d ≤ row.size * 8) : ∀ r i : Nat, i + r = n → Ev (fun k => samples_Unpack.l0 k row (d : Int) ((List.range i).map (fun j => acc (rbit row) (j * d) d) ++ List.replicate r 0) (n : Int) (i : Int)) (unp row d n, 0) := by
  intro r
  induction r with
  | zero =>
    intro i hi
    refine Ev.step (f := fun _ => some (unp row d n, 0)) (fun k => ?_) (Ev.now _)
    simp only [samples_Unpack.l0]
    rw [if_neg (by omega), show i = n by omega]
    simp [unp]
  | succ r ih =>
    intro i hi
    refine Ev.step (fun k => ?_) (ih (i + 1) (by omega))
    by_cases h : d = 16
    · subst h
      exact Unpack_step16 hz i k r hi hn hs
    · exact Unpack_stepLow (by omega) i k r hi hn hs
theorem Unpack_ev {row : ByteArray} {d n : Int} (hz : row.size ≤ 140737488351232) : Ev (fun k => samples_Unpack.f k row d n) (unpAll row d n) := by
  unfold samples_Unpack.f
  refine Ev.bind (known_ev d) ?_
  have bad : kn d = false ∨ n < 0 ∨ 4096 < n → Ev (fun k => samples_Unpack.j0 k row d n true) (unpAll row d n) := fun h => by
    refine Ev.step (f := fun _ => some (unpAll row d n)) (fun k => ?_) (Ev.now _)
    simp only [samples_Unpack.j0, if_true]
    unfold unpAll
    rw [if_neg (by rintro ⟨h1, h2, h3⟩; rcases h with h | h | h; (· rw [h] at h1; cases h1); all_goals omega)]
  by_cases hk : kn d = true
  · simp only [hk, if_true]
    by_cases h0 : n < 0
    · simp only [h0, if_true]
      exact bad (.inr (.inl h0))
    · simp only [h0, if_false]
      by_cases h1 : n > 4096
      · rw [decide_eq_true h1]
        exact bad (.inr (.inr h1))
      · rw [decide_eq_false h1]
        have hd := (tab hk).1
        have hnd : n * d ≤ 4096 * 16 := Int.le_trans (Int.mul_le_mul_of_nonneg_right (by omega) (by omega)) (Int.mul_le_mul_of_nonneg_left hd.2 (by omega))
        have hnd0 : 0 ≤ n * d := Int.mul_nonneg (by omega) (by omega)
        have w1 : wrap64 (n * d) = n * d := w64 (by omega) (by omega)
        have w2 : wrap64 ((row.size : Int) * 8) = (row.size : Int) * 8 := w64 (by omega) (by omega)
        unfold unpAll
        rw [if_pos ⟨hk, by omega, by omega⟩]
        by_cases h2 : (row.size : Int) * 8 < n * d
        · rw [if_pos h2]
          refine Ev.step (f := fun _ => some ([], 30)) (fun k => ?_) (Ev.now _)
          simp only [samples_Unpack.j0, Bool.false_eq_true, if_false]
          rw [w1, w2, if_pos h2]
        · rw [if_neg h2]
          obtain ⟨D, rfl⟩ := Int.eq_ofNat_of_zero_le (show 0 ≤ d by omega)
          obtain ⟨M, rfl⟩ := Int.eq_ofNat_of_zero_le (show 0 ≤ n by omega)
          have hs : M * D ≤ row.size * 8 := by
            have : ((M * D : Nat) : Int) ≤ ((row.size * 8 : Nat) : Int) := by push_cast; omega
            exact_mod_cast this
          have hD : D = 1 ∨ D = 2 ∨ D = 4 ∨ D = 8 ∨ D = 16 := by have := kn_cases hk; omega
          refine Ev.step (fun k => ?_) (Unpack_loop hz hD (by omega) hs M 0 (by omega))
          simp only [samples_Unpack.j0, Bool.false_eq_true, if_false]
          rw [w1, w2, if_neg h2, if_pos (by omega), if_pos (by omega), Int.toNat_natCast]
          simp
  · have hk' : kn d = false := by cases e : kn d <;> simp_all
    simp only [hk', Bool.false_eq_true, if_false]
    exact bad (.inl hk')
theorem and_one8 {x : Int} (h0 : 0 ≤ x) (h1 : x ≤ 255) : Go.bits .and .u8 x 1 = x % 2 := by
  obtain ⟨n, rfl⟩ := Int.eq_ofNat_of_zero_le h0
  have e : Go.bits .and .u8 (n : Int) 1 = IntKind.u8.wrap ((BitVec.ofInt 8 (n : Int) &&& BitVec.ofInt 8 ((1 : Nat) : Int)).toNat : Int) := rfl
  rw [e, BitVec.ofInt_natCast, BitVec.ofInt_natCast, BitVec.toNat_and, BitVec.toNat_ofNat, BitVec.toNat_ofNat, show 1 % 2 ^ 8 = 1 from rfl, Nat.and_one_is_mod, Go.IntKind.wrap_u8]
  omega
theorem shr8 {x : Int} {d : Nat} (hd : d ≤ 8) : shr .u8 x (d : Int) = x / 2 ^ d := by
  unfold shr
  rw [Int.toNat_natCast, show min d IntKind.u8.bits = d from Nat.min_eq_left hd]
theorem two_pow_le {a b : Nat} (h : a ≤ b) : (2 : Int) ^ a ≤ 2 ^ b := by
  have := Nat.pow_le_pow_right (show 0 < 2 by decide) h
  exact_mod_cast this
theorem rbit_e (row : ByteArray) {k : Nat} (hk : k ≤ 4611686018427387904) : Go.bits .and .u8 (shr .u8 (bt row (wrap64 (Int.tdiv (k : Int) 8))) (wrap64 (7 - (Int.tmod (k : Int) 8)))) 1 = rbit row k := by
  rw [tdiv_nn (by omega), tmod_nn (by omega), show wrap64 ((k : Int) / 8) = ((k / 8 : Nat) : Int) by rw [w64 (by omega) (by omega)]; omega, show wrap64 (7 - (k : Int) % 8) = ((7 - k % 8 : Nat) : Int) by rw [w64 (by omega) (by omega)]; omega, shr8 (by omega)]
  have hb := bt_range row ((k / 8 : Nat) : Int)
  have hp := pow_pos' (7 - k % 8)
  have h1 : 0 ≤ bt row ((k / 8 : Nat) : Int) / 2 ^ (7 - k % 8) := Int.ediv_nonneg hb.1 (by omega)
  have h2 : bt row ((k / 8 : Nat) : Int) / 2 ^ (7 - k % 8) ≤ bt row ((k / 8 : Nat) : Int) := Int.ediv_le_self _ hb.1
  rw [and_one8 h1 (by omega)]
  rfl
theorem acc_small {f : Nat → Int} (h : Bin f) (a : Nat) {m : Nat} (hm : m ≤ 30) : 0 ≤ acc f a m ∧ acc f a m ≤ 1073741824 := by
  have h1 := acc_range h a m
  have h2 := two_pow_le hm
  have e : (2 : Int) ^ 30 = 1073741824 := rfl
  omega
theorem rU_bits {row : ByteArray} {n : Int} {d i : Nat} {out : List Int} {R : List Int × Int} (hd : 1 ≤ d ∧ d ≤ 16) (hi : i ≤ 4096) (hs : (i + 1) * d ≤ row.size * 8) (hl : out.length < 17592186044416)
    (hnext : Ev (fun k => vitrineref11_Unpack.l0 k row (d : Int) n (out ++ [acc (rbit row) (i * d) d]) ((i + 1 : Nat) : Int)) R) : ∀ r m : Nat, m + r = d → Ev (fun k => vitrineref11_Unpack.l1 k row (d : Int) n out (i : Int) (acc (rbit row) (i * d) m) ((i * d + m : Nat) : Int)) R := by
  have hid : (i + 1) * d ≤ 4097 * 16 := Nat.mul_le_mul (by omega) hd.2
  have ex : (i + 1) * d = i * d + d := by rw [Nat.add_mul, Nat.one_mul]
  have w1 : wrap64 ((wrap64 ((i : Int) + 1)) * (d : Int)) = ((i * d + d : Nat) : Int) := by
    rw [w_succ (by omega)]
    have : ((i + 1 : Nat) : Int) * (d : Int) = ((i * d + d : Nat) : Int) := by rw [← ex]; simp
    rw [this, w64 (by omega) (by omega)]
  intro r
  induction r with
  | zero =>
    intro m hm
    have hm' : m = d := by omega
    subst hm'
    refine Ev.step (fun k => ?_) hnext
    simp only [vitrineref11_Unpack.l1]
    rw [w1, if_neg (by omega), if_pos hl, w_succ (by omega)]
  | succ r ih =>
    intro m hm
    refine Ev.step (fun k => ?_) (ih (m + 1) (by omega))
    have hk : i * d + m ≤ 4611686018427387904 := by omega
    have hb := rbit_bin row (i * d + m)
    have ha := acc_small (rbit_bin row) (i * d) (m := m) (by omega)
    have e1 : wrap64 ((wrap64 (2 * acc (rbit row) (i * d) m)) + (wrap64 (rbit row (i * d + m)))) = acc (rbit row) (i * d) (m + 1) := by
      rw [acc_succ, w64 (x := 2 * acc (rbit row) (i * d) m) (by omega) (by omega), w64 (x := rbit row (i * d + m)) (by omega) (by omega), w64 (by omega) (by omega)]
    have c1 : ((i * d + m : Nat) : Int) < ((i * d + d : Nat) : Int) := by omega
    have c2 : 0 ≤ wrap64 (Int.tdiv ((i * d + m : Nat) : Int) 8) ∧ wrap64 (Int.tdiv ((i * d + m : Nat) : Int) 8) < (row.size : Int) := by
      clear hb ha e1
      rw [tdiv_nn (by omega), w64 (by omega) (by omega)]
      omega
    have c3 : 0 ≤ wrap64 (7 - (Int.tmod ((i * d + m : Nat) : Int) 8)) := by
      clear hb ha e1
      rw [tmod_nn (by omega), w64 (by omega) (by omega)]
      omega
    have w2 : wrap64 (((i * d + m : Nat) : Int) + 1) = ((i * d + (m + 1) : Nat) : Int) := w_succ hk
    simp only [vitrineref11_Unpack.l1]
    rw [w1, if_pos c1, if_pos c2.1, if_pos c2.2, if_pos c3, rbit_e row hk, e1, w2]
theorem rU_loop {row : ByteArray} {n d : Nat} (hd : 1 ≤ d ∧ d ≤ 16) (hn : n ≤ 4096) (hs : n * d ≤ row.size * 8) : ∀ r i : Nat, i + r = n → Ev (fun k => vitrineref11_Unpack.l0 k row (d : Int) (n : Int) (unp row d i) (i : Int)) (unp row d n, 0) := by
  intro r
  induction r with
  | zero =>
    intro i hi
    refine Ev.step (f := fun _ => some (unp row d n, 0)) (fun k => ?_) (Ev.now _)
    simp only [vitrineref11_Unpack.l0]
    rw [if_neg (by omega), show i = n by omega]
  | succ r ih =>
    intro i hi
    have hid : (i + 1) * d ≤ n * d := Nat.mul_le_mul_right d (by omega)
    have hid2 : i * d ≤ 4096 * 16 := Nat.mul_le_mul (by omega) hd.2
    have hu : unp row d i ++ [acc (rbit row) (i * d) d] = unp row d (i + 1) := by
      unfold unp
      rw [List.range_succ, List.map_append]
      rfl
    have h1 := rU_bits (row := row) (n := (n : Int)) (d := d) (i := i) (out := unp row d i) hd (by omega) (by omega) (by simp [unp]; omega) (by rw [hu]; exact ih (i + 1) (by omega)) d 0 (by omega)
    refine Ev.step (fun k => ?_) h1
    have w1 : wrap64 ((i : Int) * (d : Int)) = ((i * d + 0 : Nat) : Int) := by
      have : (i : Int) * (d : Int) = ((i * d + 0 : Nat) : Int) := by simp
      rw [this, w64 (by omega) (by omega)]
    simp only [vitrineref11_Unpack.l0]
    rw [if_pos (by omega), w1]
    rfl
theorem rUnpack_ev {row : ByteArray} {d n : Int} (hz : row.size ≤ 140737488351232) : Ev (fun k => vitrineref11_Unpack.f k row d n) (unpAll row d n) := by
  unfold vitrineref11_Unpack.f
  simp only [Depth_f, Option.bind_some]
  have bad : kn d = false ∨ n < 0 ∨ 4096 < n → Ev (fun k => vitrineref11_Unpack.j0 k row d n true) (unpAll row d n) := fun h => by
    refine Ev.step (f := fun _ => some (unpAll row d n)) (fun k => ?_) (Ev.now _)
    simp only [vitrineref11_Unpack.j0, if_true]
    unfold unpAll
    rw [if_neg (by rintro ⟨h1, h2, h3⟩; rcases h with h | h | h; (· rw [h] at h1; cases h1); all_goals omega)]
  by_cases hk : kn d = true
  · simp only [hk, if_true]
    by_cases h0 : n < 0
    · simp only [h0, if_true]
      exact bad (.inr (.inl h0))
    · simp only [h0, if_false]
      by_cases h1 : n > 4096
      · rw [decide_eq_true h1]
        exact bad (.inr (.inr h1))
      · rw [decide_eq_false h1]
        have hd := (tab hk).1
        have hnd : n * d ≤ 4096 * 16 := Int.le_trans (Int.mul_le_mul_of_nonneg_right (by omega) (by omega)) (Int.mul_le_mul_of_nonneg_left hd.2 (by omega))
        have hnd0 : 0 ≤ n * d := Int.mul_nonneg (by omega) (by omega)
        have w1 : wrap64 (n * d) = n * d := w64 (by omega) (by omega)
        have w2 : wrap64 (8 * (row.size : Int)) = 8 * (row.size : Int) := w64 (by omega) (by omega)
        unfold unpAll
        rw [if_pos ⟨hk, by omega, by omega⟩]
        by_cases h2 : (row.size : Int) * 8 < n * d
        · rw [if_pos h2]
          refine Ev.step (f := fun _ => some ([], 30)) (fun k => ?_) (Ev.now _)
          simp only [vitrineref11_Unpack.j0, Bool.false_eq_true, if_false]
          rw [w1, w2, if_pos (by omega)]
        · rw [if_neg h2]
          obtain ⟨D, rfl⟩ := Int.eq_ofNat_of_zero_le (show 0 ≤ d by omega)
          obtain ⟨M, rfl⟩ := Int.eq_ofNat_of_zero_le (show 0 ≤ n by omega)
          have hs : M * D ≤ row.size * 8 := by
            have : ((M * D : Nat) : Int) ≤ ((row.size * 8 : Nat) : Int) := by push_cast; omega
            exact_mod_cast this
          refine Ev.step (fun k => ?_) (rU_loop (row := row) (n := M) (d := D) (by omega) (by omega) hs M 0 (by omega))
          simp only [vitrineref11_Unpack.j0, Bool.false_eq_true, if_false]
          rw [w1, w2, if_neg (by omega)]
          rfl
  · have hk' : kn d = false := by cases e : kn d <;> simp_all
    simp only [hk', Bool.false_eq_true, if_false]
    exact bad (.inl hk')
def px (a b c d : Int) : ByteArray := strOfNums [a / 256 % 256, a % 256, b / 256 % 256, b % 256, c / 256 % 256, c % 256, d / 256 % 256, d % 256]
theorem pairs_ev (a b c d : Int) : Ev (fun k => samples_pairs.f k [a, b, c, d]) (px a b c d) := by
  have s : ∀ (k : Nat) (x : List Int) (v : Int) (i j : Int), x.length ≤ 100 → 0 ≤ i → i < 4 → wrap64 (i + 1) = j → rd [a, b, c, d] i = v → samples_pairs.l0 (k + 1) x [a, b, c, d] 4 i = samples_pairs.l0 k (x ++ [v / 256 % 256, v % 256]) [a, b, c, d] 4 j := by
    intro k x v i j hx h0 h1 hj hv
    have hlen : x.length + 2 < 140737488355328 := by omega
    simp only [samples_pairs.l0, Option.bind_some, List.length_cons, List.length_nil]
    rw [if_pos h1, if_pos h0, if_pos (by simpa using h1), hv, if_pos hlen, hj]
  unfold samples_pairs.f
  refine Ev.congr (f := fun k => samples_pairs.l0 k [] [a, b, c, d] 4 0) (fun k => rfl) ?_
  refine Ev.step (fun k => s k [] a 0 1 (by simp) (by decide) (by decide) (by decide +kernel) rfl) ?_
  refine Ev.step (fun k => s k _ b 1 2 (by simp) (by decide) (by decide) (by decide +kernel) rfl) ?_
  refine Ev.step (fun k => s k _ c 2 3 (by simp) (by decide) (by decide) (by decide +kernel) rfl) ?_
  refine Ev.step (fun k => s k _ d 3 4 (by simp) (by decide) (by decide) (by decide +kernel) rfl) ?_
  refine Ev.step (f := fun _ => some (px a b c d)) (fun k => ?_) (Ev.now _)
  simp only [samples_pairs.l0]
  rw [if_neg (by decide)]
  rfl
theorem bt_rest (s : ByteArray) {i j : Int} (h0 : 0 ≤ i) (h1 : 0 ≤ j) (h2 : i + j < s.size) : bt (s.extract i.toNat s.size) j = bt s (i + j) := by
  unfold bt
  have e1 : (s.extract i.toNat s.size).size = s.size - i.toNat := by simp [ByteArray.size_extract]
  rw [dif_pos (by rw [e1]; omega), dif_pos (by omega)]
  congr 2
  have := ByteArray.getElem_extract (b := s) (i := j.toNat) (start := i.toNat) (stop := s.size) (by rw [e1]; omega)
  rw [this]
  congr 1
  omega
def lst (pal tr : ByteArray) (has : Bool) (a : Int) : ByteArray × Int :=
  if 3 * a + 3 > (pal.size : Int) then (⟨#[]⟩, 29) else (px (257 * bt pal (3 * a)) (257 * bt pal (3 * a + 1)) (257 * bt pal (3 * a + 2)) (if has = true ∧ a < (tr.size : Int) then 257 * bt tr a else 65535), 0)
theorem wid8 {x : Int} (h : 0 ≤ x ∧ x ≤ 255) : wid x 8 = 257 * x := by
  have e : pw 8 = 256 := rfl
  unfold wid
  rw [if_pos (show kn 8 = true from rfl), e]
  omega
theorem listed_go {k0 : Nat} {a alpha s0 s1 s2 s3 s4 : Int} {pal tr : ByteArray} {has : Bool} (ha : 0 ≤ a) (h : 3 * a + 3 ≤ (pal.size : Int)) (hz : pal.size ≤ 140737488351232) (hal : 0 ≤ alpha ∧ alpha ≤ 255) :
    Ev (fun k => samples_listed.j1 k a alpha s0 s1 s2 s3 s4 pal tr has) (px (257 * bt pal (3 * a)) (257 * bt pal (3 * a + 1)) (257 * bt pal (3 * a + 2)) (257 * alpha), 0) := by
  have w1 : wrap64 (3 * a) = 3 * a := w64 (by omega) (by omega)
  have e1 : ((pal.extract (3 * a).toNat pal.size).size : Int) = (pal.size : Int) - 3 * a := by rw [ByteArray.size_extract]; omega
  have b0 := bt_rest pal (i := 3 * a) (j := 0) (by omega) (by decide) (by omega)
  have b1 := bt_rest pal (i := 3 * a) (j := 1) (by omega) (by decide) (by omega)
  have b2 := bt_rest pal (i := 3 * a) (j := 2) (by omega) (by decide) (by omega)
  rw [Int.add_zero] at b0
  refine Ev.step (f := fun k => (samples_Wide.f k (bt pal (3 * a)) 8).bind fun t140 => (samples_Wide.f k (bt pal (3 * a + 1)) 8).bind fun t141 => (samples_Wide.f k (bt pal (3 * a + 2)) 8).bind fun t142 => (samples_Wide.f k alpha 8).bind fun t143 => (samples_pairs.f k [t140, t141, t142, t143]).bind fun t147 => some (t147, 0)) (fun k => ?_) ?_
  · simp only [samples_listed.j1]
    rw [w1, b0, b1, b2, w64_bt, w64_bt, w64_bt, e1, if_pos (by omega), if_pos (by omega), if_pos (by omega)]
    simp only [show (1 : Int) < (pal.size : Int) - 3 * a by omega, show (2 : Int) < (pal.size : Int) - 3 * a by omega, if_true]
  · refine Ev.bind (Wide_ev _ 8) (Ev.bind (Wide_ev _ 8) (Ev.bind (Wide_ev _ 8) (Ev.bind (Wide_ev _ 8) ?_)))
    rw [wid8 (bt_range _ _), wid8 (bt_range _ _), wid8 (bt_range _ _), wid8 hal]
    exact Ev.bind (pairs_ev _ _ _ _) (Ev.now _)
theorem listed_ev {a s0 s1 s2 s3 s4 : Int} {pal tr : ByteArray} {has : Bool} (ha : 0 ≤ a) (hz : pal.size ≤ 140737488351232) : Ev (fun k => samples_listed.f k s0 s1 s2 s3 s4 pal tr has a) (lst pal tr has a) := by
  have w1 : wrap64 ((pal.size : Int) / 3) = (pal.size : Int) / 3 := w64 (by omega) (by omega)
  unfold samples_listed.f lst
  rw [w1]
  by_cases h : a ≥ (pal.size : Int) / 3
  · simp only [h, if_true]
    rw [if_pos (by omega)]
    exact Ev.now _
  · simp only [h, if_false]
    rw [if_neg (by omega)]
    have h3 : 3 * a + 3 ≤ (pal.size : Int) := by omega
    have go : ∀ alpha : Int, (0 ≤ alpha ∧ alpha ≤ 255) → Ev (fun k => samples_listed.j1 k a alpha s0 s1 s2 s3 s4 pal tr has) (px (257 * bt pal (3 * a)) (257 * bt pal (3 * a + 1)) (257 * bt pal (3 * a + 2)) (257 * alpha), 0) := fun alpha hal => listed_go (k0 := 0) ha h3 hz hal
    have no : Ev (fun k => samples_listed.j0 k a 255 false s0 s1 s2 s3 s4 pal tr has) (px (257 * bt pal (3 * a)) (257 * bt pal (3 * a + 1)) (257 * bt pal (3 * a + 2)) 65535, 0) := by
      refine Ev.step (fun k => ?_) (go 255 (by omega))
      simp only [samples_listed.j0, Bool.false_eq_true, if_false]
    cases has with
    | false => simpa using no
    | true =>
      simp only [if_true]
      by_cases ht : a < (tr.size : Int)
      · rw [decide_eq_true ht, if_pos ⟨trivial, ht⟩]
        refine Ev.step (fun k => ?_) (go (bt tr a) (bt_range _ _))
        simp only [samples_listed.j0, if_true]
        rw [if_pos ha, if_pos ht, w64_bt]
      · rw [decide_eq_false ht, if_neg (fun h => ht h.2)]
        exact no
def gl (tr : ByteArray) (d : Int) : List Int → Nat → Bool
  | [], _ => true
  | x :: xs, i => if (256 * bt tr ((2 * i : Nat) : Int) + bt tr ((2 * i + 1 : Nat) : Int)) % pw d = x then gl tr d xs (i + 1) else false
def gls (tr : ByteArray) (has : Bool) (d : Int) (l : List Int) : Bool := if has = true ∧ tr.size = 2 * l.length then gl tr d l 0 else false
theorem gl_drop {tr : ByteArray} {d : Int} {l : List Int} {i : Nat} (h : i < l.length) : gl tr d (l.drop i) i = if (256 * bt tr ((2 * i : Nat) : Int) + bt tr ((2 * i + 1 : Nat) : Int)) % pw d = rd l (i : Int) then gl tr d (l.drop (i + 1)) (i + 1) else false := by
  have hr : rd l (i : Int) = l[i] := by
    unfold rd
    rw [List.getD_eq_getElem?_getD, Int.toNat_natCast, List.getElem?_eq_getElem h]
    rfl
  rw [List.drop_eq_getElem_cons h, hr]
  rfl
theorem g_w1 {i : Nat} (h : i ≤ 17592186044416) : wrap64 (2 * (i : Int)) = ((2 * i : Nat) : Int) := by rw [w64 (by omega) (by omega)]; omega
theorem g_e (x y : ByteArray) (i j : Int) {d : Int} (hk : kn d = true) : Go.bits .and .i64 (Go.bits .or .i64 (wrap64 ((wrap64 (bt x i)) * 256)) (wrap64 (bt y j))) (wrap64 ((shl .i64 1 d) - 1)) = (256 * bt x i + bt y j) % pw d := by
  obtain ⟨_, h2, h3, h4⟩ := tab hk
  have b1 := bt_range x i
  have b2 := bt_range y j
  rw [w64_bt, w64_bt, w64 (x := bt x i * 256) (by omega) (by omega), h3, w64 (x := pw d - 1) (by omega) (by omega), h4, or_join 8 (by omega) (by omega) (by omega) (by omega) (by omega) (by omega), Int.mul_comm]
theorem glassy_loop {l : List Int} {s0 s1 s2 s3 s4 : Int} {pal tr : ByteArray} {has : Bool} (hk : kn s2 = true) (hl : l.length ≤ 17592186044416) (ht : tr.size = 2 * l.length) : ∀ r i : Nat, i + r = l.length → Ev (fun k => samples_glassy.l0 k l (l.length : Int) (i : Int) s0 s1 s2 s3 s4 pal tr has) (gl tr s2 (l.drop i) i) := by
  have hd0 : 0 ≤ s2 := by have := (tab hk).1; omega
  intro r
  induction r with
  | zero =>
    intro i hi
    rw [List.drop_of_length_le (by omega)]
    refine Ev.step (f := fun _ => some true) (fun k => ?_) (Ev.now _)
    simp only [samples_glassy.l0]
    rw [if_neg (by omega)]
  | succ r ih =>
    intro i hi
    have hlt : (i : Int) < (l.length : Int) := by omega
    have h62 : i ≤ 4611686018427387904 := by omega
    have h1 : i ≤ 17592186044416 := by omega
    have h2 : 2 * i ≤ 4611686018427387904 := by omega
    have c1 : ((2 * i : Nat) : Int) < (tr.size : Int) := by omega
    have c2 : ((2 * i + 1 : Nat) : Int) < (tr.size : Int) := by omega
    rw [gl_drop (by omega)]
    by_cases h : (256 * bt tr ((2 * i : Nat) : Int) + bt tr ((2 * i + 1 : Nat) : Int)) % pw s2 = rd l (i : Int)
    · rw [if_pos h]
      refine Ev.step (fun k => ?_) (ih (i + 1) (by omega))
      simp only [samples_glassy.l0]
      rw [if_pos hlt, if_pos (Int.natCast_nonneg _), if_pos hlt, g_w1 h1, if_pos (Int.natCast_nonneg _), if_pos c1, w_succ h2, if_pos (Int.natCast_nonneg _), if_pos c2, if_pos hd0, g_e _ _ _ _ hk, if_pos h, w_succ h62]
    · rw [if_neg h]
      refine Ev.step (f := fun _ => some false) (fun k => ?_) (Ev.now _)
      simp only [samples_glassy.l0]
      rw [if_pos hlt, if_pos (Int.natCast_nonneg _), if_pos hlt, g_w1 h1, if_pos (Int.natCast_nonneg _), if_pos c1, w_succ h2, if_pos (Int.natCast_nonneg _), if_pos c2, if_pos hd0, g_e _ _ _ _ hk, if_neg h]
theorem glassy_ev {l : List Int} {s0 s1 s2 s3 s4 : Int} {pal tr : ByteArray} {has : Bool} (hk : kn s2 = true) (hl : l.length ≤ 17592186044416) : Ev (fun k => samples_glassy.f k s0 s1 s2 s3 s4 pal tr has l) (gls tr has s2 l) := by
  have w1 : wrap64 (2 * (l.length : Int)) = 2 * (l.length : Int) := w64 (by omega) (by omega)
  have no : Ev (fun k => samples_glassy.j0 k l true s0 s1 s2 s3 s4 pal tr has) false := Ev.step (f := fun _ => some false) (fun k => by simp only [samples_glassy.j0, if_true]) (Ev.now _)
  unfold samples_glassy.f gls
  rw [w1]
  cases has with
  | false => simpa using no
  | true =>
    simp only [if_true, true_and]
    by_cases h : tr.size = 2 * l.length
    · have e : ((tr.size : Int) != 2 * (l.length : Int)) = false := bne_eq_false_iff_eq.mpr (by omega)
      rw [if_pos h, e]
      refine Ev.step (fun k => ?_) (glassy_loop (s0 := s0) (s1 := s1) (s3 := s3) (s4 := s4) (pal := pal) (has := true) hk hl h l.length 0 (by omega))
      simp only [samples_glassy.j0, Bool.false_eq_true, if_false]
      rfl
    · have e : ((tr.size : Int) != 2 * (l.length : Int)) = true := bne_iff_ne.mpr (by omega)
      rw [if_neg h, e]
      exact no
def bad (d : Int) (l : List Int) : Bool := l.any (pbad d)
theorem bad_loop (d : Int) (l : List Int) (hl : l.length ≤ 17592186044416) : ∀ r i : Nat, i + r = l.length → ∃ t : Int, Ev (fun k => pbadIdx k d l (i : Int)) t ∧ decide (t ≥ 0) = (l.drop i).any (pbad d) := by
  intro r
  induction r with
  | zero =>
    intro i hi
    refine ⟨-1, Ev.step (f := fun _ => some (-1)) (fun k => ?_) (Ev.now _), ?_⟩
    · simp only [pbadIdx]
      rw [if_neg (by omega)]
    · rw [List.drop_of_length_le (by omega)]
      rfl
  | succ r ih =>
    intro i hi
    have hlt : (i : Int) < (l.length : Int) := by omega
    have h62 : i ≤ 4611686018427387904 := by omega
    have hi2 : i < l.length := by omega
    have hr : rd l (i : Int) = l[i] := by
      unfold rd
      rw [List.getD_eq_getElem?_getD, Int.toNat_natCast, List.getElem?_eq_getElem hi2]
      rfl
    rw [List.drop_eq_getElem_cons hi2, List.any_cons]
    by_cases h : pbad d (l[i]) = true
    · refine ⟨(i : Int), Ev.step (f := fun _ => some (i : Int)) (fun k => ?_) (Ev.now _), ?_⟩
      · simp only [pbadIdx]
        rw [if_pos hlt, if_pos (Int.natCast_nonneg _), hr, if_pos h]
      · rw [h, Bool.true_or]
        exact decide_eq_true (Int.natCast_nonneg _)
    · obtain ⟨t, ht, hd⟩ := ih (i + 1) (by omega)
      refine ⟨t, Ev.step (fun k => ?_) ht, ?_⟩
      · simp only [pbadIdx]
        rw [if_pos hlt, if_pos (Int.natCast_nonneg _), hr, if_neg h, w_succ h62]
      · rw [hd, Bool.eq_false_iff.mpr h, Bool.false_or]
theorem bad_ev {l : List Int} {s0 s1 s2 s3 s4 : Int} {pal tr : ByteArray} {has : Bool} (hk : kn s2 = true) (hl : l.length ≤ 17592186044416) : Ev (fun k => slices_ContainsFunc_int_int.f k l s0 s1 s2 s3 s4 pal tr has) (bad s2 l) := by
  unfold slices_ContainsFunc_int_int.f
  obtain ⟨t, ht, hd⟩ := bad_loop s2 l hl l.length 0 (by omega)
  have hc := kn_cases hk
  simp only [hc, if_true]
  refine Ev.bind ht ?_
  rw [hd]
  exact Ev.now _
def ww (l : List Int) (d : Int) (i : Int) : Int := wid (rd l i) d
def alphaOf (tr : ByteArray) (has : Bool) (d : Int) (l : List Int) : Int := if gls tr has d l = true then 0 else 65535
def pixGood (c d : Int) (pal tr : ByteArray) (has : Bool) (l : List Int) : ByteArray × Int :=
  if c = 3 then lst pal tr has (rd l 0) else if c = 0 then (px (ww l d 0) (ww l d 0) (ww l d 0) (alphaOf tr has d l), 0) else if c = 2 then (px (ww l d 0) (ww l d 1) (ww l d 2) (alphaOf tr has d l), 0)
  else if c = 4 then (px (ww l d 0) (ww l d 0) (ww l d 0) (ww l d 1), 0) else (px (ww l d 0) (ww l d 1) (ww l d 2) (ww l d 3), 0)
def okP (c d : Int) (l : List Int) : Prop := smp c = (l.length : Int) ∧ l.length ≠ 0 ∧ kn d = true ∧ bad d l = false
instance (c d : Int) (l : List Int) : Decidable (okP c d l) := by unfold okP; exact inferInstance
def pixAll (c d : Int) (pal tr : ByteArray) (has : Bool) (l : List Int) : ByteArray × Int := if okP c d l then pixGood c d pal tr has l else (⟨#[]⟩, 1)
theorem smp_cases (c : Int) : (c = 0 ∧ smp c = 1) ∨ (c = 3 ∧ smp c = 1) ∨ (c = 2 ∧ smp c = 3) ∨ (c = 4 ∧ smp c = 2) ∨ (c = 6 ∧ smp c = 4) ∨ smp c = 0 := by
  unfold smp
  by_cases h0 : c = 0
  · subst h0; exact .inl ⟨rfl, rfl⟩
  · by_cases h3 : c = 3
    · subst h3; exact .inr (.inl ⟨rfl, rfl⟩)
    · by_cases h2 : c = 2
      · subst h2; exact .inr (.inr (.inl ⟨rfl, rfl⟩))
      · by_cases h4 : c = 4
        · subst h4; exact .inr (.inr (.inr (.inl ⟨rfl, rfl⟩)))
        · by_cases h6 : c = 6
          · subst h6; exact .inr (.inr (.inr (.inr (.inl ⟨rfl, rfl⟩))))
          · rw [if_neg (by omega), if_neg h2, if_neg h4, if_neg h6]
            exact .inr (.inr (.inr (.inr (.inr rfl))))
theorem bad_first {d : Int} {l : List Int} (hl : l.length ≠ 0) (h : bad d l = false) : 0 ≤ rd l 0 ∧ rd l 0 < pw d := by
  cases l with
  | nil => exact absurd rfl hl
  | cons x xs =>
    unfold bad at h
    rw [List.any_cons, Bool.or_eq_false_iff] at h
    have h1 := h.1
    unfold pbad at h1
    rw [Bool.or_eq_false_iff, decide_eq_false_iff_not, decide_eq_false_iff_not] at h1
    have e : rd (x :: xs) 0 = x := rfl
    have e2 : pw d = 2 ^ d.toNat := rfl
    rw [e, e2]
    omega
def ws (l : List Int) (d : Int) (i : Nat) : List Int := (List.range i).map fun j : Nat => ww l d (j : Int)
theorem ws_succ (l : List Int) (d : Int) (i : Nat) : ws l d i ++ [wid (rd l (i : Int)) d] = ws l d (i + 1) := by
  unfold ws
  rw [List.range_succ, List.map_append]
  rfl
theorem Pixel_loop {l : List Int} {n s0 s1 s2 s3 s4 : Int} {pal tr : ByteArray} {has : Bool} {R : ByteArray × Int} (hl : l.length < 17592186044416) (hend : Ev (fun k => samples_Pixel.l0 k l n (ws l s2 l.length) l (l.length : Int) (l.length : Int) s0 s1 s2 s3 s4 pal tr has) R) :
    ∀ r i : Nat, i + r = l.length → Ev (fun k => samples_Pixel.l0 k l n (ws l s2 i) l (l.length : Int) (i : Int) s0 s1 s2 s3 s4 pal tr has) R := by
  intro r
  induction r with
  | zero =>
    intro i hi
    rw [show i = l.length by omega]
    exact hend
  | succ r ih =>
    intro i hi
    have hlt : (i : Int) < (l.length : Int) := by omega
    have h62 : i ≤ 4611686018427387904 := by omega
    have hlen : (ws l s2 i).length < 17592186044416 := by unfold ws; rw [List.length_map, List.length_range]; omega
    refine Ev.step (f := fun k => (samples_Wide.f k (rd l (i : Int)) s2).bind fun t158 => (samples_Pixel.l0 k l n (ws l s2 i ++ [t158]) l (l.length : Int) ((i + 1 : Nat) : Int) s0 s1 s2 s3 s4 pal tr has)) (fun k => ?_) ?_
    · simp only [samples_Pixel.l0]
      rw [if_pos hlt, if_pos (Int.natCast_nonneg _), if_pos hlt, w_succ h62]
      simp only [hlen, if_true]
    · refine Ev.bind (Wide_ev _ _) ?_
      rw [ws_succ]
      exact ih (i + 1) (by omega)
theorem Pixel_end {l : List Int} {s0 s1 s2 s3 s4 : Int} {pal tr : ByteArray} {has : Bool} (hl : l.length < 17592186044416) (hz : pal.size ≤ 140737488351232) (ho : okP s3 s2 l) :
    Ev (fun k => samples_Pixel.j0 k l (smp s3) false s0 s1 s2 s3 s4 pal tr has) (pixGood s3 s2 pal tr has l) := by
  obtain ⟨h1, h2, h3, h4⟩ := ho
  have hb := bad_first h2 h4
  have hlen0 : (0 : Int) < (l.length : Int) := by omega
  have hl' : l.length ≤ 17592186044416 := by omega
  have hlst : s3 = 3 → Ev (fun k => samples_Pixel.j0 k l (smp s3) false s0 s1 s2 s3 s4 pal tr has) (pixGood s3 s2 pal tr has l) := fun h => by
    unfold pixGood
    rw [if_pos h]
    refine Ev.step (f := fun k => (samples_listed.f k s0 s1 s2 s3 s4 pal tr has (rd l 0)).bind fun bt155 => (some (bt155.1, bt155.2))) (fun k => ?_) (Ev.bind (listed_ev hb.1 hz) (Ev.now _))
    simp only [samples_Pixel.j0, Bool.false_eq_true, if_false]
    rw [if_pos h, if_pos hlen0]
  have hloop : ∀ R, s3 ≠ 3 → Ev (fun k => samples_Pixel.l0 k l (smp s3) (ws l s2 l.length) l (l.length : Int) (l.length : Int) s0 s1 s2 s3 s4 pal tr has) R → Ev (fun k => samples_Pixel.j0 k l (smp s3) false s0 s1 s2 s3 s4 pal tr has) R := fun R hc he => by
    refine Ev.step (fun k => ?_) (Pixel_loop hl he l.length 0 (by omega))
    simp only [samples_Pixel.j0, Bool.false_eq_true, if_false]
    rw [if_neg hc]
    rfl
  have hgl : Ev (fun k => samples_glassy.f k s0 s1 s2 s3 s4 pal tr has l) (gls tr has s2 l) := glassy_ev h3 hl'
  have hge : Ev (fun k => samples_Pixel.l0 k l (smp s3) (ws l s2 l.length) l (l.length : Int) (l.length : Int) s0 s1 s2 s3 s4 pal tr has) (pixGood s3 s2 pal tr has l) → s3 ≠ 3 → Ev (fun k => samples_Pixel.j0 k l (smp s3) false s0 s1 s2 s3 s4 pal tr has) (pixGood s3 s2 pal tr has l) := fun he hc => hloop _ hc he
  rcases smp_cases s3 with ⟨hc, hs⟩ | ⟨hc, hs⟩ | ⟨hc, hs⟩ | ⟨hc, hs⟩ | ⟨hc, hs⟩ | hs
  · refine hge ?_ (by omega)
    have hL : l.length = 1 := by omega
    have hw : ws l s2 1 = [ww l s2 0] := rfl
    unfold pixGood
    rw [if_neg (by omega), if_pos hc, hs, hL, hw]
    refine Ev.step (f := fun k => (samples_glassy.f k s0 s1 s2 s3 s4 pal tr has l).bind fun t163 => (if t163 = true then (samples_Pixel.j2 k 1 [ww l s2 0] 0) else (samples_Pixel.j2 k 1 [ww l s2 0] 65535))) (fun k => ?_) ?_
    · simp only [samples_Pixel.l0]
      rw [if_neg (by decide), if_neg (by decide)]
    · refine Ev.bind hgl ?_
      have hj : ∀ a : Int, Ev (fun k => samples_Pixel.j2 k 1 [ww l s2 0] a) (px (ww l s2 0) (ww l s2 0) (ww l s2 0) a, 0) := fun a => by
        refine Ev.step (f := fun k => (samples_pairs.f k [ww l s2 0, ww l s2 0, ww l s2 0, a]).bind fun t170 => some (t170, 0)) (fun k => ?_) (Ev.bind (pairs_ev _ _ _ _) (Ev.now _))
        simp only [samples_Pixel.j2]
        rw [if_pos (by first | decide | simp), if_pos (by first | decide | simp)]
        rfl
      unfold alphaOf
      cases gls tr has s2 l
      · exact hj 65535
      · exact hj 0
  · exact hlst hc
  · refine hge ?_ (by omega)
    have hL : l.length = 3 := by omega
    have hw : ws l s2 3 = [ww l s2 0, ww l s2 1, ww l s2 2] := rfl
    unfold pixGood
    rw [if_neg (by omega), if_neg (by omega), if_pos hc, hs, hL, hw]
    refine Ev.step (f := fun k => (samples_glassy.f k s0 s1 s2 s3 s4 pal tr has l).bind fun t163 => (if t163 = true then (samples_Pixel.j2 k 3 [ww l s2 0, ww l s2 1, ww l s2 2] 0) else (samples_Pixel.j2 k 3 [ww l s2 0, ww l s2 1, ww l s2 2] 65535))) (fun k => ?_) ?_
    · simp only [samples_Pixel.l0]
      rw [if_neg (by decide), if_neg (by decide)]
    · refine Ev.bind hgl ?_
      have hj : ∀ a : Int, Ev (fun k => samples_Pixel.j2 k 3 [ww l s2 0, ww l s2 1, ww l s2 2] a) (px (ww l s2 0) (ww l s2 1) (ww l s2 2) a, 0) := fun a => by
        refine Ev.step (f := fun k => (samples_pairs.f k [ww l s2 0, ww l s2 1, ww l s2 2, a]).bind fun t170 => some (t170, 0)) (fun k => ?_) (Ev.bind (pairs_ev _ _ _ _) (Ev.now _))
        simp only [samples_Pixel.j2]
        rw [if_neg (by decide), if_pos (by first | decide | simp), if_pos (by first | decide | simp), if_pos (by first | decide | simp)]
        rfl
      unfold alphaOf
      cases gls tr has s2 l
      · exact hj 65535
      · exact hj 0
  · refine hge ?_ (by omega)
    have hL : l.length = 2 := by omega
    have hw : ws l s2 2 = [ww l s2 0, ww l s2 1] := rfl
    unfold pixGood
    rw [if_neg (by omega), if_neg (by omega), if_neg (by omega), if_pos hc, hs, hL, hw]
    refine Ev.step (f := fun k => samples_Pixel.j2 k 2 [ww l s2 0, ww l s2 1] (ww l s2 1)) (fun k => ?_) ?_
    · simp only [samples_Pixel.l0]
      rw [if_neg (by decide), if_pos (by first | decide | simp), show wrap64 (2 - 1) = 1 from by decide +kernel, if_pos (by first | decide | simp), if_pos (by first | decide | simp)]
      rfl
    · refine Ev.step (f := fun k => (samples_pairs.f k [ww l s2 0, ww l s2 0, ww l s2 0, ww l s2 1]).bind fun t170 => some (t170, 0)) (fun k => ?_) (Ev.bind (pairs_ev _ _ _ _) (Ev.now _))
      simp only [samples_Pixel.j2]
      rw [if_pos (by first | decide | simp), if_pos (by first | decide | simp)]
      rfl
  · refine hge ?_ (by omega)
    have hL : l.length = 4 := by omega
    have hw : ws l s2 4 = [ww l s2 0, ww l s2 1, ww l s2 2, ww l s2 3] := rfl
    unfold pixGood
    rw [if_neg (by omega), if_neg (by omega), if_neg (by omega), if_neg (by omega), hs, hL, hw]
    refine Ev.step (f := fun k => samples_Pixel.j2 k 4 [ww l s2 0, ww l s2 1, ww l s2 2, ww l s2 3] (ww l s2 3)) (fun k => ?_) ?_
    · simp only [samples_Pixel.l0]
      rw [if_neg (by decide), if_pos (by first | decide | simp), show wrap64 (4 - 1) = 3 from by decide +kernel, if_pos (by first | decide | simp), if_pos (by first | decide | simp)]
      rfl
    · refine Ev.step (f := fun k => (samples_pairs.f k [ww l s2 0, ww l s2 1, ww l s2 2, ww l s2 3]).bind fun t170 => some (t170, 0)) (fun k => ?_) (Ev.bind (pairs_ev _ _ _ _) (Ev.now _))
      simp only [samples_Pixel.j2]
      rw [if_neg (by decide), if_pos (by first | decide | simp), if_pos (by first | decide | simp), if_pos (by first | decide | simp)]
      rfl
  · omega
theorem Pixel_ev {l : List Int} {s0 s1 s2 s3 s4 : Int} {pal tr : ByteArray} {has : Bool} (hl : l.length < 17592186044416) (hz : pal.size ≤ 140737488351232) :
    Ev (fun k => samples_Pixel.f k s0 s1 s2 s3 s4 pal tr has l) (pixAll s3 s2 pal tr has l) := by
  have hbad : ∀ n : Int, ¬ okP s3 s2 l → Ev (fun k => samples_Pixel.j0 k l n true s0 s1 s2 s3 s4 pal tr has) (pixAll s3 s2 pal tr has l) := fun n hn => by
    unfold pixAll
    rw [if_neg hn]
    exact Ev.step (f := fun _ => some (⟨#[]⟩, 1)) (fun k => by simp only [samples_Pixel.j0, if_true]) (Ev.now _)
  have hl' : l.length ≤ 17592186044416 := by omega
  unfold samples_Pixel.f
  refine Ev.bind (Samples_ev s3) ?_
  by_cases h0 : smp s3 = 0
  · simp only [h0, if_true]
    exact hbad 0 (fun h => h.2.1 (by have := h.1; omega))
  · simp only [h0, if_false]
    by_cases h1 : (l.length : Int) = smp s3
    · simp only [h1, if_true]
      refine Ev.bind (known_ev s2) ?_
      by_cases hk : kn s2 = true
      · simp only [hk, if_true]
        refine Ev.bind (bad_ev hk hl') ?_
        cases hb : bad s2 l with
        | true => exact hbad _ (fun h => by have := h.2.2.2; rw [hb] at this; cases this)
        | false =>
          have ho : okP s3 s2 l := ⟨h1.symm, by omega, hk, hb⟩
          unfold pixAll
          rw [if_pos ho]
          exact Pixel_end hl hz ho
      · have hk' : kn s2 = false := by cases e : kn s2 <;> simp_all
        simp only [hk', Bool.false_eq_true, if_false]
        exact hbad _ (fun h => hk h.2.2.1)
    · simp only [h1, if_false]
      exact hbad _ (fun h => h1 h.1.symm)
def W2 (n : Int) : ByteArray := strOfNums [n / 256 % 256, n % 256]
theorem two_f {n : Int} (h : 0 ≤ n ∧ n ≤ 65535) : vitrineref11_two.f n = some (W2 n) := by
  unfold vitrineref11_two.f W2
  rw [Int.tdiv_eq_ediv_of_nonneg h.1, w64 (by omega) (by omega)]
theorem strOf_app (xs ys : List Int) : strOfNums xs ++ strOfNums ys = strOfNums (xs ++ ys) := by
  apply ByteArray.ext
  simp [strOfNums, ByteArray.data_append]
theorem W2_px (a b c d : Int) : ((W2 a ++ W2 b) ++ W2 c) ++ W2 d = px a b c d := by
  unfold W2 px
  rw [strOf_app, strOf_app, strOf_app]
  rfl
theorem W2_size (n : Int) : (W2 n).size = 2 := by unfold W2; rw [strOfNums_size]; rfl
theorem W2_size2 (a b : Int) : (W2 a ++ W2 b).size = 4 := by rw [ByteArray.size_append, W2_size, W2_size]
theorem W2_size3 (a b c : Int) : ((W2 a ++ W2 b) ++ W2 c).size = 6 := by rw [ByteArray.size_append, W2_size2, W2_size]
theorem s_e (x y : ByteArray) (i j : Int) {d : Int} (hk : kn d = true) : Int.tmod (wrap64 ((wrap64 (256 * (wrap64 (bt x i)))) + (wrap64 (bt y j)))) (shl .i64 1 d) = (256 * bt x i + bt y j) % pw d := by
  obtain ⟨_, h2, h3, h4⟩ := tab hk
  have b1 := bt_range x i
  have b2 := bt_range y j
  rw [w64_bt, w64_bt, w64 (x := 256 * bt x i) (by omega) (by omega), w64 (by omega) (by omega), h3, Int.tmod_eq_emod_of_nonneg (by omega)]
theorem same_loop {l : List Int} {s0 s1 s2 s3 s4 : Int} {pal tr : ByteArray} {has : Bool} (hk : kn s2 = true) (hl : l.length ≤ 17592186044416) (ht : tr.size = 2 * l.length) : ∀ r i : Nat, i + r = l.length → Ev (fun k => vitrineref11_same.l0 k l (i : Int) s0 s1 s2 s3 s4 pal tr has) (gl tr s2 (l.drop i) i) := by
  obtain ⟨hd, hp, hsh, _⟩ := tab hk
  have hd0 : 0 ≤ s2 := by omega
  have hne : ¬ shl .i64 1 s2 = 0 := by rw [hsh]; omega
  clear hd hp hsh
  intro r
  induction r with
  | zero =>
    intro i hi
    rw [List.drop_of_length_le (by omega)]
    refine Ev.step (f := fun _ => some true) (fun k => ?_) (Ev.now _)
    simp only [vitrineref11_same.l0]
    rw [if_neg (by omega)]
  | succ r ih =>
    intro i hi
    have hlt : (i : Int) < (l.length : Int) := by omega
    have h62 : i ≤ 4611686018427387904 := by omega
    have h1 : i ≤ 17592186044416 := by omega
    have h2 : 2 * i ≤ 4611686018427387904 := by omega
    have c1 : ((2 * i : Nat) : Int) < (tr.size : Int) := by omega
    have c2 : ((2 * i + 1 : Nat) : Int) < (tr.size : Int) := by omega
    rw [gl_drop (by omega)]
    by_cases h : (256 * bt tr ((2 * i : Nat) : Int) + bt tr ((2 * i + 1 : Nat) : Int)) % pw s2 = rd l (i : Int)
    · rw [if_pos h]
      refine Ev.step (fun k => ?_) (ih (i + 1) (by omega))
      simp only [vitrineref11_same.l0]
      rw [if_pos hlt, g_w1 h1, if_pos (Int.natCast_nonneg _), if_pos c1, w_succ h2, if_pos (Int.natCast_nonneg _), if_pos c2, if_pos hd0, if_neg hne, if_pos (Int.natCast_nonneg _), s_e _ _ _ _ hk, if_pos h, w_succ h62]
    · rw [if_neg h]
      refine Ev.step (f := fun _ => some false) (fun k => ?_) (Ev.now _)
      simp only [vitrineref11_same.l0]
      rw [if_pos hlt, g_w1 h1, if_pos (Int.natCast_nonneg _), if_pos c1, w_succ h2, if_pos (Int.natCast_nonneg _), if_pos c2, if_pos hd0, if_neg hne, if_pos (Int.natCast_nonneg _), s_e _ _ _ _ hk, if_neg h]
theorem same_ev {l : List Int} {s0 s1 s2 s3 s4 : Int} {pal tr : ByteArray} {has : Bool} (hk : kn s2 = true) (hl : l.length ≤ 17592186044416) : Ev (fun k => vitrineref11_same.f k s0 s1 s2 s3 s4 pal tr has l) (gls tr has s2 l) := by
  have w1 : wrap64 (2 * (l.length : Int)) = 2 * (l.length : Int) := w64 (by omega) (by omega)
  have no : Ev (fun k => vitrineref11_same.j0 k l true s0 s1 s2 s3 s4 pal tr has) false := Ev.step (f := fun _ => some false) (fun k => by simp only [vitrineref11_same.j0, if_true]) (Ev.now _)
  unfold vitrineref11_same.f gls
  rw [w1]
  cases has with
  | false => simpa using no
  | true =>
    simp only [if_true, true_and]
    by_cases h : tr.size = 2 * l.length
    · have e : ((tr.size : Int) != 2 * (l.length : Int)) = false := bne_eq_false_iff_eq.mpr (by omega)
      rw [if_pos h, e]
      refine Ev.step (fun k => ?_) (same_loop (s0 := s0) (s1 := s1) (s3 := s3) (s4 := s4) (pal := pal) (has := true) hk hl h l.length 0 (by omega))
      simp only [vitrineref11_same.j0, Bool.false_eq_true, if_false]
      rfl
    · have e : ((tr.size : Int) != 2 * (l.length : Int)) = true := bne_iff_ne.mpr (by omega)
      rw [if_neg h, e]
      exact no
def os (l : List Int) (d : Int) (i : Nat) : List ByteArray := (List.range i).map fun j : Nat => W2 (ww l d (j : Int))
theorem os_succ (l : List Int) (d : Int) (i : Nat) : os l d i ++ [W2 (wid (rd l (i : Int)) d)] = os l d (i + 1) := by
  unfold os
  rw [List.range_succ, List.map_append]
  rfl
theorem rP_loop11 {l : List Int} {s0 s1 s2 s3 s4 : Int} {pal tr : ByteArray} {has : Bool} {R : ByteArray × Int} (hl : l.length < 8796093022208) (hk : kn s2 = true) (hend : bad s2 l = false → Ev (fun k => vitrineref11_Pixel.l0 k l (os l s2 l.length) (l.length : Int) s0 s1 s2 s3 s4 pal tr has) R) :
    ∀ r i : Nat, i + r = l.length → ((l.take i).any (pbad s2) = false) → Ev (fun k => vitrineref11_Pixel.l0 k l (os l s2 i) (i : Int) s0 s1 s2 s3 s4 pal tr has) (if bad s2 l = false then R else (⟨#[]⟩, 1)) := by
  obtain ⟨hd, hp, hsh, _⟩ := tab hk
  have hd0 : 0 ≤ s2 := by omega
  have epw : pw s2 = 2 ^ s2.toNat := rfl
  clear hd hp
  intro r
  induction r with
  | zero =>
    intro i hi ht
    rw [List.take_of_length_le (by omega)] at ht
    have hb : bad s2 l = false := ht
    rw [if_pos hb, show i = l.length by omega]
    exact hend hb
  | succ r ih =>
    intro i hi ht
    have hlt : (i : Int) < (l.length : Int) := by omega
    have h62 : i ≤ 4611686018427387904 := by omega
    have hi2 : i < l.length := by omega
    have hr : rd l (i : Int) = l[i] := by
      unfold rd
      rw [List.getD_eq_getElem?_getD, Int.toNat_natCast, List.getElem?_eq_getElem hi2]
      rfl
    have ht1 : (l.take (i + 1)).any (pbad s2) = pbad s2 (rd l (i : Int)) := by
      rw [List.take_succ_eq_append_getElem hi2, List.any_append, ht, Bool.false_or, hr]
      simp
    have hlen : (os l s2 i).length < 8796093022208 := by unfold os; rw [List.length_map, List.length_range]; omega
    have hbadstep : pbad s2 (rd l (i : Int)) = true → Ev (fun k => vitrineref11_Pixel.j2 k l (os l s2 i) (i : Int) true s0 s1 s2 s3 s4 pal tr has) (if bad s2 l = false then R else (⟨#[]⟩, 1)) := fun hb => by
      have hb2 : ¬ bad s2 l = false := by
        unfold bad
        rw [← List.take_append_drop (i + 1) l, List.any_append, ht1, hb, Bool.true_or]
        decide
      rw [if_neg hb2]
      exact Ev.step (f := fun _ => some (⟨#[]⟩, 1)) (fun k => by simp only [vitrineref11_Pixel.j2, if_true]) (Ev.now _)
    by_cases h0 : rd l (i : Int) < 0
    · refine Ev.step (fun k => ?_) (hbadstep (by unfold pbad; rw [decide_eq_true h0, Bool.true_or]))
      simp only [vitrineref11_Pixel.l0]
      rw [if_pos hlt, if_pos (Int.natCast_nonneg _), if_pos h0]
    · refine Ev.step (f := fun k => vitrineref11_Pixel.j2 k l (os l s2 i) (i : Int) (decide (rd l (i : Int) ≥ pw s2)) s0 s1 s2 s3 s4 pal tr has) (fun k => ?_) ?_
      · simp only [vitrineref11_Pixel.l0]
        rw [if_pos hlt, if_pos (Int.natCast_nonneg _), if_neg h0, if_pos hd0, hsh]
      · by_cases h1 : rd l (i : Int) ≥ pw s2
        · rw [decide_eq_true h1]
          exact hbadstep (by unfold pbad; rw [decide_eq_true (show rd l (i : Int) ≥ 2 ^ s2.toNat from h1), Bool.or_true])
        · rw [decide_eq_false h1]
          have hgood : pbad s2 (rd l (i : Int)) = false := by unfold pbad; rw [decide_eq_false h0, decide_eq_false (show ¬ rd l (i : Int) ≥ 2 ^ s2.toNat from h1)]; rfl
          refine Ev.step (fun k => ?_) (ih (i + 1) (by omega) (by rw [ht1, hgood]))
          simp only [vitrineref11_Pixel.j2, Bool.false_eq_true, if_false]
          rw [if_pos (Int.natCast_nonneg _), if_pos hlt, rWide_f]
          simp only [Option.bind_some]
          rw [two_f (wid_range _ _)]
          simp only [Option.bind_some]
          rw [if_pos hlen, os_succ, w_succ h62]
theorem rd4 (x y z u : ByteArray) : rdOf ByteArray.empty [x, y, z, u] 0 = x ∧ rdOf ByteArray.empty [x, y, z, u] 1 = y ∧ rdOf ByteArray.empty [x, y, z, u] 2 = z ∧ rdOf ByteArray.empty [x, y, z, u] 3 = u := ⟨rfl, rfl, rfl, rfl⟩
theorem rd3 (x y z : ByteArray) : rdOf ByteArray.empty [x, y, z] 0 = x ∧ rdOf ByteArray.empty [x, y, z] 1 = y ∧ rdOf ByteArray.empty [x, y, z] 2 = z := ⟨rfl, rfl, rfl⟩
theorem rd2 (x y : ByteArray) : rdOf ByteArray.empty [x, y] 0 = x ∧ rdOf ByteArray.empty [x, y] 1 = y := ⟨rfl, rfl⟩
theorem rd1 (x : ByteArray) : rdOf ByteArray.empty [x] 0 = x := rfl
theorem lim {a b : Nat} (h : a + b ≤ 100) : a + b ≤ 9223372036854775807 := by omega
theorem pal_go {a al s0 s1 s2 s3 s4 : Int} {pal tr : ByteArray} {has : Bool} (ha : 0 ≤ a) (h : 3 * a + 3 ≤ (pal.size : Int)) (hz : pal.size ≤ 140737488351232) : Ev (fun k => vitrineref11_Pixel.j6 k (W2 al) a s0 s1 s2 s3 s4 pal tr has) (px (257 * bt pal (3 * a)) (257 * bt pal (3 * a + 1)) (257 * bt pal (3 * a + 2)) al, 0) := by
  have w1 : wrap64 (3 * a) = 3 * a := w64 (by omega) (by omega)
  have w2 : wrap64 (3 * a + 1) = 3 * a + 1 := w64 (by omega) (by omega)
  have w3 : wrap64 (3 * a + 2) = 3 * a + 2 := w64 (by omega) (by omega)
  have t : ∀ i : Int, vitrineref11_two.f (wrap64 (257 * (wrap64 (bt pal i)))) = some (W2 (257 * bt pal i)) := fun i => by
    have := bt_range pal i
    rw [w64_bt, w64 (by omega) (by omega), two_f (by omega)]
  have c0 : 0 ≤ 3 * a := by omega
  have c1 : 3 * a < (pal.size : Int) := by omega
  have c2 : 0 ≤ 3 * a + 1 := by omega
  have c3 : 3 * a + 1 < (pal.size : Int) := by omega
  have c4 : 0 ≤ 3 * a + 2 := by omega
  have c5 : 3 * a + 2 < (pal.size : Int) := by omega
  refine Ev.step (f := fun _ => some (px (257 * bt pal (3 * a)) (257 * bt pal (3 * a + 1)) (257 * bt pal (3 * a + 2)) al, 0)) (fun k => ?_) (Ev.now _)
  simp only [vitrineref11_Pixel.j6]
  rw [w1, w2, w3, if_pos c0, if_pos c1, t]
  simp only [Option.bind_some]
  rw [if_pos c2, if_pos c3, t]
  simp only [Option.bind_some]
  rw [if_pos (lim (by rw [W2_size, W2_size]; decide)), if_pos c4, if_pos c5, t]
  simp only [Option.bind_some]
  rw [if_pos (lim (by rw [W2_size2, W2_size]; decide)), if_pos (lim (by rw [W2_size3, W2_size]; decide)), W2_px]
theorem pal_ev {l : List Int} {outs : List ByteArray} {s0 s1 s2 s4 : Int} {pal tr : ByteArray} {has : Bool} (hl0 : (0 : Int) < (l.length : Int)) (ha : 0 ≤ rd l 0 ∧ rd l 0 < 65536) (hz : pal.size ≤ 140737488351232) : Ev (fun k => vitrineref11_Pixel.j4 k l outs (W2 65535) s0 s1 s2 3 s4 pal tr has) (lst pal tr has (rd l 0)) := by
  have w1 : wrap64 (wrap64 (3 * rd l 0) + 3) = 3 * rd l 0 + 3 := by rw [w64 (x := 3 * rd l 0) (by omega) (by omega), w64 (by omega) (by omega)]
  unfold lst
  by_cases h : 3 * rd l 0 + 3 > (pal.size : Int)
  · rw [if_pos h]
    refine Ev.step (f := fun _ => some (⟨#[]⟩, 29)) (fun k => ?_) (Ev.now _)
    simp only [vitrineref11_Pixel.j4]
    rw [if_neg (by decide), if_neg (by decide), if_neg (by decide), if_neg (by decide), if_pos hl0, w1, if_pos h]
  · rw [if_neg h]
    have h3 : 3 * rd l 0 + 3 ≤ (pal.size : Int) := by omega
    have no : Ev (fun k => vitrineref11_Pixel.j5 k (W2 65535) (rd l 0) false s0 s1 s2 3 s4 pal tr has) (px (257 * bt pal (3 * rd l 0)) (257 * bt pal (3 * rd l 0 + 1)) (257 * bt pal (3 * rd l 0 + 2)) 65535, 0) := by
      refine Ev.step (fun k => ?_) (pal_go (s0 := s0) (s1 := s1) (s2 := s2) (s3 := 3) (s4 := s4) (tr := tr) (has := has) ha.1 h3 hz)
      simp only [vitrineref11_Pixel.j5, Bool.false_eq_true, if_false]
    have j4 : ∀ k, vitrineref11_Pixel.j4 (k + 1) l outs (W2 65535) s0 s1 s2 3 s4 pal tr has = if has = true then vitrineref11_Pixel.j5 k (W2 65535) (rd l 0) (decide (rd l 0 < (tr.size : Int))) s0 s1 s2 3 s4 pal tr has else vitrineref11_Pixel.j5 k (W2 65535) (rd l 0) false s0 s1 s2 3 s4 pal tr has := fun k => by
      simp only [vitrineref11_Pixel.j4]
      rw [if_neg (by decide), if_neg (by decide), if_neg (by decide), if_neg (by decide), if_pos hl0, w1, if_neg h]
    cases has with
    | false =>
      refine Ev.step (fun k => (j4 k).trans (if_neg (by decide))) ?_
      simpa using no
    | true =>
      refine Ev.step (fun k => (j4 k).trans (if_pos rfl)) ?_
      by_cases ht : rd l 0 < (tr.size : Int)
      · rw [decide_eq_true ht, if_pos ⟨rfl, ht⟩]
        have hb := bt_range tr (rd l 0)
        have e : vitrineref11_two.f (wrap64 (257 * (wrap64 (bt tr (rd l 0))))) = some (W2 (257 * bt tr (rd l 0))) := by rw [w64_bt, w64 (by omega) (by omega), two_f (by omega)]
        refine Ev.step (fun k => ?_) (pal_go (al := 257 * bt tr (rd l 0)) (s0 := s0) (s1 := s1) (s2 := s2) (s3 := 3) (s4 := s4) (tr := tr) (has := true) ha.1 h3 hz)
        simp only [vitrineref11_Pixel.j5, if_true]
        rw [if_pos ha.1, if_pos ht, e]
        rfl
      · rw [decide_eq_false ht, if_neg (fun h => ht h.2)]
        exact no
theorem rP_end {l : List Int} {s0 s1 s2 s3 s4 : Int} {pal tr : ByteArray} {has : Bool} (hl : l.length < 8796093022208) (hz : pal.size ≤ 140737488351232) (ho : okP s3 s2 l) :
    Ev (fun k => vitrineref11_Pixel.l0 k l (os l s2 l.length) (l.length : Int) s0 s1 s2 s3 s4 pal tr has) (pixGood s3 s2 pal tr has l) := by
  obtain ⟨h1, h2, h3, h4⟩ := ho
  have hb := bad_first h2 h4
  have hpw := (tab h3).2.1
  have hlen0 : (0 : Int) < (l.length : Int) := by omega
  have hl' : l.length ≤ 17592186044416 := by omega
  have hsame : Ev (fun k => vitrineref11_same.f k s0 s1 s2 s3 s4 pal tr has l) (gls tr has s2 l) := same_ev h3 hl'
  have t1 := two_f (n := 65535) (by decide)
  have t0 := two_f (n := 0) (by decide)
  have hneg : ¬ (l.length : Int) < (l.length : Int) := by omega
  have j3 : ∀ (b : Bool) (R : ByteArray × Int), Ev (fun k => vitrineref11_Pixel.j4 k l (os l s2 l.length) (W2 (if b = true then 0 else 65535)) s0 s1 s2 s3 s4 pal tr has) R → Ev (fun k => vitrineref11_Pixel.j3 k l (os l s2 l.length) (W2 65535) b s0 s1 s2 s3 s4 pal tr has) R := fun b R h => by
    refine Ev.step (fun k => ?_) h
    simp only [vitrineref11_Pixel.j3]
    cases b
    · rfl
    · rw [if_pos rfl, t0]
      rfl
  have hyes : (s3 = 0 ∨ s3 = 2) → ∀ R, Ev (fun k => vitrineref11_Pixel.j4 k l (os l s2 l.length) (W2 (alphaOf tr has s2 l)) s0 s1 s2 s3 s4 pal tr has) R → Ev (fun k => vitrineref11_Pixel.l0 k l (os l s2 l.length) (l.length : Int) s0 s1 s2 s3 s4 pal tr has) R := fun hc R h => by
    refine Ev.step (f := fun k => (vitrineref11_same.f k s0 s1 s2 s3 s4 pal tr has l).bind fun t250 => vitrineref11_Pixel.j3 k l (os l s2 l.length) (W2 65535) t250 s0 s1 s2 s3 s4 pal tr has) (fun k => ?_) (Ev.bind hsame (j3 _ R h))
    simp only [vitrineref11_Pixel.l0]
    rw [if_neg hneg, t1]
    simp only [Option.bind_some]
    rcases hc with hc | hc
    · rw [if_pos hc]
    · rw [if_neg (by omega), if_pos hc]
  have hno : s3 ≠ 0 → s3 ≠ 2 → ∀ R, Ev (fun k => vitrineref11_Pixel.j4 k l (os l s2 l.length) (W2 65535) s0 s1 s2 s3 s4 pal tr has) R → Ev (fun k => vitrineref11_Pixel.l0 k l (os l s2 l.length) (l.length : Int) s0 s1 s2 s3 s4 pal tr has) R := fun hc0 hc2 R h => by
    refine Ev.step (fun k => ?_) (j3 false R h)
    simp only [vitrineref11_Pixel.l0]
    rw [if_neg hneg, t1]
    simp only [Option.bind_some]
    rw [if_neg hc0, if_neg hc2]
  have l2 : ∀ a b : Int, (W2 a).size + (W2 b).size ≤ 9223372036854775807 := fun a b => lim (by rw [W2_size, W2_size]; decide)
  have l4 : ∀ a b c : Int, (W2 a ++ W2 b).size + (W2 c).size ≤ 9223372036854775807 := fun a b c => lim (by rw [W2_size2, W2_size]; decide)
  have l6 : ∀ a b c d : Int, ((W2 a ++ W2 b) ++ W2 c).size + (W2 d).size ≤ 9223372036854775807 := fun a b c d => lim (by rw [W2_size3, W2_size]; decide)
  rcases smp_cases s3 with ⟨hc, hs⟩ | ⟨hc, hs⟩ | ⟨hc, hs⟩ | ⟨hc, hs⟩ | ⟨hc, hs⟩ | hs
  · refine hyes (.inl hc) _ ?_
    have hL : l.length = 1 := by omega
    have hw : os l s2 1 = [W2 (ww l s2 0)] := rfl
    unfold pixGood
    rw [if_neg (by omega), if_pos hc, hL, hw]
    refine Ev.step (f := fun _ => some (px (ww l s2 0) (ww l s2 0) (ww l s2 0) (alphaOf tr has s2 l), 0)) (fun k => ?_) (Ev.now _)
    simp only [vitrineref11_Pixel.j4]
    rw [rd1, if_pos hc, if_pos (by first | decide | simp), if_pos (l2 _ _), if_pos (l4 _ _ _), if_pos (l6 _ _ _ _), W2_px]
  · refine hno (by omega) (by omega) _ ?_
    unfold pixGood
    rw [if_pos hc]
    subst hc
    exact pal_ev hlen0 ⟨hb.1, by omega⟩ hz
  · refine hyes (.inr hc) _ ?_
    have hL : l.length = 3 := by omega
    have hw : os l s2 3 = [W2 (ww l s2 0), W2 (ww l s2 1), W2 (ww l s2 2)] := rfl
    obtain ⟨r0, r1, r2⟩ := rd3 (W2 (ww l s2 0)) (W2 (ww l s2 1)) (W2 (ww l s2 2))
    unfold pixGood
    rw [if_neg (by omega), if_neg (by omega), if_pos hc, hL, hw]
    refine Ev.step (f := fun _ => some (px (ww l s2 0) (ww l s2 1) (ww l s2 2) (alphaOf tr has s2 l), 0)) (fun k => ?_) (Ev.now _)
    simp only [vitrineref11_Pixel.j4]
    rw [r0, r1, r2, if_neg (by omega), if_pos hc, if_pos (by first | decide | simp), if_pos (by first | decide | simp), if_pos (l2 _ _), if_pos (by first | decide | simp), if_pos (l4 _ _ _), if_pos (l6 _ _ _ _), W2_px]
  · refine hno (by omega) (by omega) _ ?_
    have hL : l.length = 2 := by omega
    have hw : os l s2 2 = [W2 (ww l s2 0), W2 (ww l s2 1)] := rfl
    obtain ⟨r0, r1⟩ := rd2 (W2 (ww l s2 0)) (W2 (ww l s2 1))
    unfold pixGood
    rw [if_neg (by omega), if_neg (by omega), if_neg (by omega), if_pos hc, hL, hw]
    refine Ev.step (f := fun _ => some (px (ww l s2 0) (ww l s2 0) (ww l s2 0) (ww l s2 1), 0)) (fun k => ?_) (Ev.now _)
    simp only [vitrineref11_Pixel.j4]
    rw [r0, r1, if_neg (by omega), if_neg (by omega), if_pos hc, if_pos (by first | decide | simp), if_pos (l2 _ _), if_pos (l4 _ _ _), if_pos (by first | decide | simp), if_pos (l6 _ _ _ _), W2_px]
  · refine hno (by omega) (by omega) _ ?_
    have hL : l.length = 4 := by omega
    have hw : os l s2 4 = [W2 (ww l s2 0), W2 (ww l s2 1), W2 (ww l s2 2), W2 (ww l s2 3)] := rfl
    obtain ⟨r0, r1, r2, r3⟩ := rd4 (W2 (ww l s2 0)) (W2 (ww l s2 1)) (W2 (ww l s2 2)) (W2 (ww l s2 3))
    unfold pixGood
    rw [if_neg (by omega), if_neg (by omega), if_neg (by omega), if_neg (by omega), hL, hw]
    refine Ev.step (f := fun _ => some (px (ww l s2 0) (ww l s2 1) (ww l s2 2) (ww l s2 3), 0)) (fun k => ?_) (Ev.now _)
    simp only [vitrineref11_Pixel.j4]
    rw [r0, r1, r2, r3, if_neg (by omega), if_neg (by omega), if_neg (by omega), if_pos hc, if_pos (by first | decide | simp), if_pos (by first | decide | simp), if_pos (l2 _ _), if_pos (by first | decide | simp), if_pos (l4 _ _ _), if_pos (by first | decide | simp), if_pos (l6 _ _ _ _), W2_px]
  · omega
theorem rPixel_ev {l : List Int} {s0 s1 s2 s3 s4 : Int} {pal tr : ByteArray} {has : Bool} (hl : l.length < 8796093022208) (hz : pal.size ≤ 140737488351232) :
    Ev (fun k => vitrineref11_Pixel.f k s0 s1 s2 s3 s4 pal tr has l) (pixAll s3 s2 pal tr has l) := by
  have hbad : ¬ okP s3 s2 l → Ev (fun k => vitrineref11_Pixel.j0 k l true s0 s1 s2 s3 s4 pal tr has) (pixAll s3 s2 pal tr has l) := fun hn => by
    unfold pixAll
    rw [if_neg hn]
    exact Ev.step (f := fun _ => some (⟨#[]⟩, 1)) (fun k => by simp only [vitrineref11_Pixel.j0, if_true]) (Ev.now _)
  unfold vitrineref11_Pixel.f
  refine Ev.bind (rSamples_ev s3) ?_
  by_cases h1 : (l.length : Int) = smp s3
  · simp only [h1, if_true]
    by_cases h0 : smp s3 = 0
    · simp only [h0, if_true]
      exact hbad (fun h => h.2.1 (by omega))
    · simp only [h0, if_false, Depth_f, Option.bind_some]
      by_cases hk : kn s2 = true
      · simp only [hk, Bool.not_true]
        have hloop := rP_loop11 (s0 := s0) (s1 := s1) (s3 := s3) (s4 := s4) (pal := pal) (tr := tr) (has := has) (R := pixGood s3 s2 pal tr has l) hl hk (fun hb => rP_end hl hz ⟨h1.symm, by omega, hk, hb⟩) l.length 0 (by omega) rfl
        have e : (if bad s2 l = false then pixGood s3 s2 pal tr has l else (⟨#[]⟩, 1)) = pixAll s3 s2 pal tr has l := by
          unfold pixAll
          by_cases hb : bad s2 l = false
          · rw [if_pos hb, if_pos ⟨h1.symm, by omega, hk, hb⟩]
          · rw [if_neg hb, if_neg (fun h => hb h.2.2.2)]
        rw [e] at hloop
        refine Ev.step (fun k => ?_) hloop
        simp only [vitrineref11_Pixel.j0, Bool.false_eq_true, if_false]
        rfl
      · have hk' : kn s2 = false := by cases e : kn s2 <;> simp_all
        simp only [hk', Bool.not_false]
        exact hbad (fun h => hk h.2.2.1)
  · simp only [h1, if_false]
    exact hbad (fun h => h1 h.1.symm)
def okPass (W H : Int) (p : S53) : Prop := (0 ≤ p.f0 ∧ p.f0 ≤ 8) ∧ (0 ≤ p.f1 ∧ p.f1 ≤ 8) ∧ (1 ≤ p.f4 ∧ p.f4 ≤ 1024) ∧ (1 ≤ p.f5 ∧ p.f5 ≤ 1024) ∧ (∀ x : Nat, x < p.f4.toNat → 0 ≤ p.f0 + (x : Int) * p.f2 ∧ p.f0 + (x : Int) * p.f2 < W) ∧ (∀ y : Nat, y < p.f5.toNat → 0 ≤ p.f1 + (y : Int) * p.f3 ∧ p.f1 + (y : Int) * p.f3 < H)
theorem ref_mem {W H : Int} {t p : S53} (h : p ∈ refone W H t) : p.f0 = t.f0 ∧ p.f1 = t.f1 ∧ p.f2 = t.f2 ∧ p.f3 = t.f3 ∧ p.f4 = cnt W t.f0 t.f2 ∧ p.f5 = cnt H t.f1 t.f3 := by
  unfold refone at h
  split at h
  · have := List.mem_singleton.1 h
    subst this
    exact ⟨rfl, rfl, rfl, rfl, rfl, rfl⟩
  · cases h
theorem cnt_in {n f s : Int} (hs : stp s) (h0 : 0 ≤ f) (h1 : 1 ≤ n) {x : Nat} (hx : x < (cnt n f s).toNat) : 0 ≤ f + (x : Int) * s ∧ f + (x : Int) * s < n := by
  unfold cnt at hx
  split at hx
  · omega
  · rcases hs with rfl | rfl | rfl | rfl <;> omega
theorem pss_tab {W H D C L : Int} (hr : rgt W H D C L = 0) {p : S53} (hp : p ∈ pss W H D C L) : ∃ t, tabOk t ∧ t ∈ (if L = 1 then tab7 else tab1) ∧ p.f0 = t.f0 ∧ p.f1 = t.f1 ∧ p.f2 = t.f2 ∧ p.f3 = t.f3 ∧ p.f4 = cnt W t.f0 t.f2 ∧ p.f5 = cnt H t.f1 t.f3 := by
  obtain ⟨a0, a1, a2, a3, a4, _, a6⟩ := rgt_0 hr
  unfold pss at hp
  rw [if_pos hr, ← list_eq a0 a1 a2 a3 a6] at hp
  obtain ⟨t, ht, h2⟩ := List.mem_flatMap.1 hp
  refine ⟨t, ?_, ht, ref_mem h2⟩
  by_cases hL : L = 1
  · rw [if_pos hL] at ht
    exact tab7_ok t ht
  · rw [if_neg hL] at ht
    exact tab1_ok t ht
theorem pss_ok {W H D C L : Int} (hr : rgt W H D C L = 0) : ∀ p ∈ pss W H D C L, okPass W H p := by
  intro p hp
  have hs := pss_sides p hp
  obtain ⟨a0, a1, a2, a3, a4, _, a6⟩ := rgt_0 hr
  obtain ⟨t, ⟨t0, t1, t2, t3, t4, t5⟩, _, e0, e1, e2, e3, e4, e5⟩ := pss_tab hr hp
  have s2 : t.f2 ≤ 8 := by rcases t2 with h | h | h | h <;> omega
  have s3 : t.f3 ≤ 8 := by rcases t5 with h | h | h | h <;> omega
  refine ⟨by omega, by omega, ⟨hs.1, hs.2.1⟩, ⟨hs.2.2.1, hs.2.2.2⟩, fun x hx => ?_, fun y hy => ?_⟩
  · rw [e0, e2]
    rw [e4] at hx
    exact cnt_in t2 t0 a0 hx
  · rw [e1, e3]
    rw [e5] at hy
    exact cnt_in t5 t3 a2 hy
theorem pss_pos {W H D C L : Int} (hr : rgt W H D C L = 0) : 0 < (pss W H D C L).length := by
  obtain ⟨a0, a1, a2, a3, a4, _, a6⟩ := rgt_0 hr
  unfold pss
  rw [if_pos hr, ← list_eq a0 a1 a2 a3 a6]
  have c8 : ∀ n : Int, 1 ≤ n → cnt n 0 8 > 0 := fun n hn => by unfold cnt; rw [if_neg (by omega)]; omega
  have c1 : ∀ n : Int, 1 ≤ n → cnt n 0 1 > 0 := fun n hn => by unfold cnt; rw [if_neg (by omega)]; omega
  by_cases hL : L = 1
  · rw [if_pos hL, tab7, List.flatMap_cons, refone, if_pos ⟨c8 W a0, c8 H a2⟩]
    simp
  · rw [if_neg hL, tab1, List.flatMap_cons, refone, if_pos ⟨c1 W a0, c1 H a2⟩]
    simp
theorem siz_nn {W H D C L : Int} : ∀ {l : List S53}, (∀ p ∈ l, okPass W H p) → 0 ≤ siz W H D C L l
  | [], _ => Int.le_refl _
  | p :: ps, h => by
    have h1 := siz_nn (D := D) (C := C) (L := L) (l := ps) (fun q hq => h q (List.mem_cons_of_mem _ hq))
    have h2 := (h p (List.mem_cons_self ..)).2.2.2.1
    have h3 := (row_range W H D C L p.f4).1
    have h4 : 0 ≤ p.f5 * (1 + row W H D C L p.f4) := Int.mul_nonneg (by omega) (by omega)
    show 0 ≤ p.f5 * (1 + row W H D C L p.f4) + siz W H D C L ps
    omega
def sl (v : List Int) (n : Int) (x : Nat) : List Int := (v.take (n * ((x : Int) + 1)).toNat).drop (n * (x : Int)).toNat
def bpp (s : PSh) : Int := mx 1 (s.D * smp s.C / 8)
theorem bpp_ev {s : PSh} (h : dep s.C s.D) : Ev (fun k => pixel_bpp.f k s.W s.H s.D s.C s.L) (bpp s) := by
  unfold pixel_bpp.f bpp
  have := dep_smp h
  refine Ev.bind (Samples_ev s.C) ?_
  rw [w64 (by omega) (by omega)]
  exact Ev.now _
theorem Bytes_ev {s : PSh} (h : dep s.C s.D) : Ev (fun k => vitrineref12_Bytes.f k s.W s.H s.D s.C s.L) (bpp s) := by
  unfold vitrineref12_Bytes.f bpp
  have := dep_smp h
  refine Ev.bind (rSamples_ev s.C) ?_
  rw [w64 (x := s.D * smp s.C) (by omega) (by omega), tdiv_nn (by omega), w64 (by omega) (by omega)]
  exact Ev.now _
def pat (s : PSh) (p : S53) (y x : Nat) : Int := (p.f1 + (y : Int) * p.f3) * s.W + (p.f0 + (x : Int) * p.f2)
def mcols (s : PSh) (p : S53) (y : Nat) (v : List Int) : Nat → Nat → List Int → Int × List Int
  | 0, _, pix => (0, pix)
  | m + 1, x, pix => if (pixAll s.C s.D s.pal s.tr s.ht (sl v (smp s.C) x)).2 = 0 then mcols s p y v m (x + 1) (px_copy pix (8 * pat s p y x).toNat (pixAll s.C s.D s.pal s.tr s.ht (sl v (smp s.C) x)).1) else ((pixAll s.C s.D s.pal s.tr s.ht (sl v (smp s.C) x)).2, pix)
def und (s : PSh) (raw above : ByteArray) (n : Int) : ByteArray × Int := if wrg (bpp s) (bt raw 0) (raw.extract 1 (1 + n).toNat) above = 0 then (strOfNums (unL (bpp s) (bt raw 0) (raw.extract 1 (1 + n).toNat) above (raw.extract 1 (1 + n).toNat).size), 0) else ((⟨#[]⟩ : ByteArray), wrg (bpp s) (bt raw 0) (raw.extract 1 (1 + n).toNat) above)
def rown (s : PSh) (p : S53) : Int := row s.W s.H s.D s.C s.L p.f4
def mrows (s : PSh) (p : S53) : Nat → Nat → ByteArray → ByteArray → List Int → Int × List Int × ByteArray
  | 0, _, _, raw, pix => (0, pix, raw)
  | m + 1, y, above, raw, pix => if (und s raw above (rown s p)).2 = 0 then
      (if (mcols s p y (unpAll (und s raw above (rown s p)).1 s.D (smp s.C * p.f4)).1 p.f4.toNat 0 pix).1 = 0 then mrows s p m (y + 1) (und s raw above (rown s p)).1 (raw.extract (1 + rown s p).toNat raw.size) (mcols s p y (unpAll (und s raw above (rown s p)).1 s.D (smp s.C * p.f4)).1 p.f4.toNat 0 pix).2
        else ((mcols s p y (unpAll (und s raw above (rown s p)).1 s.D (smp s.C * p.f4)).1 p.f4.toNat 0 pix).1, (mcols s p y (unpAll (und s raw above (rown s p)).1 s.D (smp s.C * p.f4)).1 p.f4.toNat 0 pix).2, raw))
      else ((und s raw above (rown s p)).2, pix, raw)
def mall (s : PSh) : List S53 → ByteArray → List Int → Int × List Int
  | [], _, pix => (0, pix)
  | p :: ps, raw, pix => if (mrows s p p.f5.toNat 0 (⟨#[]⟩ : ByteArray) raw pix).1 = 0 then mall s ps (mrows s p p.f5.toNat 0 (⟨#[]⟩ : ByteArray) raw pix).2.2 (mrows s p p.f5.toNat 0 (⟨#[]⟩ : ByteArray) raw pix).2.1
      else ((mrows s p p.f5.toNat 0 (⟨#[]⟩ : ByteArray) raw pix).1, (mrows s p p.f5.toNat 0 (⟨#[]⟩ : ByteArray) raw pix).2.1)
def imgOf (r : Int × List Int) : Int × ByteArray := if r.1 = 0 then (0, strOfNums r.2) else (r.1, (⟨#[]⟩ : ByteArray))
def img (s : PSh) (raw : ByteArray) : Int × ByteArray :=
  if rgt s.W s.H s.D s.C s.L = 0 then (if (raw.size : Int) < siz s.W s.H s.D s.C s.L (pss s.W s.H s.D s.C s.L) then (30, (⟨#[]⟩ : ByteArray)) else if siz s.W s.H s.D s.C s.L (pss s.W s.H s.D s.C s.L) < (raw.size : Int) then (31, (⟨#[]⟩ : ByteArray)) else
    imgOf (mall s (pss s.W s.H s.D s.C s.L) raw (List.replicate (8 * (s.W * s.H)).toNat 0))) else (rgt s.W s.H s.D s.C s.L, (⟨#[]⟩ : ByteArray))
theorem px_size (a b c d : Int) : (px a b c d).size = 8 := by unfold px; rw [strOfNums_size]; rfl
theorem pix_size {c d : Int} {pal tr : ByteArray} {has : Bool} {l : List Int} (h : (pixAll c d pal tr has l).2 = 0) : (pixAll c d pal tr has l).1.size = 8 := by
  unfold pixAll at h ⊢
  by_cases hk : okP c d l
  · rw [if_pos hk] at h ⊢
    unfold pixGood lst at h ⊢
    repeat' split
    all_goals first | exact px_size _ _ _ _ | (exfalso; revert h; repeat' split; all_goals simp_all)
  · rw [if_neg hk] at h
    cases h
theorem at_eq {s : PSh} {p : S53} (hr : rgt s.W s.H s.D s.C s.L = 0) (hp : okPass s.W s.H p) {y x : Nat} (hy : y < p.f5.toNat) (hx : x < p.f4.toNat) : px_at s p (y : Int) (x : Int) = pat s p y x ∧ 0 ≤ pat s p y x ∧ pat s p y x + 1 ≤ s.W * s.H := by
  obtain ⟨w1, w2, h1, h2, ha, _⟩ := rgt_0 hr
  have a := hp.2.2.2.2.1 x hx
  have b := hp.2.2.2.2.2 y hy
  have f1 := hp.1; have f2 := hp.2.1; have f4 := hp.2.2.1; have f5 := hp.2.2.2.1
  unfold px_at pat
  generalize hyy : (y : Int) * p.f3 = Y at b ⊢
  generalize hxx : (x : Int) * p.f2 = X at a ⊢
  have e1 : wrap64 Y = Y := w64 (by omega) (by omega)
  have e2 : wrap64 X = X := w64 (by omega) (by omega)
  have e3 : wrap64 (p.f1 + Y) = p.f1 + Y := w64 (by omega) (by omega)
  have hB : 0 ≤ (p.f1 + Y) * s.W := Int.mul_nonneg b.1 (by omega)
  have hB2 : (p.f1 + Y) * s.W ≤ (s.H - 1) * s.W := Int.mul_le_mul_of_nonneg_right (by omega) (by omega)
  have hB3 : (s.H - 1) * s.W = s.W * s.H - s.W := by rw [Int.sub_mul, Int.one_mul, Int.mul_comm]
  rw [e1, e2, e3]
  generalize (p.f1 + Y) * s.W = Z at *
  have e4 : wrap64 Z = Z := w64 (by omega) (by omega)
  rw [e4, w64 (x := Z + p.f0) (by omega) (by omega), w64 (x := Z + p.f0 + X) (by omega) (by omega)]
  omega
theorem sl_ok {s : PSh} {p : S53} {v : List Int} (hs : 0 ≤ smp s.C ∧ smp s.C ≤ 4) (h4 : 1 ≤ p.f4 ∧ p.f4 ≤ 1024) (hv : (v.length : Int) = smp s.C * p.f4) {x : Nat} (hx : x < p.f4.toNat) :
    wrap64 (smp s.C * (x : Int)) = smp s.C * (x : Int) ∧ wrap64 ((x : Int) + 1) = (x : Int) + 1 ∧ wrap64 (smp s.C * ((x : Int) + 1)) = smp s.C * ((x : Int) + 1) ∧ smp s.C * ((x : Int) + 1) = smp s.C * (x : Int) + smp s.C ∧ 0 ≤ smp s.C * (x : Int) ∧ smp s.C * ((x : Int) + 1) ≤ (v.length : Int) := by
  obtain ⟨s0, s4⟩ := hs
  have e := Int.mul_add (smp s.C) (x : Int) 1
  rw [Int.mul_one] at e
  have h0 : 0 ≤ smp s.C * (x : Int) := Int.mul_nonneg s0 (by omega)
  have h1 : smp s.C * ((x : Int) + 1) ≤ smp s.C * p.f4 := Int.mul_le_mul_of_nonneg_left (by omega) s0
  have h2 : smp s.C * p.f4 ≤ 4 * 1024 := Int.mul_le_mul s4 h4.2 (by omega) (by omega)
  refine ⟨w64 (by omega) (by omega), w64 (by omega) (by omega), w64 (by omega) (by omega), e, h0, by omega⟩
theorem many_le {a b : Int} {n : Nat} (h0 : 0 ≤ a ∧ a ≤ 4) (h1 : 1 ≤ b ∧ b ≤ 1024) (hn : (n : Int) = a * b) : n ≤ 4096 := by
  have : a * b ≤ 4 * 1024 := Int.mul_le_mul h0.2 h1.2 (by omega) (by omega)
  omega
theorem lt_of_lt8 {n : Nat} (h : n < 8796093022208) : n < 17592186044416 := by omega
theorem sum_succ {x m n : Nat} (h : x + (m + 1) = n) : x + 1 + m = n ∧ x < n := by omega
theorem sl_len {v : List Int} {n : Int} {x : Nat} (hv : v.length ≤ 4096) : (sl v n x).length < 8796093022208 := by
  unfold sl
  rw [List.length_drop, List.length_take]
  omega
theorem smp_range (c : Int) : 0 ≤ smp c ∧ smp c ≤ 4 := by
  unfold smp
  repeat' split
  all_goals omega
theorem fit_ {a A : Int} {q n : Nat} (h0 : 0 ≤ a) (h1 : a + 1 ≤ A) (hA : A ≤ 4096) (hn : (n : Int) = 8 * A) (hq : q = 8) : wrap64 (8 * a) = 8 * a ∧ ((0 ≤ 8 * a ∧ 8 * a + (q : Int) ≤ (n : Int)) ∧ 0 < q) ∧ (8 * a).toNat + q ≤ n := ⟨w64 (by omega) (by omega), by omega, by omega⟩
theorem px_fit {s : PSh} {p : S53} (hr : rgt s.W s.H s.D s.C s.L = 0) (hp : okPass s.W s.H p) {y x : Nat} (hy : y < p.f5.toNat) (hx : x < p.f4.toNat) {pix : List Int} (hl : (pix.length : Int) = 8 * (s.W * s.H)) {q : ByteArray} (hq : q.size = 8) :
    wrap64 (8 * px_at s p (y : Int) (x : Int)) = 8 * pat s p y x ∧ ((0 ≤ 8 * pat s p y x ∧ 8 * pat s p y x + (q.size : Int) ≤ (pix.length : Int)) ∧ 0 < q.size) ∧ (8 * pat s p y x).toNat + q.size ≤ pix.length := by
  obtain ⟨e, h0, h1⟩ := at_eq hr hp hy hx
  rw [e]
  exact fit_ h0 h1 (rgt_0 hr).2.2.2.2.1 hl hq
theorem mcols_len {s : PSh} {p : S53} (hr : rgt s.W s.H s.D s.C s.L = 0) (hp : okPass s.W s.H p) {y : Nat} (hy : y < p.f5.toNat) (v : List Int) : ∀ m x pix, x + m = p.f4.toNat → ((pix.length : Nat) : Int) = 8 * (s.W * s.H) → (((mcols s p y v m x pix).2.length : Nat) : Int) = 8 * (s.W * s.H) := by
  intro m
  induction m with
  | zero => intro x pix _ h; exact h
  | succ m ih =>
    intro x pix hx hl
    rw [mcols]
    by_cases h : (pixAll s.C s.D s.pal s.tr s.ht (sl v (smp s.C) x)).2 = 0
    · rw [if_pos h]
      obtain ⟨_, _, h3⟩ := px_fit hr hp hy (x := x) (sum_succ hx).2 hl (pix_size h)
      exact ih _ _ (sum_succ hx).1 (by rw [px_copy_len h3]; exact hl)
    · rw [if_neg h]
      exact hl
theorem cols_ev {s : PSh} {p : S53} (hr : rgt s.W s.H s.D s.C s.L = 0) (hz : s.pal.size ≤ 140737488351232) (hp : okPass s.W s.H p) {y : Nat} (hy : y < p.f5.toNat) {v : List Int} (hv : (v.length : Int) = smp s.C * p.f4) :
    ∀ m x pix, x + m = p.f4.toNat → ((pix.length : Nat) : Int) = 8 * (s.W * s.H) → Ev (fun k => px_cols k s p (y : Int) v (smp s.C) m x pix) (mcols s p y v m x pix) := by
  intro m
  induction m with
  | zero => intro x pix _ _; exact Ev.now _
  | succ m ih =>
    intro x pix hx hl
    obtain ⟨e1, e2, e3, e4, h0, h1⟩ := sl_ok (smp_range s.C) hp.2.2.1 hv (x := x) (sum_succ hx).2
    have hsm := smp_range s.C
    simp only [px_cols, mcols]
    have h01 : smp s.C * (x : Int) ≤ smp s.C * ((x : Int) + 1) := by omega
    simp only [e1, e2, e3, if_pos h0, if_pos h01, if_pos h1]
    refine Ev.bind (Pixel_ev (l := sl v (smp s.C) x) (lt_of_lt8 (sl_len (many_le hsm hp.2.2.1 hv))) hz) ?_
    by_cases h : (pixAll s.C s.D s.pal s.tr s.ht (sl v (smp s.C) x)).2 = 0
    · obtain ⟨f1, f2, f3⟩ := px_fit hr hp hy (x := x) (sum_succ hx).2 hl (pix_size h)
      simp only [if_pos h, f1, if_pos f2]
      exact ih _ _ (sum_succ hx).1 (by rw [px_copy_len f3]; exact hl)
    · simp only [if_neg h]
      exact Ev.now _
theorem rcols_ev {s : PSh} {p : S53} (hr : rgt s.W s.H s.D s.C s.L = 0) (hz : s.pal.size ≤ 140737488351232) (hp : okPass s.W s.H p) {y : Nat} (hy : y < p.f5.toNat) {v : List Int} (hv : (v.length : Int) = smp s.C * p.f4) (c : Nat → List Int → Option (Int × ByteArray)) (r : Int × ByteArray) :
    ∀ m x pix, x + m = p.f4.toNat → ((pix.length : Nat) : Int) = 8 * (s.W * s.H) → ((mcols s p y v m x pix).1 = 0 → Ev (fun k => c k (mcols s p y v m x pix).2) r) → ((mcols s p y v m x pix).1 ≠ 0 → r = ((mcols s p y v m x pix).1, (⟨#[]⟩ : ByteArray))) → Ev (fun k => rx_cols k s p (y : Int) v (smp s.C) (c k) m x pix) r := by
  intro m
  induction m with
  | zero => intro x pix _ _ hc _; exact hc rfl
  | succ m ih =>
    intro x pix hx hl hc he
    obtain ⟨e1, e2, e3, e4, h0, h1⟩ := sl_ok (smp_range s.C) hp.2.2.1 hv (x := x) (sum_succ hx).2
    have hsm := smp_range s.C
    rw [mcols] at hc he
    simp only [rx_cols]
    have h01 : smp s.C * (x : Int) ≤ smp s.C * ((x : Int) + 1) := by omega
    have e5 : wrap64 (smp s.C * (x : Int) + smp s.C) = smp s.C * ((x : Int) + 1) := by rw [← e4]; exact e3
    simp only [e1, e5, if_pos h0, if_pos h01, if_pos h1]
    refine Ev.bind (rPixel_ev (l := sl v (smp s.C) x) (sl_len (many_le hsm hp.2.2.1 hv)) hz) ?_
    by_cases h : (pixAll s.C s.D s.pal s.tr s.ht (sl v (smp s.C) x)).2 = 0
    · obtain ⟨f1, f2, f3⟩ := px_fit hr hp hy (x := x) (sum_succ hx).2 hl (pix_size h)
      rw [if_pos h] at hc he
      simp only [if_pos h, f1, if_pos f2]
      exact ih _ _ (sum_succ hx).1 (by rw [px_copy_len f3]; exact hl) hc he
    · rw [if_neg h] at hc he
      simp only [if_neg h]
      rw [he h]
      exact Ev.now _
theorem und_size {s : PSh} {raw above : ByteArray} {n : Int} (h0 : 0 ≤ n) (h1 : 1 + n ≤ (raw.size : Int)) (h : (und s raw above n).2 = 0) : ((und s raw above n).1.size : Int) = n := by
  unfold und at h ⊢
  by_cases hw : wrg (bpp s) (bt raw 0) (raw.extract 1 (1 + n).toNat) above = 0
  · rw [if_pos hw, strOfNums_size, unL_length, ByteArray.size_extract]
    omega
  · rw [if_neg hw] at h
    exact absurd h hw
theorem ext_le (raw : ByteArray) (a b : Nat) : (raw.extract a b).size ≤ raw.size := by
  rw [ByteArray.size_extract]
  omega
theorem und_ev {s : PSh} {raw above : ByteArray} {n : Int} (hz : raw.size ≤ 140737488351232) : Ev (fun k => filter_Undo.f k (bpp s) (wrap64 (bt raw 0)) (raw.extract 1 (1 + n).toNat) above) (und s raw above n) := by
  rw [w64_bt]
  exact Undo_ev (Nat.le_trans (ext_le _ _ _) hz)
theorem rund_ev {s : PSh} {raw above : ByteArray} {n : Int} (hz : raw.size ≤ 140737488351232) : Ev (fun k => vitrineref09_Undo.f k (bpp s) (wrap64 (bt raw 0)) (raw.extract 1 (1 + n).toNat) above) (und s raw above n) := by
  rw [w64_bt]
  exact rUndo_ev (Nat.le_trans (ext_le _ _ _) hz)
theorem kn_dep {c d : Int} (h : dep c d) : kn d = true ∧ 0 ≤ d := by
  unfold dep at h
  unfold kn
  exact ⟨decide_eq_true (by omega), by omega⟩
theorem many_pos {a b : Int} (h0 : 0 ≤ a ∧ a ≤ 4) (h1 : 1 ≤ b ∧ b ≤ 1024) : 0 ≤ a * b ∧ a * b ≤ 4096 :=
  ⟨Int.mul_nonneg h0.1 (by omega), Int.le_trans (Int.mul_le_mul h0.2 h1.2 (by omega) (by omega)) (by decide)⟩
theorem rown_eq {s : PSh} {p : S53} (hr : rgt s.W s.H s.D s.C s.L = 0) (hp : okPass s.W s.H p) : rown s p = (s.D * smp s.C * p.f4 + 7) / 8 := by
  unfold rown row
  rw [if_pos ⟨hr, hp.2.2.1.1, hp.2.2.1.2⟩]
theorem bits_le {a b c x : Int} (hx : x = (a * b * c + 7) / 8) (n : Nat) (hn : (n : Int) = x) : ¬ (n : Int) * 8 < b * c * a := by
  have e : a * b * c = b * c * a := by rw [Int.mul_assoc, Int.mul_comm]
  rw [e] at hx
  generalize b * c * a = P at hx ⊢
  omega
theorem unp_ok {s : PSh} {p : S53} {line : ByteArray} (hr : rgt s.W s.H s.D s.C s.L = 0) (hp : okPass s.W s.H p) (hl : (line.size : Int) = rown s p) : unpAll line s.D (smp s.C * p.f4) = (unp line s.D.toNat (smp s.C * p.f4).toNat, 0) := by
  have hk := kn_dep (rgt_0 hr).2.2.2.2.2.1
  have hm := many_pos (smp_range s.C) hp.2.2.1
  unfold unpAll
  rw [if_pos ⟨hk.1, hm.1, hm.2⟩, if_neg (bits_le (rown_eq hr hp) _ hl)]
theorem unp_len {s : PSh} {p : S53} {line : ByteArray} (hp : okPass s.W s.H p) : ((unp line s.D.toNat (smp s.C * p.f4).toNat).length : Int) = smp s.C * p.f4 := by
  have hm := many_pos (smp_range s.C) hp.2.2.1
  unfold unp
  rw [List.length_map, List.length_range]
  omega
theorem row_ev {s : PSh} {p : S53} {line : ByteArray} (hr : rgt s.W s.H s.D s.C s.L = 0) (hz : s.pal.size ≤ 140737488351232) (hp : okPass s.W s.H p) (hl : (line.size : Int) = rown s p) (hlz : line.size ≤ 140737488351232) {y : Nat} (hy : y < p.f5.toNat) {pix : List Int} (hx : (pix.length : Int) = 8 * (s.W * s.H)) :
    Ev (fun k => px_row k s p (y : Int) line pix) (mcols s p y (unpAll line s.D (smp s.C * p.f4)).1 p.f4.toNat 0 pix) := by
  have hm := many_pos (smp_range s.C) hp.2.2.1
  have h4 := hp.2.2.1
  unfold px_row
  simp only [if_pos (show 0 ≤ p.f4 ∧ p.f4 ≤ 4611686018427387904 by omega)]
  refine Ev.bind (Samples_ev s.C) ?_
  rw [w64 (x := smp s.C * p.f4) (by omega) (by omega)]
  refine Ev.bind (Unpack_ev hlz) ?_
  rw [unp_ok hr hp hl]
  simp only [if_true]
  exact cols_ev hr hz hp hy (unp_len hp) _ _ _ (by omega) hx
theorem rown_range {s : PSh} {p : S53} : 0 ≤ rown s p ∧ rown s p ≤ 8193 := row_range _ _ _ _ _ _
theorem need_succ {m : Nat} {n z : Int} (h0 : 0 ≤ n) (h : ((m : Int) + 1) * (1 + n) ≤ z) : 1 + n ≤ z ∧ (m : Int) * (1 + n) ≤ z - (1 + n) := by
  rw [Int.add_mul, Int.one_mul] at h
  have : 0 ≤ (m : Int) * (1 + n) := Int.mul_nonneg (by omega) (by omega)
  omega
theorem rest_size {raw : ByteArray} {n : Int} (h0 : 0 ≤ n) (h1 : 1 + n ≤ (raw.size : Int)) : ((raw.extract (1 + n).toNat raw.size).size : Int) = raw.size - (1 + n) := by
  rw [ByteArray.size_extract]
  omega
theorem mrows_len {s : PSh} {p : S53} (hr : rgt s.W s.H s.D s.C s.L = 0) (hp : okPass s.W s.H p) : ∀ m y ab raw pix, y + m = p.f5.toNat → (m : Int) * (1 + rown s p) ≤ ((raw : ByteArray).size : Int) → ((pix.length : Nat) : Int) = 8 * (s.W * s.H) → (((mrows s p m y ab raw pix).2.1.length : Nat) : Int) = 8 * (s.W * s.H) ∧ ((mrows s p m y ab raw pix).1 = 0 → ((mrows s p m y ab raw pix).2.2.size : Int) = raw.size - (m : Int) * (1 + rown s p)) := by
  intro m
  have h0 := (rown_range (s := s) (p := p)).1
  induction m with
  | zero => intro y ab raw pix _ _ h; exact ⟨h, fun _ => by show (raw.size : Int) = _; rw [show ((0 : Nat) : Int) = 0 from rfl, Int.zero_mul, Int.sub_zero]⟩
  | succ m ih =>
    intro y ab raw pix hy hs hx
    rw [Int.natCast_add, Int.natCast_one] at hs
    obtain ⟨h1, h2⟩ := need_succ h0 hs
    have hr2 := rest_size h0 h1
    rw [mrows]
    by_cases h : (und s raw ab (rown s p)).2 = 0
    · rw [if_pos h]
      have hc := mcols_len hr hp (sum_succ hy).2 (unpAll (und s raw ab (rown s p)).1 s.D (smp s.C * p.f4)).1 p.f4.toNat 0 pix (by omega) hx
      by_cases h3 : (mcols s p y (unpAll (und s raw ab (rown s p)).1 s.D (smp s.C * p.f4)).1 p.f4.toNat 0 pix).1 = 0
      · rw [if_pos h3]
        obtain ⟨i1, i2⟩ := ih (y + 1) (und s raw ab (rown s p)).1 (raw.extract (1 + rown s p).toNat raw.size) _ (sum_succ hy).1 (by rw [hr2]; exact h2) hc
        refine ⟨i1, fun h4 => ?_⟩
        rw [i2 h4, hr2, Int.natCast_add, Int.natCast_one, Int.add_mul, Int.one_mul]
        omega
      · rw [if_neg h3]
        exact ⟨hc, fun h4 => absurd h4 h3⟩
    · rw [if_neg h]
      exact ⟨hx, fun h4 => absurd h4 h⟩
theorem rows_ev {s : PSh} {p : S53} (hr : rgt s.W s.H s.D s.C s.L = 0) (hz : s.pal.size ≤ 140737488351232) (hp : okPass s.W s.H p) : ∀ m y ab raw pix, y + m = p.f5.toNat → (m : Int) * (1 + rown s p) ≤ ((raw : ByteArray).size : Int) → raw.size ≤ 140737488351232 → ((pix.length : Nat) : Int) = 8 * (s.W * s.H) → Ev (fun k => px_rows k s p (rown s p) m y ab raw pix) (mrows s p m y ab raw pix) := by
  intro m
  obtain ⟨h0, h9⟩ := rown_range (s := s) (p := p)
  induction m with
  | zero => intro y ab raw pix _ _ _ _; exact Ev.now _
  | succ m ih =>
    intro y ab raw pix hy hs hrz hx
    rw [Int.natCast_add, Int.natCast_one] at hs
    obtain ⟨h1, h2⟩ := need_succ h0 hs
    have hr2 := rest_size h0 h1
    have hw : wrap64 (1 + rown s p) = 1 + rown s p := w64 (by omega) (by omega)
    have c0 : 0 < raw.size := by omega
    have c1 : 1 ≤ 1 + rown s p := by omega
    simp only [px_rows, mrows, hw, if_pos c0, if_pos c1, if_pos h1]
    refine Ev.bind (bpp_ev (rgt_0 hr).2.2.2.2.2.1) (Ev.bind (und_ev hrz) ?_)
    by_cases h : (und s raw ab (rown s p)).2 = 0
    · have hus := und_size h0 h1 h
      have hc := mcols_len hr hp (sum_succ hy).2 (unpAll (und s raw ab (rown s p)).1 s.D (smp s.C * p.f4)).1 p.f4.toNat 0 pix (by omega) hx
      simp only [if_pos h]
      refine Ev.bind (row_ev hr hz hp hus (by omega) (sum_succ hy).2 hx) ?_
      by_cases h3 : (mcols s p y (unpAll (und s raw ab (rown s p)).1 s.D (smp s.C * p.f4)).1 p.f4.toNat 0 pix).1 = 0
      · simp only [if_pos h3]
        exact ih _ _ _ _ (sum_succ hy).1 (by rw [hr2]; exact h2) (Nat.le_trans (ext_le _ _ _) hrz) hc
      · simp only [if_neg h3]
        exact Ev.now _
    · simp only [if_neg h]
      exact Ev.now _
theorem rrows_ev {s : PSh} {p : S53} (hr : rgt s.W s.H s.D s.C s.L = 0) (hz : s.pal.size ≤ 140737488351232) (hp : okPass s.W s.H p) (c : Nat → ByteArray → List Int → Option (Int × ByteArray)) (r : Int × ByteArray) : ∀ m y ab raw pix, y + m = p.f5.toNat → (m : Int) * (1 + rown s p) ≤ ((raw : ByteArray).size : Int) → raw.size ≤ 140737488351232 → ((pix.length : Nat) : Int) = 8 * (s.W * s.H) →
    ((mrows s p m y ab raw pix).1 = 0 → Ev (fun k => c k (mrows s p m y ab raw pix).2.2 (mrows s p m y ab raw pix).2.1) r) → ((mrows s p m y ab raw pix).1 ≠ 0 → r = ((mrows s p m y ab raw pix).1, (⟨#[]⟩ : ByteArray))) → Ev (fun k => rx_rows k s p (smp s.C) (c k) m y ab raw pix) r := by
  intro m
  obtain ⟨h0, h9⟩ := rown_range (s := s) (p := p)
  have hm := many_pos (smp_range s.C) hp.2.2.1
  induction m with
  | zero => intro y ab raw pix _ _ _ _ hc _; exact hc rfl
  | succ m ih =>
    intro y ab raw pix hy hs hrz hx hc he
    rw [Int.natCast_add, Int.natCast_one] at hs
    obtain ⟨h1, h2⟩ := need_succ h0 hs
    have hr2 := rest_size h0 h1
    have hw : wrap64 (1 + rown s p) = 1 + rown s p := w64 (by omega) (by omega)
    have hw2 : wrap64 (smp s.C * p.f4) = smp s.C * p.f4 := w64 (by omega) (by omega)
    have c0 : 0 < raw.size := by omega
    have c1 : 1 ≤ 1 + rown s p := by omega
    rw [mrows] at hc he
    simp only [rx_rows]
    refine Ev.bind (rRow_ev s.W s.H s.D s.C s.L p.f4) ?_
    show Ev (fun k => if 0 < raw.size then (if 1 ≤ wrap64 (1 + rown s p) then (if wrap64 (1 + rown s p) ≤ (raw.size : Int) then _ else _) else _) else _) r
    simp only [show row s.W s.H s.D s.C s.L p.f4 = rown s p from rfl, hw, hw2, if_pos c0, if_pos c1, if_pos h1]
    refine Ev.bind (Bytes_ev (rgt_0 hr).2.2.2.2.2.1) (Ev.bind (rund_ev hrz) ?_)
    by_cases h : (und s raw ab (rown s p)).2 = 0
    · have hus := und_size h0 h1 h
      have hk := mcols_len hr hp (sum_succ hy).2 (unpAll (und s raw ab (rown s p)).1 s.D (smp s.C * p.f4)).1 p.f4.toNat 0 pix (by omega) hx
      rw [if_pos h] at hc he
      simp only [if_pos h]
      refine Ev.bind (rUnpack_ev (by omega)) ?_
      refine rcols_ev hr hz hp (sum_succ hy).2 (by rw [unp_ok hr hp hus]; exact unp_len hp) (fun k px => rx_rows k s p (smp s.C) (c k) m (y + 1) (und s raw ab (rown s p)).1 (raw.extract (1 + rown s p).toNat raw.size) px) r _ _ _ (by omega) hx (fun h3 => ?_) (fun h3 => ?_)
      · rw [if_pos h3] at hc he
        exact ih _ _ _ _ (sum_succ hy).1 (by rw [hr2]; exact h2) (Nat.le_trans (ext_le _ _ _) hrz) hk hc he
      · rw [if_neg h3] at he
        exact he h3
    · rw [if_neg h] at he
      simp only [if_neg h]
      rw [he h]
      exact Ev.now _
theorem five {x : Int} {n : Nat} (h : 1 ≤ x ∧ x ≤ 1024) (hn : x.toNat = n) : (n : Int) = x ∧ (0 ≤ x ∧ x ≤ 4611686018427387904) := by omega
theorem all_ev {s : PSh} (hr : rgt s.W s.H s.D s.C s.L = 0) (hL : -9223372036854775808 ≤ s.L ∧ s.L ≤ 9223372036854775807) (hz : s.pal.size ≤ 140737488351232) : ∀ (ps : List S53) raw pix, (∀ p ∈ ps, okPass s.W s.H p) → ((raw : ByteArray).size : Int) = siz s.W s.H s.D s.C s.L ps → raw.size ≤ 140737488351232 → ((pix.length : Nat) : Int) = 8 * (s.W * s.H) → Ev (fun k => px_all k s ps raw pix) (mall s ps raw pix) := by
  intro ps
  induction ps with
  | nil => intro raw pix _ _ _ _; exact Ev.now _
  | cons p ps ih =>
    intro raw pix hps hs hrz hx
    have hp := hps p (List.mem_cons_self ..)
    obtain ⟨e5, g5⟩ := five hp.2.2.2.1 rfl
    have hs2 : (raw.size : Int) = p.f5 * (1 + rown s p) + siz s.W s.H s.D s.C s.L ps := hs
    have hsz : 0 ≤ siz s.W s.H s.D s.C s.L ps := siz_nn (fun q hq => hps q (List.mem_cons_of_mem _ hq))
    have hnn : 0 ≤ p.f5 * (1 + rown s p) := Int.mul_nonneg (by omega) (by have := (rown_range (s := s) (p := p)).1; omega)
    have hneed : ((p.f5.toNat : Nat) : Int) * (1 + rown s p) ≤ (raw.size : Int) := by rw [e5]; omega
    obtain ⟨l1, l2⟩ := mrows_len hr hp p.f5.toNat 0 (⟨#[]⟩ : ByteArray) raw pix (by omega) hneed hx
    simp only [px_all, mall]
    refine Ev.bind (g := fun k => px_pass k s p raw pix) (a := mrows s p p.f5.toNat 0 (⟨#[]⟩ : ByteArray) raw pix) ?_ ?_
    · unfold px_pass
      simp only [if_pos g5]
      exact Ev.bind (Row_ev s.W s.H s.D s.C s.L p.f4 hL) (rows_ev hr hz hp _ _ _ _ _ (by omega) hneed hrz hx)
    · by_cases h : (mrows s p p.f5.toNat 0 (⟨#[]⟩ : ByteArray) raw pix).1 = 0
      · simp only [if_pos h]
        have l3 := l2 h
        rw [e5] at l3
        exact ih _ _ (fun q hq => hps q (List.mem_cons_of_mem _ hq)) (by omega) (by omega) l1
      · simp only [if_neg h]
        exact Ev.now _
theorem rall_ev {s : PSh} (hr : rgt s.W s.H s.D s.C s.L = 0) (hz : s.pal.size ≤ 140737488351232) : ∀ (ps : List S53) raw pix, (∀ p ∈ ps, okPass s.W s.H p) → ((raw : ByteArray).size : Int) = siz s.W s.H s.D s.C s.L ps → raw.size ≤ 140737488351232 → ((pix.length : Nat) : Int) = 8 * (s.W * s.H) → Ev (fun k => rx_all k s (smp s.C) ps raw pix) (imgOf (mall s ps raw pix)) := by
  intro ps
  induction ps with
  | nil => intro raw pix _ _ _ _; exact Ev.now _
  | cons p ps ih =>
    intro raw pix hps hs hrz hx
    have hp := hps p (List.mem_cons_self ..)
    obtain ⟨e5, g5⟩ := five hp.2.2.2.1 rfl
    obtain ⟨e4, g4⟩ := five hp.2.2.1 rfl
    have hs2 : (raw.size : Int) = p.f5 * (1 + rown s p) + siz s.W s.H s.D s.C s.L ps := hs
    have hsz : 0 ≤ siz s.W s.H s.D s.C s.L ps := siz_nn (fun q hq => hps q (List.mem_cons_of_mem _ hq))
    have hnn : 0 ≤ p.f5 * (1 + rown s p) := Int.mul_nonneg (by omega) (by have := (rown_range (s := s) (p := p)).1; omega)
    have hneed : ((p.f5.toNat : Nat) : Int) * (1 + rown s p) ≤ (raw.size : Int) := by rw [e5]; omega
    obtain ⟨l1, l2⟩ := mrows_len hr hp p.f5.toNat 0 (⟨#[]⟩ : ByteArray) raw pix (by omega) hneed hx
    have hg : (0 ≤ p.f5 ∧ p.f5 ≤ 4611686018427387904) ∧ (0 ≤ p.f4 ∧ p.f4 ≤ 4611686018427387904) := ⟨g5, g4⟩
    simp only [rx_all, mall, if_pos hg]
    refine rrows_ev hr hz hp (fun k raw px => rx_all k s (smp s.C) ps raw px) _ _ _ _ _ _ (by omega) hneed hrz hx (fun h => ?_) (fun h => ?_)
    · rw [if_pos h]
      have l3 := l2 h
      rw [e5] at l3
      exact ih _ _ (fun q hq => hps q (List.mem_cons_of_mem _ hq)) (by omega) (by omega) l1
    · rw [if_neg h]
      exact (if_neg h)
theorem area_eq {s : PSh} (hr : rgt s.W s.H s.D s.C s.L = 0) : wrap64 (wrap64 (8 * s.W) * s.H) = 8 * (s.W * s.H) ∧ 0 ≤ 8 * (s.W * s.H) ∧ 8 * (s.W * s.H) ≤ 281474976710656 := by
  obtain ⟨w1, w2, h1, h2, ha, _⟩ := rgt_0 hr
  have h0 : 0 ≤ s.W * s.H := Int.mul_nonneg (by omega) (by omega)
  rw [w64 (x := 8 * s.W) (by omega) (by omega), Int.mul_assoc]
  exact ⟨w64 (by omega) (by omega), by omega, by omega⟩
theorem rep_len {A : Int} (h : 0 ≤ 8 * A) : (((List.replicate (8 * A).toNat (0 : Int)).length : Nat) : Int) = 8 * A := by
  rw [List.length_replicate]
  omega
theorem img_ev (s : PSh) (raw : ByteArray) (hL : -9223372036854775808 ≤ s.L ∧ s.L ≤ 9223372036854775807) (hz : s.pal.size ≤ 140737488351232) (hrz : raw.size ≤ 140737488351232) : Ev (fun k => px_image k s raw) (img s raw) := by
  unfold px_image img
  refine Ev.bind (Right_ev s.W s.H s.D s.C s.L hL) ?_
  by_cases hr : rgt s.W s.H s.D s.C s.L = 0
  · simp only [if_pos hr]
    refine Ev.bind (Size_ev s.W s.H s.D s.C s.L hL) ?_
    by_cases h1 : (raw.size : Int) < siz s.W s.H s.D s.C s.L (pss s.W s.H s.D s.C s.L)
    · simp only [if_pos h1]; exact Ev.now _
    · simp only [if_neg h1]
      by_cases h2 : siz s.W s.H s.D s.C s.L (pss s.W s.H s.D s.C s.L) < (raw.size : Int)
      · simp only [if_pos h2]; exact Ev.now _
      · obtain ⟨a1, a2, a3⟩ := area_eq hr
        have hpos := pss_pos hr
        simp only [if_neg h2, a1, if_pos (And.intro a2 a3)]
        refine Ev.bind (Passes_ev s.W s.H s.D s.C s.L hL) ?_
        simp only [if_pos hpos]
        refine Ev.bind (all_ev hr hL hz _ _ _ (pss_ok hr) (by omega) hrz (rep_len a2)) ?_
        by_cases h3 : (mall s (pss s.W s.H s.D s.C s.L) raw (List.replicate (8 * (s.W * s.H)).toNat 0)).1 = 0
        · simp only [imgOf, if_pos h3]; exact Ev.now _
        · simp only [imgOf, if_neg h3]; exact Ev.now _
  · simp only [if_neg hr]; exact Ev.now _
theorem rimg_ev (s : PSh) (raw : ByteArray) (hz : s.pal.size ≤ 140737488351232) (hrz : raw.size ≤ 140737488351232) : Ev (fun k => rx_image k s raw) (img s raw) := by
  unfold rx_image img
  refine Ev.bind (rRight_ev s.W s.H s.D s.C s.L) ?_
  by_cases hr : rgt s.W s.H s.D s.C s.L = 0
  · simp only [if_pos hr]
    refine Ev.bind (rSize_ev s.W s.H s.D s.C s.L) ?_
    by_cases h1 : (raw.size : Int) < siz s.W s.H s.D s.C s.L (pss s.W s.H s.D s.C s.L)
    · simp only [if_pos h1]; exact Ev.now _
    · simp only [if_neg h1]
      by_cases h2 : siz s.W s.H s.D s.C s.L (pss s.W s.H s.D s.C s.L) < (raw.size : Int)
      · simp only [if_pos h2]; exact Ev.now _
      · obtain ⟨a1, a2, a3⟩ := area_eq hr
        have hpos := pss_pos hr
        simp only [if_neg h2, a1, if_pos (And.intro a2 a3)]
        refine Ev.bind (rSamples_ev s.C) (Ev.bind (rPasses_ev s.W s.H s.D s.C s.L) ?_)
        simp only [if_pos hpos]
        exact rall_ev hr hz _ _ _ (pss_ok hr) (by omega) hrz (rep_len a2)
  · simp only [if_neg hr]; exact Ev.now _
theorem out_ev {f : Nat → Option (Int × ByteArray)} {v : Int × ByteArray} {W H : Int} (h : Ev f v) : Ev (fun k => (f k).bind fun r => px_out W H r) (if v.1 = 0 then (W, H, v.2, 0) else (0, 0, (⟨#[]⟩ : ByteArray), v.1)) := by
  refine Ev.bind h ?_
  unfold px_out
  by_cases e : v.1 = 0
  · simp only [if_pos e]; exact Ev.now _
  · simp only [if_neg e]; exact Ev.now _
theorem Image_ev (W H D C L : Int) (pal tr : ByteArray) (ht : Bool) (raw : ByteArray) (hL : -9223372036854775808 ≤ L ∧ L ≤ 9223372036854775807) (hz : pal.size ≤ 140737488351232) (hrz : raw.size ≤ 140737488351232) :
    Ev (fun k => pixel_Image.f k W H D C L pal tr ht raw) (if (img ⟨W, H, D, C, L, pal, tr, ht⟩ raw).1 = 0 then (W, H, (img ⟨W, H, D, C, L, pal, tr, ht⟩ raw).2, 0) else (0, 0, (⟨#[]⟩ : ByteArray), (img ⟨W, H, D, C, L, pal, tr, ht⟩ raw).1)) :=
  out_ev (img_ev ⟨W, H, D, C, L, pal, tr, ht⟩ raw hL hz hrz)
theorem rImage_ev (W H D C L : Int) (pal tr : ByteArray) (ht : Bool) (raw : ByteArray) (hz : pal.size ≤ 140737488351232) (hrz : raw.size ≤ 140737488351232) :
    Ev (fun k => vitrineref12_Image.f k W H D C L pal tr ht raw) (if (img ⟨W, H, D, C, L, pal, tr, ht⟩ raw).1 = 0 then (W, H, (img ⟨W, H, D, C, L, pal, tr, ht⟩ raw).2, 0) else (0, 0, (⟨#[]⟩ : ByteArray), (img ⟨W, H, D, C, L, pal, tr, ht⟩ raw).1)) :=
  out_ev (rimg_ev ⟨W, H, D, C, L, pal, tr, ht⟩ raw hz hrz)
theorem PixelImages : ∀ (a0_0 : Int) (a0_1 : Int) (a0_2 : Int) (a0_3 : Int) (a0_4 : Int) (a0_5 : ByteArray) (a0_6 : ByteArray) (a0_7 : Bool) (a1 : ByteArray), ((Lit.int .i64 a0_0).wf = true) → ((Lit.int .i64 a0_1).wf = true) → ((Lit.int .i64 a0_2).wf = true) → ((Lit.int .i64 a0_3).wf = true) → ((Lit.int .i64 a0_4).wf = true) → (a0_5.size ≤ 140737488351232) → (a0_6.size ≤ 140737488351232) → (a1.size ≤ 140737488351232) → ∃ k, vitrinelaw12_PixelImages.f k a0_0 a0_1 a0_2 a0_3 a0_4 a0_5 a0_6 a0_7 a1 = some true := by
  intro W H D C L pal tr ht raw _ _ _ _ hL hz _ hrz
  refine Ev.rounds ?_
  unfold vitrinelaw12_PixelImages.f
  refine Ev.bind (Image_ev W H D C L pal tr ht raw (wf_i64 hL) hz hrz) (Ev.bind (rImage_ev W H D C L pal tr ht raw hz hrz) ?_)
  generalize (if (img ⟨W, H, D, C, L, pal, tr, ht⟩ raw).1 = 0 then (W, H, (img ⟨W, H, D, C, L, pal, tr, ht⟩ raw).2, (0 : Int)) else (0, 0, (⟨#[]⟩ : ByteArray), (img ⟨W, H, D, C, L, pal, tr, ht⟩ raw).1)) = r
  have e : (r.1 == r.1 && (r.2.1 == r.2.1 && (r.2.2.1.toList == r.2.2.1.toList))) = true := by simp
  simp only [if_pos e, if_true]
  exact awake_id

end Go.Proofs.Ytejljcglbkjgkaa.Pure
