/- PixelChecks, plain: which rasters may be, as the document's answer says. Conditions: whole numbers of 64 bits, strings of at most 2^47 - 4096 bytes. -/
import Derived.Test.YtejljcglbkjgkaaZPL12x3
import Derived.Test.YtejljcglbkjgkaaZO
import Derived.Test.YtejljcglbkjgkaaRows
import Derived.Test.YtejljcglbkjgkaaZPL12x8
import Derived.Test.YtejljcglbkjgkaaZPL12x1
import Derived.Test.YtejljcglbkjgkaaZPL12x24
import Derived.Test.YtejljcglbkjgkaaZWMore
import Derived.Laws.Strings
import Derived.KernelRfl
namespace Go.Proofs.Ytejljcglbkjgkaa.PL12
open Go.RowKit Go.Proofs.YtejljcglbkjgkaaW.PrintWords Go.Proofs.YtejljcglbkjgkaaO
set_option linter.unusedVariables false
def okS23 (y_ : S23) : Prop := (fun x_ : Int => (Lit.int .i64 x_).wf = true) y_.f0 ∧ (fun x_ : Int => (Lit.int .i64 x_).wf = true) y_.f1 ∧ (fun s_ : ByteArray => s_.size ≤ 140737488351232) y_.f2
theorem opn23 : Opn Try.prog 23 k23 okS23 := opn_mk rfl (fun (z_ : (Int) × (Int) × (ByteArray)) => (⟨z_.1, z_.2.1, z_.2.2⟩ : S23)) (fun _ => rfl) (opn_struct Try.underlying23 (by kernel_rfl) (opnFs_cons rfl (by kernel_rfl) (opn_int Try.underlying3) rfl (opnFs_cons rfl (by kernel_rfl) (opn_int Try.underlying3) rfl (opnFs_one rfl (by kernel_rfl) (opn_string Try.underlying9))))) (fun _ h_ => h_)
end Go.Proofs.Ytejljcglbkjgkaa.PL12

namespace Go.Proofs.Ytejljcglbkjgkaa.Pure
open Go.RowKit Go.Proofs.YtejljcglbkjgkaaW.PrintWords Go.Proofs.YtejljcglbkjgkaaW.PrintLast Go.Proofs.YtejljcglbkjgkaaW.PrintMore Go.Proofs.Ytejljcglbkjgkaa.PL12
set_option linter.unusedVariables false
set_option linter.unusedSimpArgs false
theorem w64 {x : Int} (h1 : -9223372036854775808 ≤ x) (h2 : x ≤ 9223372036854775807) : wrap64 x = x := by
  unfold wrap64
  omega
theorem toList_data (s : ByteArray) : s.toList = s.data.toList := by
  exact ByteArray.toList_eq s
theorem ev_same {α : Type} {g : Nat → Option α} {r r' : α} (h : Ev g r) (e : r = r') : Ev g r' := e ▸ h
theorem ev_id {α : Type} {g : Nat → Option α} {r : α} (h : Ev g r) : Ev (fun n => (g n).bind fun t => some t) r := Ev.bind (f := fun _ t => some t) h (Ev.now r)
def idx : List Int → Int → Nat → Int
  | [], _, _ => -1
  | x :: xs, v, i => if v = x then (i : Int) else idx xs v (i + 1)
theorem index_loop (l : List Int) (v : Int) (hl : l.length ≤ 4611686018427387904) : ∀ d i : Nat, i + d = l.length → Ev (fun k => slices_Index_int_int.l0 k l v (l.length : Int) (i : Int)) (idx (l.drop i) v i) := by
  intro d
  induction d with
  | zero =>
    intro i hi
    have e : l.drop i = [] := List.drop_of_length_le (by omega)
    rw [e]
    refine Ev.step (f := fun _ => some (-1)) (fun k => ?_) (Ev.now _)
    simp only [slices_Index_int_int.l0]
    rw [if_neg (by omega)]
  | succ d ih =>
    intro i hi
    have hlt : i < l.length := by omega
    have w1 : wrap64 ((i : Int) + 1) = ((i + 1 : Nat) : Int) := by rw [w64 (by omega) (by omega)]; rfl
    have hr : rd l (i : Int) = l[i] := by
      unfold rd
      rw [List.getD_eq_getElem?_getD, Int.toNat_natCast, List.getElem?_eq_getElem hlt]
      rfl
    rw [List.drop_eq_getElem_cons hlt]
    unfold idx
    by_cases h : v = l[i]
    · rw [if_pos h]
      refine Ev.step (f := fun _ => some (i : Int)) (fun k => ?_) (Ev.now _)
      simp only [slices_Index_int_int.l0]
      rw [if_pos (by omega), if_pos (by omega), if_pos (by omega), hr, if_pos h]
    · rw [if_neg h]
      refine Ev.step (fun k => ?_) (ih (i + 1) (by omega))
      simp only [slices_Index_int_int.l0]
      rw [if_pos (by omega), if_pos (by omega), if_pos (by omega), hr, if_neg h, w1]
theorem index_ev (l : List Int) (v : Int) (hl : l.length ≤ 4611686018427387904) : Ev (fun k => slices_Index_int_int.f k l v) (idx l v 0) := by
  unfold slices_Index_int_int.f
  exact index_loop l v hl l.length 0 (by omega)
theorem contains_ev (l : List Int) (v : Int) (hl : l.length ≤ 4611686018427387904) : Ev (fun k => slices_Contains_int_int.f k l v) (decide (idx l v 0 ≥ 0)) := by
  unfold slices_Contains_int_int.f
  exact Ev.bind (index_ev l v hl) (Ev.now _)
def dep (c d : Int) : Prop := (c = 0 ∧ (d = 1 ∨ d = 2 ∨ d = 4 ∨ d = 8 ∨ d = 16)) ∨ (c = 3 ∧ (d = 1 ∨ d = 2 ∨ d = 4 ∨ d = 8)) ∨ ((c = 2 ∨ c = 4 ∨ c = 6) ∧ (d = 8 ∨ d = 16))
instance (c d : Int) : Decidable (dep c d) := by unfold dep; infer_instance
def rgt (W H D C L : Int) : Int := if 1 ≤ W ∧ W ≤ 2147483647 ∧ 1 ≤ H ∧ H ≤ 2147483647 ∧ dep C D ∧ (L = 0 ∨ L = 1) then (if W > 1024 ∨ H > 1024 ∨ W * H > 4096 then 5 else 0) else 24
theorem rgt_area {W H : Int} (h1 : 1 ≤ W) (h2 : W ≤ 2147483647) (h3 : 1 ≤ H) (h4 : H ≤ 2147483647) : wrap64 (W * H) = W * H := by
  have h5 : W * H ≤ 2147483647 * 2147483647 := Int.mul_le_mul h2 h4 (by omega) (by omega)
  have h6 : 0 ≤ W * H := Int.mul_nonneg (by omega) (by omega)
  exact w64 (by omega) (by omega)
theorem andNot1 {x : Int} (h1 : -9223372036854775808 ≤ x) (h2 : x ≤ 9223372036854775807) : (Go.bits .andNot .i64 x 1 != 0) = !decide (x = 0 ∨ x = 1) := by
  by_cases h0 : x = 0
  · subst h0; decide
  · by_cases h3 : x = 1
    · subst h3; decide
    · rw [decide_eq_false (by omega)]
      refine bne_iff_ne.mpr fun hz => ?_
      have e : Go.bits .andNot .i64 x 1 = IntKind.i64.wrap ((BitVec.ofInt 64 x &&& ~~~ BitVec.ofInt 64 1).toNat : Int) := rfl
      rw [e, IntKind.wrap_i64] at hz
      generalize hb : BitVec.ofInt 64 x = b at hz
      have hlt := (b &&& ~~~ BitVec.ofInt 64 1).isLt
      have hn : (b &&& ~~~ BitVec.ofInt 64 1).toNat = 0 := by omega
      have hv : b &&& ~~~ BitVec.ofInt 64 1 = 0#64 := BitVec.eq_of_toNat_eq hn
      have hs : b >>> 1 = 0#64 := by
        apply BitVec.eq_of_getLsbD_eq
        intro i hi
        rw [BitVec.getLsbD_ushiftRight]
        by_cases h63 : 1 + i < 64
        · have h4 : (b &&& ~~~ BitVec.ofInt 64 1).getLsbD (1 + i) = false := by rw [hv]; simp
          have h5 : (BitVec.ofInt 64 1).getLsbD (1 + i) = false := by
            show (1#64).getLsbD (1 + i) = false
            rw [BitVec.getLsbD_one]
            simp
          rw [BitVec.getLsbD_and, BitVec.getLsbD_not, h5] at h4
          simp only [h63, decide_true, Bool.not_false, Bool.and_true] at h4
          rw [h4]
          simp
        · simp [BitVec.getLsbD_of_ge b (1 + i) (by omega)]
      have h6 : (b >>> 1).toNat = 0 := by rw [hs]; rfl
      rw [BitVec.toNat_ushiftRight, Nat.shiftRight_eq_div_pow] at h6
      have h7 : b.toNat = (x % 18446744073709551616).toNat := by rw [← hb, BitVec.toNat_ofInt]; rfl
      omega
theorem side_f (n : Int) : head_side.f n = some (decide (1 ≤ n ∧ n ≤ 2147483647)) := by
  unfold head_side.f
  by_cases h : n ≥ 1
  · rw [if_pos h]
    congr 1
    by_cases h2 : n ≤ 2147483647
    · rw [decide_eq_true h2, decide_eq_true ⟨h, h2⟩]
    · rw [decide_eq_false h2, decide_eq_false (by omega)]
  · rw [if_neg h, decide_eq_false (by omega)]
def deps (c : Int) : List Int := if c = 0 then [1, 2, 4, 8, 16] else if c = 3 then [1, 2, 4, 8] else if c = 2 ∨ c = 4 ∨ c = 6 then [8, 16] else []
theorem depths_ev (c : Int) : Ev (fun k => head_depths.f k c) (deps c) := by
  have hj : ∀ b : Bool, Ev (fun k => head_depths.j0 k b) (if b = true then [8, 16] else []) := by
    intro b
    refine Ev.step (f := fun _ => some (if b = true then [8, 16] else [])) (fun k => ?_) (Ev.now _)
    simp only [head_depths.j0]
    cases b <;> rfl
  unfold head_depths.f deps
  by_cases h0 : c = 0
  · simp only [if_pos h0]; exact Ev.now _
  · simp only [if_neg h0]
    by_cases h3 : c = 3
    · simp only [if_pos h3]; exact Ev.now _
    · simp only [if_neg h3]
      by_cases h2 : c = 2
      · subst h2; exact ev_same (hj _) (by decide)
      · simp only [if_neg h2]
        by_cases h4 : c = 4
        · subst h4; exact ev_same (hj _) (by decide)
        · simp only [if_neg h4]
          refine ev_same (hj _) ?_
          by_cases h6 : c = 6
          · subst h6; decide
          · rw [if_neg (by simpa using h6), if_neg (by omega)]
theorem deps_has (c d : Int) : decide (idx (deps c) d 0 ≥ 0) = decide (dep c d) := by
  have key : ∀ (l : List Int) (i : Nat), (idx l d i ≥ 0 ↔ d ∈ l) := by
    intro l
    induction l with
    | nil => intro i; simp [idx]
    | cons x xs ih =>
      intro i
      unfold idx
      by_cases h : d = x
      · rw [if_pos h]; simp [h]
      · rw [if_neg h, ih]; simp [h]
  have h := key (deps c) 0
  have h2 : d ∈ deps c ↔ dep c d := by
    unfold deps dep
    by_cases h0 : c = 0
    · rw [if_pos h0]; simp; omega
    · rw [if_neg h0]
      by_cases h3 : c = 3
      · rw [if_pos h3]; simp; omega
      · rw [if_neg h3]
        by_cases h4 : c = 2 ∨ c = 4 ∨ c = 6
        · rw [if_pos h4]; simp; omega
        · rw [if_neg h4]; simp; omega
  rw [decide_eq_decide]
  exact h.trans h2
theorem Right_ev (W H D C L : Int) (hL : -9223372036854775808 ≤ L ∧ L ≤ 9223372036854775807) : Ev (fun k => head_Right.f k W H D C L) (rgt W H D C L) := by
  have hj1 : Ev (fun k => head_Right.j0 k true W H D C L) 24 := by
    refine Ev.step (f := fun _ => some 24) (fun k => ?_) (Ev.now _)
    simp only [head_Right.j0]
    rw [if_pos trivial]
  have hj0 : 1 ≤ W → W ≤ 2147483647 → 1 ≤ H → H ≤ 2147483647 → Ev (fun k => head_Right.j0 k false W H D C L) (if W > 1024 ∨ H > 1024 ∨ W * H > 4096 then 5 else 0) := by
    intro h1 h2 h3 h4
    refine Ev.step (f := fun _ => some (if W > 1024 ∨ H > 1024 ∨ W * H > 4096 then 5 else 0)) (fun k => ?_) (Ev.now _)
    simp only [head_Right.j0]
    rw [if_neg (by decide), rgt_area h1 h2 h3 h4]
    by_cases h5 : mx W H > 1024
    · rw [if_pos h5, if_pos (by unfold mx at h5; omega)]
    · rw [if_neg h5]
      by_cases h6 : W * H > 4096
      · rw [if_pos h6, if_pos (.inr (.inr h6))]
      · rw [if_neg h6, if_neg (by unfold mx at h5; omega)]
  unfold head_Right.f
  simp only [side_f, Option.bind_some]
  unfold rgt
  by_cases hW : 1 ≤ W ∧ W ≤ 2147483647
  · rw [decide_eq_true hW]
    simp only [if_true]
    by_cases hH : 1 ≤ H ∧ H ≤ 2147483647
    · rw [decide_eq_true hH]
      simp only [if_true]
      refine Ev.bind (depths_ev C) ?_
      refine Ev.bind (contains_ev (deps C) D (by unfold deps; split; simp; split; simp; split <;> simp)) ?_
      rw [deps_has]
      by_cases hd : dep C D
      · rw [decide_eq_true hd]
        simp only [if_true]
        rw [andNot1 hL.1 hL.2]
        by_cases hl : L = 0 ∨ L = 1
        · rw [decide_eq_true hl, if_pos ⟨hW.1, hW.2, hH.1, hH.2, hd, hl⟩]
          exact hj0 hW.1 hW.2 hH.1 hH.2
        · rw [decide_eq_false hl, if_neg (fun h => hl h.2.2.2.2.2)]
          exact hj1
      · rw [decide_eq_false hd, if_neg (fun h => hd h.2.2.2.2.1)]
        simp only [Bool.false_eq_true, if_false]
        exact hj1
    · rw [decide_eq_false hH, if_neg (fun h => hH ⟨h.2.2.1, h.2.2.2.1⟩)]
      simp only [Bool.false_eq_true, if_false]
      exact hj1
  · rw [decide_eq_false hW, if_neg (fun h => hW ⟨h.1, h.2.1⟩)]
    simp only [Bool.false_eq_true, if_false]
    exact hj1
theorem rRight_ev (W H D C L : Int) : Ev (fun k => vitrineref08_Right.f k W H D C L) (rgt W H D C L) := by
  have h4 : ∀ b : Bool, Ev (fun k => vitrineref08_Right.j4 k b) (if b = true then 5 else 0) := by
    intro b
    refine Ev.step (f := fun _ => some (if b = true then 5 else 0)) (fun k => ?_) (Ev.now _)
    simp only [vitrineref08_Right.j4]
    cases b <;> rfl
  have h3 : ∀ b : Bool, (b = false → 1 ≤ W ∧ W ≤ 2147483647 ∧ 1 ≤ H ∧ H ≤ 2147483647) → Ev (fun k => vitrineref08_Right.j3 k b W H D C L) (if b = true then 24 else if W > 1024 ∨ H > 1024 ∨ W * H > 4096 then 5 else 0) := by
    intro b hb
    cases b with
    | true =>
      refine Ev.step (f := fun _ => some 24) (fun k => ?_) (Ev.now _)
      simp only [vitrineref08_Right.j3, if_true]
    | false =>
      obtain ⟨a1, a2, a3, a4⟩ := hb rfl
      simp only [Bool.false_eq_true, if_false]
      by_cases hw : W > 1024
      · refine Ev.step (fun k => ?_) (ev_same (h4 true) (by rw [if_pos rfl, if_pos (.inl hw)]))
        simp only [vitrineref08_Right.j3]
        rw [if_neg (by decide), if_pos hw]
      · by_cases hh : H > 1024
        · refine Ev.step (fun k => ?_) (ev_same (h4 true) (by rw [if_pos rfl, if_pos (.inr (.inl hh))]))
          simp only [vitrineref08_Right.j3]
          rw [if_neg (by decide), if_neg hw, if_pos hh]
        · refine Ev.step (fun k => ?_) (ev_same (h4 (decide (W * H > 4096))) ?_)
          · simp only [vitrineref08_Right.j3]
            rw [if_neg (by decide), if_neg hw, if_neg hh, rgt_area a1 a2 a3 a4]
          · by_cases hz : W * H > 4096
            · rw [decide_eq_true hz, if_pos rfl, if_pos (.inr (.inr hz))]
            · rw [decide_eq_false hz, if_neg (by decide), if_neg (by omega)]
  have h2 : ∀ b : Bool, (b = true ↔ dep C D) → Ev (fun k => vitrineref08_Right.j2 k b W H D C L) (rgt W H D C L) := by
    intro b hb
    have bad : ¬ (1 ≤ W ∧ W ≤ 2147483647 ∧ 1 ≤ H ∧ H ≤ 2147483647 ∧ dep C D ∧ (L = 0 ∨ L = 1)) → Ev (fun k => vitrineref08_Right.j3 k true W H D C L) (rgt W H D C L) := fun hn =>
      ev_same (h3 true (fun e => by cases e)) (by unfold rgt; rw [if_neg hn, if_pos rfl])
    by_cases c1 : W < 1
    · refine Ev.step (fun k => ?_) (bad (by omega))
      simp only [vitrineref08_Right.j2]; rw [if_pos c1]
    · by_cases c2 : W > 2147483647
      · refine Ev.step (fun k => ?_) (bad (by omega))
        simp only [vitrineref08_Right.j2]; rw [if_neg c1, if_pos c2]
      · by_cases c3 : H < 1
        · refine Ev.step (fun k => ?_) (bad (by omega))
          simp only [vitrineref08_Right.j2]; rw [if_neg c1, if_neg c2, if_pos c3]
        · by_cases c4 : H > 2147483647
          · refine Ev.step (fun k => ?_) (bad (by omega))
            simp only [vitrineref08_Right.j2]; rw [if_neg c1, if_neg c2, if_neg c3, if_pos c4]
          · by_cases c5 : b = true
            · by_cases c6 : L = 0
              · refine Ev.step (fun k => ?_) (ev_same (h3 false (fun _ => by omega)) ?_)
                · simp only [vitrineref08_Right.j2]; rw [if_neg c1, if_neg c2, if_neg c3, if_neg c4, if_pos c5, if_pos c6]
                · unfold rgt; rw [if_neg (by decide), if_pos (show (1 ≤ W ∧ W ≤ 2147483647 ∧ 1 ≤ H ∧ H ≤ 2147483647 ∧ dep C D ∧ (L = 0 ∨ L = 1)) from ⟨by omega, by omega, by omega, by omega, hb.1 c5, .inl c6⟩)]
              · refine Ev.step (fun k => ?_) (ev_same (h3 (L != 1) (fun _ => by omega)) ?_)
                · simp only [vitrineref08_Right.j2]; rw [if_neg c1, if_neg c2, if_neg c3, if_neg c4, if_pos c5, if_neg c6]
                · unfold rgt
                  by_cases c7 : L = 1
                  · rw [if_neg (by simp [c7]), if_pos (show (1 ≤ W ∧ W ≤ 2147483647 ∧ 1 ≤ H ∧ H ≤ 2147483647 ∧ dep C D ∧ (L = 0 ∨ L = 1)) from ⟨by omega, by omega, by omega, by omega, hb.1 c5, .inr c7⟩)]
                  · rw [if_pos (by simpa using c7), if_neg (by omega)]
            · refine Ev.step (fun k => ?_) (bad (fun h => c5 (hb.2 h.2.2.2.2.1)))
              simp only [vitrineref08_Right.j2]; rw [if_neg c1, if_neg c2, if_neg c3, if_neg c4, if_neg c5]
  have h1 : ∀ b : Bool, C ≠ 0 → C ≠ 3 → (b = true ↔ (C = 2 ∨ C = 4 ∨ C = 6)) → Ev (fun k => vitrineref08_Right.j1 k D false b W H D C L) (rgt W H D C L) := by
    intro b n0 n3 hb
    by_cases c1 : b = true
    · have hc := hb.1 c1
      by_cases c2 : D = 8
      · refine Ev.step (fun k => ?_) (h2 true ⟨fun _ => Or.inr (Or.inr ⟨hc, Or.inl c2⟩), fun _ => rfl⟩)
        simp only [vitrineref08_Right.j1]; rw [if_pos c1, if_pos c2]
      · refine Ev.step (fun k => ?_) (h2 (D == 16) ?_)
        · simp only [vitrineref08_Right.j1]; rw [if_pos c1, if_neg c2]
        · unfold dep; rw [beq_iff_eq]; omega
    · refine Ev.step (fun k => ?_) (h2 false ?_)
      · simp only [vitrineref08_Right.j1]; rw [if_neg c1]
      · refine ⟨fun e => (by cases e), fun h => ?_⟩
        exact absurd (hb.2 (by unfold dep at h; omega)) c1
  have h0 : ∀ b : Bool, (b = true ↔ (D = 1 ∨ D = 2 ∨ D = 4)) → Ev (fun k => vitrineref08_Right.j0 k D b W H D C L) (rgt W H D C L) := by
    intro b hb
    by_cases c0 : C = 0
    · by_cases c1 : b = true
      · have := hb.1 c1
        refine Ev.step (fun k => ?_) (h2 true ⟨fun _ => .inl ⟨c0, by omega⟩, fun _ => rfl⟩)
        simp only [vitrineref08_Right.j0]; rw [if_pos c0, if_pos c1]
      · have hnb : ¬ (D = 1 ∨ D = 2 ∨ D = 4) := fun h => c1 (hb.2 h)
        by_cases c2 : D = 8
        · refine Ev.step (fun k => ?_) (h2 true ⟨fun _ => .inl ⟨c0, by omega⟩, fun _ => rfl⟩)
          simp only [vitrineref08_Right.j0]; rw [if_pos c0, if_neg c1, if_pos c2]
        · refine Ev.step (fun k => ?_) (h2 (D == 16) ?_)
          · simp only [vitrineref08_Right.j0]; rw [if_pos c0, if_neg c1, if_neg c2]
          · unfold dep; rw [beq_iff_eq]; omega
    · by_cases c3 : C = 3
      · by_cases c1 : b = true
        · have := hb.1 c1
          refine Ev.step (fun k => ?_) (h2 true ⟨fun _ => .inr (.inl ⟨c3, by omega⟩), fun _ => rfl⟩)
          simp only [vitrineref08_Right.j0]; rw [if_neg c0, if_pos c3, if_pos c1]
        · have hnb : ¬ (D = 1 ∨ D = 2 ∨ D = 4) := fun h => c1 (hb.2 h)
          refine Ev.step (fun k => ?_) (h2 (D == 8) ?_)
          · simp only [vitrineref08_Right.j0]; rw [if_neg c0, if_pos c3, if_neg c1]
          · unfold dep; rw [beq_iff_eq]; omega
      · by_cases c2 : C = 2
        · refine Ev.step (fun k => ?_) (h1 (C == 2) c0 c3 (by rw [beq_iff_eq]; omega))
          simp only [vitrineref08_Right.j0]; rw [if_neg c0, if_neg c3, if_pos c2]
        · by_cases c4 : C = 4
          · refine Ev.step (fun k => ?_) (h1 (C == 4) c0 c3 (by rw [beq_iff_eq]; omega))
            simp only [vitrineref08_Right.j0]; rw [if_neg c0, if_neg c3, if_neg c2, if_pos c4]
          · refine Ev.step (fun k => ?_) (h1 (C == 6) c0 c3 (by rw [beq_iff_eq]; omega))
            simp only [vitrineref08_Right.j0]; rw [if_neg c0, if_neg c3, if_neg c2, if_neg c4]
  unfold vitrineref08_Right.f
  by_cases d1 : D = 1
  · simp only [if_pos d1]; exact h0 true ⟨fun _ => .inl d1, fun _ => rfl⟩
  · simp only [if_neg d1]
    by_cases d2 : D = 2
    · simp only [if_pos d2]; exact h0 true ⟨fun _ => .inr (.inl d2), fun _ => rfl⟩
    · simp only [if_neg d2]; exact h0 (D == 4) (by rw [beq_iff_eq]; omega)
theorem awake_ev : Ev (fun k => vitrinelaw12_awake.f k) true := Ev.of vitrinelaw12_awake.mono (k := 200) (by unfold vitrinelaw12_awake.f; simp only [toList_data]; decide +kernel)
theorem awake_id : Ev (fun k => (vitrinelaw12_awake.f k).bind fun t => some t) true := ev_id awake_ev
def chk (W H : Int) (P : ByteArray) : Int := if rgt W H 16 6 0 = 0 then (if (P.size : Int) = wrap64 (wrap64 (8 * W) * H) then 0 else 24) else rgt W H 16 6 0
theorem check_ev (W H : Int) (P : ByteArray) : Ev (fun k => pixel_Check.f k W H P) (chk W H P) := by
  unfold pixel_Check.f pixel_full.f
  simp only [Option.bind_some]
  refine Ev.bind (Right_ev W H 16 6 0 (by omega)) ?_
  unfold chk
  split
  · split
    · exact Ev.now _
    · exact Ev.now _
  · exact Ev.now _
theorem rcheck_ev (W H : Int) (P : ByteArray) : Ev (fun k => vitrineref12_Check.f k W H P) (chk W H P) := by
  unfold vitrineref12_Check.f
  refine Ev.bind (rRight_ev W H 16 6 0) ?_
  unfold chk
  split
  · split
    · exact Ev.now _
    · exact Ev.now _
  · exact Ev.now _
theorem PixelChecks : ∀ (a0_0 : Int) (a0_1 : Int) (a0_2 : ByteArray), ((Lit.int .i64 a0_0).wf = true) → ((Lit.int .i64 a0_1).wf = true) → (a0_2.size ≤ 140737488351232) → ∃ k, vitrinelaw12_PixelChecks.f k a0_0 a0_1 a0_2 = some true := by
  intro W H P _ _ _
  refine Ev.rounds ?_
  unfold vitrinelaw12_PixelChecks.f
  refine Ev.bind (check_ev W H P) (Ev.bind (rcheck_ev W H P) ?_)
  simp only [if_true]
  exact awake_id

end Go.Proofs.Ytejljcglbkjgkaa.Pure
