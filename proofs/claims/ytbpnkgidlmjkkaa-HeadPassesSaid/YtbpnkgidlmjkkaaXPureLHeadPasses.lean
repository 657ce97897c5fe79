/- HeadPasses, plain: a chunk that need not be known changes nothing where it does not stand between IDATs. Conditions: lists as long as the model allows. -/
import Derived.Test.YtbpnkgidlmjkkaaXPL08x3
import Derived.Test.YtbpnkgidlmjkkaaXPL08x4
import Derived.Test.YtbpnkgidlmjkkaaXPL08x5
import Derived.Test.YtbpnkgidlmjkkaaXPL08x13
import Derived.Test.YtbpnkgidlmjkkaaXPL08x14
import Derived.Test.YtbpnkgidlmjkkaaXPL08x16
import Derived.Test.YtbpnkgidlmjkkaaXPL08x21
import Derived.Test.YtbpnkgidlmjkkaaXPL08x23
import Derived.Test.YtbpnkgidlmjkkaaXPL08S
import Derived.Test.YtbpnkgidlmjkkaaXWMore
import Derived.Laws.Strings
namespace Go.Proofs.Ytbpnkgidlmjkkaa.Pure
open Go.RowKit Go.Proofs.YtbpnkgidlmjkkaaW.PrintWords Go.Proofs.YtbpnkgidlmjkkaaW.PrintLast Go.Proofs.YtbpnkgidlmjkkaaW.PrintMore Go.Proofs.Ytbpnkgidlmjkkaa.PL08
set_option linter.unusedVariables false
set_option linter.unusedSimpArgs false
theorem w64 {x : Int} (h1 : -9223372036854775808 ≤ x) (h2 : x ≤ 9223372036854775807) : wrap64 x = x := by
  unfold wrap64
  omega
theorem w64_bt (s : ByteArray) (i : Int) : wrap64 (bt s i) = bt s i := by
  have := bt_range s i
  exact w64 (by omega) (by omega)
theorem ev_same {α : Type} {g : Nat → Option α} {r r' : α} (h : Ev g r) (e : r = r') : Ev g r' := e ▸ h
/-- The place of a number in a list, from place i on; -1: none. -/
def idx : List Int → Int → Nat → Int
  | [], _, _ => -1
  | x :: xs, v, i => if v = x then (i : Int) else idx xs v (i + 1)
theorem index_loop (l : List Int) (v : Int) (hl : l.length ≤ 4611686018427387904) : ∀ d i : Nat, i + d = l.length → Ev (fun k => slices_Index_int_int.l0 k l v (l.length : Int) (i : Int)) (idx (l.drop i) v i) := by
  intro d
  induction d with
  | zero =>
    intro i hi
    have e : l.drop i = [] := List.drop_of_length_le (by omega)
    rw [e]
    refine Ev.step (f := fun _ => some (-1)) (fun k => ?_) (Ev.now _)
    simp only [slices_Index_int_int.l0]
    rw [if_neg (by omega)]
  | succ d ih =>
    intro i hi
    have hlt : i < l.length := by omega
    have w1 : wrap64 ((i : Int) + 1) = ((i + 1 : Nat) : Int) := by rw [w64 (by omega) (by omega)]; rfl
    have hr : rd l (i : Int) = l[i] := by
      unfold rd
      rw [List.getD_eq_getElem?_getD, Int.toNat_natCast, List.getElem?_eq_getElem hlt]
      rfl
    rw [List.drop_eq_getElem_cons hlt]
    unfold idx
    by_cases h : v = l[i]
    · rw [if_pos h]
      refine Ev.step (f := fun _ => some (i : Int)) (fun k => ?_) (Ev.now _)
      simp only [slices_Index_int_int.l0]
      rw [if_pos (by omega), if_pos (by omega), if_pos (by omega), hr, if_pos h]
    · rw [if_neg h]
      refine Ev.step (fun k => ?_) (ih (i + 1) (by omega))
      simp only [slices_Index_int_int.l0]
      rw [if_pos (by omega), if_pos (by omega), if_pos (by omega), hr, if_neg h, w1]
theorem index_ev (l : List Int) (v : Int) (hl : l.length ≤ 4611686018427387904) : Ev (fun k => slices_Index_int_int.f k l v) (idx l v 0) := by
  unfold slices_Index_int_int.f
  exact index_loop l v hl l.length 0 (by omega)
theorem contains_ev (l : List Int) (v : Int) (hl : l.length ≤ 4611686018427387904) : Ev (fun k => slices_Contains_int_int.f k l v) (decide (idx l v 0 ≥ 0)) := by
  unfold slices_Contains_int_int.f
  exact Ev.bind (index_ev l v hl) (Ev.now _)
/-- The depths of a colour. -/
def dep (c d : Int) : Prop := (c = 0 ∧ (d = 1 ∨ d = 2 ∨ d = 4 ∨ d = 8 ∨ d = 16)) ∨ (c = 3 ∧ (d = 1 ∨ d = 2 ∨ d = 4 ∨ d = 8)) ∨ ((c = 2 ∨ c = 4 ∨ c = 6) ∧ (d = 8 ∨ d = 16))
instance (c d : Int) : Decidable (dep c d) := by unfold dep; infer_instance
/-- Which heads may be: 0; else what is wrong. -/
def rgt (W H D C L : Int) : Int := if 1 ≤ W ∧ W ≤ 2147483647 ∧ 1 ≤ H ∧ H ≤ 2147483647 ∧ dep C D ∧ (L = 0 ∨ L = 1) then (if W > 1024 ∨ H > 1024 ∨ W * H > 4096 then 5 else 0) else 24
theorem rgt_area {W H : Int} (h1 : 1 ≤ W) (h2 : W ≤ 2147483647) (h3 : 1 ≤ H) (h4 : H ≤ 2147483647) : wrap64 (W * H) = W * H := by
  have h5 : W * H ≤ 2147483647 * 2147483647 := Int.mul_le_mul h2 h4 (by omega) (by omega)
  have h6 : 0 ≤ W * H := Int.mul_nonneg (by omega) (by omega)
  exact w64 (by omega) (by omega)
theorem andNot1 {x : Int} (h1 : -9223372036854775808 ≤ x) (h2 : x ≤ 9223372036854775807) : (Go.bits .andNot .i64 x 1 != 0) = !decide (x = 0 ∨ x = 1) := by
  by_cases h0 : x = 0
  · subst h0; decide
  · by_cases h3 : x = 1
    · subst h3; decide
    · rw [decide_eq_false (by omega)]
      refine bne_iff_ne.mpr fun hz => ?_
      have e : Go.bits .andNot .i64 x 1 = IntKind.i64.wrap ((BitVec.ofInt 64 x &&& ~~~ BitVec.ofInt 64 1).toNat : Int) := rfl
      rw [e, IntKind.wrap_i64] at hz
      generalize hb : BitVec.ofInt 64 x = b at hz
      have hlt := (b &&& ~~~ BitVec.ofInt 64 1).isLt
      have hn : (b &&& ~~~ BitVec.ofInt 64 1).toNat = 0 := by omega
      have hv : b &&& ~~~ BitVec.ofInt 64 1 = 0#64 := BitVec.eq_of_toNat_eq hn
      have hs : b >>> 1 = 0#64 := by
        apply BitVec.eq_of_getLsbD_eq
        intro i hi
        rw [BitVec.getLsbD_ushiftRight]
        by_cases h63 : 1 + i < 64
        · have h4 : (b &&& ~~~ BitVec.ofInt 64 1).getLsbD (1 + i) = false := by rw [hv]; simp
          have h5 : (BitVec.ofInt 64 1).getLsbD (1 + i) = false := by
            show (1#64).getLsbD (1 + i) = false
            rw [BitVec.getLsbD_one]
            simp
          rw [BitVec.getLsbD_and, BitVec.getLsbD_not, h5] at h4
          simp only [h63, decide_true, Bool.not_false, Bool.and_true] at h4
          rw [h4]
          simp
        · simp [BitVec.getLsbD_of_ge b (1 + i) (by omega)]
      have h6 : (b >>> 1).toNat = 0 := by rw [hs]; rfl
      rw [BitVec.toNat_ushiftRight, Nat.shiftRight_eq_div_pow] at h6
      have h7 : b.toNat = (x % 18446744073709551616).toNat := by rw [← hb, BitVec.toNat_ofInt]; rfl
      omega
theorem side_f (n : Int) : head_side.f n = some (decide (1 ≤ n ∧ n ≤ 2147483647)) := by
  unfold head_side.f
  by_cases h : n ≥ 1
  · rw [if_pos h]
    congr 1
    by_cases h2 : n ≤ 2147483647
    · rw [decide_eq_true h2, decide_eq_true ⟨h, h2⟩]
    · rw [decide_eq_false h2, decide_eq_false (by omega)]
  · rw [if_neg h, decide_eq_false (by omega)]
/-- The list of a colour's depths. -/
def deps (c : Int) : List Int := if c = 0 then [1, 2, 4, 8, 16] else if c = 3 then [1, 2, 4, 8] else if c = 2 ∨ c = 4 ∨ c = 6 then [8, 16] else []
theorem depths_ev (c : Int) : Ev (fun k => head_depths.f k c) (deps c) := by
  have hj : ∀ b : Bool, Ev (fun k => head_depths.j0 k b) (if b = true then [8, 16] else []) := by
    intro b
    refine Ev.step (f := fun _ => some (if b = true then [8, 16] else [])) (fun k => ?_) (Ev.now _)
    simp only [head_depths.j0]
    cases b <;> rfl
  unfold head_depths.f deps
  by_cases h0 : c = 0
  · simp only [if_pos h0]; exact Ev.now _
  · simp only [if_neg h0]
    by_cases h3 : c = 3
    · simp only [if_pos h3]; exact Ev.now _
    · simp only [if_neg h3]
      by_cases h2 : c = 2
      · subst h2; exact ev_same (hj _) (by decide)
      · simp only [if_neg h2]
        by_cases h4 : c = 4
        · subst h4; exact ev_same (hj _) (by decide)
        · simp only [if_neg h4]
          refine ev_same (hj _) ?_
          by_cases h6 : c = 6
          · subst h6; decide
          · rw [if_neg (by simpa using h6), if_neg (by omega)]
theorem deps_has (c d : Int) : decide (idx (deps c) d 0 ≥ 0) = decide (dep c d) := by
  have key : ∀ (l : List Int) (i : Nat), (idx l d i ≥ 0 ↔ d ∈ l) := by
    intro l
    induction l with
    | nil => intro i; simp [idx]
    | cons x xs ih =>
      intro i
      unfold idx
      by_cases h : d = x
      · rw [if_pos h]; simp [h]
      · rw [if_neg h, ih]; simp [h]
  have h := key (deps c) 0
  have h2 : d ∈ deps c ↔ dep c d := by
    unfold deps dep
    by_cases h0 : c = 0
    · rw [if_pos h0]; simp; omega
    · rw [if_neg h0]
      by_cases h3 : c = 3
      · rw [if_pos h3]; simp; omega
      · rw [if_neg h3]
        by_cases h4 : c = 2 ∨ c = 4 ∨ c = 6
        · rw [if_pos h4]; simp; omega
        · rw [if_neg h4]; simp; omega
  rw [decide_eq_decide]
  exact h.trans h2
theorem Right_ev (W H D C L : Int) (hL : -9223372036854775808 ≤ L ∧ L ≤ 9223372036854775807) : Ev (fun k => head_Right.f k W H D C L) (rgt W H D C L) := by
  have hj1 : Ev (fun k => head_Right.j0 k true W H D C L) 24 := by
    refine Ev.step (f := fun _ => some 24) (fun k => ?_) (Ev.now _)
    simp only [head_Right.j0]
    rw [if_pos trivial]
  have hj0 : 1 ≤ W → W ≤ 2147483647 → 1 ≤ H → H ≤ 2147483647 → Ev (fun k => head_Right.j0 k false W H D C L) (if W > 1024 ∨ H > 1024 ∨ W * H > 4096 then 5 else 0) := by
    intro h1 h2 h3 h4
    refine Ev.step (f := fun _ => some (if W > 1024 ∨ H > 1024 ∨ W * H > 4096 then 5 else 0)) (fun k => ?_) (Ev.now _)
    simp only [head_Right.j0]
    rw [if_neg (by decide), rgt_area h1 h2 h3 h4]
    by_cases h5 : mx W H > 1024
    · rw [if_pos h5, if_pos (by unfold mx at h5; omega)]
    · rw [if_neg h5]
      by_cases h6 : W * H > 4096
      · rw [if_pos h6, if_pos (.inr (.inr h6))]
      · rw [if_neg h6, if_neg (by unfold mx at h5; omega)]
  unfold head_Right.f
  simp only [side_f, Option.bind_some]
  unfold rgt
  by_cases hW : 1 ≤ W ∧ W ≤ 2147483647
  · rw [decide_eq_true hW]
    simp only [if_true]
    by_cases hH : 1 ≤ H ∧ H ≤ 2147483647
    · rw [decide_eq_true hH]
      simp only [if_true]
      refine Ev.bind (depths_ev C) ?_
      refine Ev.bind (contains_ev (deps C) D (by unfold deps; split; simp; split; simp; split <;> simp)) ?_
      rw [deps_has]
      by_cases hd : dep C D
      · rw [decide_eq_true hd]
        simp only [if_true]
        rw [andNot1 hL.1 hL.2]
        by_cases hl : L = 0 ∨ L = 1
        · rw [decide_eq_true hl, if_pos ⟨hW.1, hW.2, hH.1, hH.2, hd, hl⟩]
          exact hj0 hW.1 hW.2 hH.1 hH.2
        · rw [decide_eq_false hl, if_neg (fun h => hl h.2.2.2.2.2)]
          exact hj1
      · rw [decide_eq_false hd, if_neg (fun h => hd h.2.2.2.2.1)]
        simp only [Bool.false_eq_true, if_false]
        exact hj1
    · rw [decide_eq_false hH, if_neg (fun h => hH ⟨h.2.2.1, h.2.2.2.1⟩)]
      simp only [Bool.false_eq_true, if_false]
      exact hj1
  · rw [decide_eq_false hW, if_neg (fun h => hW ⟨h.1, h.2.1⟩)]
    simp only [Bool.false_eq_true, if_false]
    exact hj1
theorem aw_id : Ev (fun _ : Nat => (vitrinelaw08_awake.f).bind fun t => some t) true := Ev.now _
theorem crit_some (ty : ByteArray) : ∃ b, chunk_Critical.f ty = some b := by
  unfold chunk_Critical.f
  by_cases h : ty.toList = ([] : List UInt8)
  · exact ⟨false, by rw [if_pos h]⟩
  · rw [if_neg h]
    have h1 : 0 < (ty.size : Int) := by
      have : ty.size ≠ 0 := fun e => h (by rw [ByteArray.size_eq_zero_iff.1 e]; simp)
      omega
    rw [if_pos h1]
    unfold chunk_capital.f
    by_cases h2 : bt ty 0 ≥ 65
    · rw [if_pos h2]; exact ⟨_, rfl⟩
    · rw [if_neg h2]; exact ⟨_, rfl⟩
theorem loop_some : ∀ (l : List S30) (s : HSt), ∃ r, head_loop l s = some r
  | [], s => ⟨_, rfl⟩
  | c :: r, s => by
    unfold head_loop
    by_cases h : c.f0.toList = [73, 69, 78, 68]
    · rw [if_pos h]
      by_cases h2 : endsV s c.f1 (r.length : Int) = 0
      · rw [if_pos h2]; exact ⟨_, rfl⟩
      · rw [if_neg h2]; exact ⟨_, rfl⟩
    · rw [if_neg h]
      obtain ⟨b, hb⟩ := crit_some c.f0
      rw [hb, Option.bind_some]
      by_cases h2 : (takesV s b c.f0 c.f1).1 = 0
      · rw [if_pos h2]; exact loop_some r _
      · rw [if_neg h2]; exact ⟨_, rfl⟩
theorem first_ev (ty d : ByteArray) : ∃ p, Ev (fun k => firstV k ty d) p := by
  unfold firstV
  by_cases t : ty.toList = [73, 72, 68, 82]
  · simp only [if_pos t]
    by_cases u : (d.size : Int) = 13 ∧ bt d 10 = 0 ∧ bt d 11 = 0
    · simp only [if_pos u]
      have hb := bt_range d 12
      have hr := Right_ev (numV d) (numV (d.extract 4 d.size)) (wrap64 (bt d 8)) (wrap64 (bt d 9)) (wrap64 (bt d 12)) (by rw [w64_bt]; omega)
      exact ⟨_, Ev.bind hr (Ev.now _)⟩
    · simp only [if_neg u]; exact ⟨_, Ev.now _⟩
  · simp only [if_neg t]; exact ⟨_, Ev.now _⟩
/-- What is read: the first chunk's answer, then the loop's. -/
theorem read_ev (c : S30) (r : List S30) (p : Int × Int × Int × Int × Int × Int) (q : HOut) (hp : Ev (fun k => firstV k c.f0 c.f1) p) (hq : (if p.2.2.2.2.2 = 0 then head_loop r (st0 p.1 p.2.1 p.2.2.1 p.2.2.2.1 p.2.2.2.2.1) else some (outE p.2.2.2.2.2)) = some q) : Ev (fun k => readV k (c :: r)) q := by
  unfold readV
  exact Ev.bind hp ⟨0, fun _ _ => hq⟩
def outT (r : HOut) : Int × Int × Int × Int × Int × ByteArray × ByteArray × Bool × ByteArray × Int := (r.W, r.H, r.D, r.C, r.L, r.pal, r.tr, r.ht, r.data, r.e)
theorem Read_ev (l : List S30) (q : HOut) (h1 : l.length ≤ 4611686018427387904) (h2 : szs l ≤ 140737488355328) (h : Ev (fun k => readV k l) q) : Ev (fun k => head_Read.f k l) (outT q) := by
  unfold head_Read.f
  simp only [if_pos (show l.length ≤ 4611686018427387904 ∧ szs l ≤ 140737488355328 from ⟨h1, h2⟩)]
  exact Ev.bind h (Ev.now _)
theorem szs_append : ∀ (l m : List S30), szs (l ++ m) = szs l + szs m
  | [], m => (Nat.zero_add _).symm
  | c :: r, m => by
    show c.f1.size + szs (r ++ m) = c.f1.size + szs r + szs m
    rw [szs_append r m]
    omega
theorem rdT_get {l : List S30} {i : Nat} (h : i < l.length) : rd_T30 l (i : Int) = l[i] := by
  unfold rd_T30
  rw [Int.toNat_natCast, List.getD_eq_getElem?_getD, List.getElem?_eq_getElem h]
  rfl
theorem few_l0 (l : List S30) (hl : l.length ≤ 4398046511104) (hz : ∀ c ∈ l, c.f1.size ≤ 140737488351232) : ∀ (d i n : Nat), l.length - i = d → i ≤ l.length → n ≤ 100000 → ∃ b, Ev (fun k => vitrinelaw08_few.l0 k l (n : Int) (i : Int)) b ∧ (b = true → n + 12 * d + szs (l.drop i) ≤ 100000)
  | 0, i, n, hd, hi, hn => by
    refine ⟨true, Ev.step (f := fun _ => some true) (fun k => ?_) (Ev.now _), fun _ => ?_⟩
    · simp only [vitrinelaw08_few.l0]
      rw [if_neg (by omega)]
    · rw [List.drop_of_length_le (by omega)]
      show n + 12 * 0 + 0 ≤ _
      omega
  | d + 1, i, n, hd, hi, hn => by
    have hlt : i < l.length := by omega
    have hc := hz _ (List.getElem_mem hlt)
    have he : l.drop i = l[i] :: l.drop (i + 1) := List.drop_eq_getElem_cons hlt
    have w1 : wrap64 ((wrap64 ((n : Int) + 12)) + ((l[i]).f1.size : Int)) = ((n + 12 + (l[i]).f1.size : Nat) : Int) := by
      rw [w64 (x := (n : Int) + 12) (by omega) (by omega), w64 (by omega) (by omega)]
      omega
    have w2 : wrap64 ((i : Int) + 1) = ((i + 1 : Nat) : Int) := by
      rw [w64 (by omega) (by omega)]
      omega
    by_cases hb : n + 12 + (l[i]).f1.size > 100000
    · refine ⟨false, Ev.step (f := fun _ => some false) (fun k => ?_) (Ev.now _), fun h => by cases h⟩
      simp only [vitrinelaw08_few.l0]
      rw [if_pos (by omega), if_pos (by omega), rdT_get hlt, w1, if_pos (by omega)]
    · obtain ⟨b, h1, h2⟩ := few_l0 l hl hz d (i + 1) (n + 12 + (l[i]).f1.size) (by omega) (by omega) (by omega)
      refine ⟨b, Ev.step (fun k => ?_) h1, fun h => ?_⟩
      · simp only [vitrinelaw08_few.l0]
        rw [if_pos (by omega), if_pos (by omega), rdT_get hlt, w1, if_neg (by omega), w2]
      · have := h2 h
        rw [he]
        show n + 12 * (d + 1) + ((l[i]).f1.size + szs (l.drop (i + 1))) ≤ _
        omega
theorem few_ev (l : List S30) (hl : l.length ≤ 4398046511104) (hz : ∀ c ∈ l, c.f1.size ≤ 140737488351232) : ∃ b, Ev (fun k => vitrinelaw08_few.f k l) b ∧ (b = true → 12 * l.length + szs l ≤ 100000) := by
  obtain ⟨b, h1, h2⟩ := few_l0 l hl hz l.length 0 0 (by omega) (by omega) (by omega)
  exact ⟨b, h1, fun h => by have := h2 h; rw [List.drop_zero] at this; omega⟩
theorem late_same {s : HSt} (h : s.gap = s.idat) : s.late = s := by
  cases s
  simp only [HSt.late] at h ⊢
  rw [← h]
theorem plte_late (s : HSt) (d : ByteArray) : (plteV s.late d).1 = (plteV s d).1 ∧ (plteV s.late d).2.late = (plteV s d).2.late := by
  have e : ∀ p : Prop, [Decidable p] → ∀ a b a' b' : Int × HSt, (p → a.1 = a'.1 ∧ a.2.late = a'.2.late) → (¬ p → b.1 = b'.1 ∧ b.2.late = b'.2.late) → (if p then a else b).1 = (if p then a' else b').1 ∧ (if p then a else b).2.late = (if p then a' else b').2.late := by
    intro p _ a b a' b' h1 h2
    by_cases h : p
    · rw [if_pos h, if_pos h]; exact h1 h
    · rw [if_neg h, if_neg h]; exact h2 h
  unfold plteV
  repeat' (refine e _ _ _ _ _ (fun _ => ?_) (fun _ => ?_))
  all_goals exact ⟨rfl, rfl⟩
theorem trns_late (s : HSt) (d : ByteArray) : (trnsV s.late d).1 = (trnsV s d).1 ∧ (trnsV s.late d).2.late = (trnsV s d).2.late := by
  have e : ∀ p : Prop, [Decidable p] → ∀ a b a' b' : Int × HSt, (p → a.1 = a'.1 ∧ a.2.late = a'.2.late) → (¬ p → b.1 = b'.1 ∧ b.2.late = b'.2.late) → (if p then a else b).1 = (if p then a' else b').1 ∧ (if p then a else b).2.late = (if p then a' else b').2.late := by
    intro p _ a b a' b' h1 h2
    by_cases h : p
    · rw [if_pos h, if_pos h]; exact h1 h
    · rw [if_neg h, if_neg h]; exact h2 h
  unfold trnsV
  repeat' (refine e _ _ _ _ _ (fun _ => ?_) (fun _ => ?_))
  all_goals exact ⟨rfl, rfl⟩
theorem takes_late (s : HSt) (cr : Bool) (ty d : ByteArray) (h : ¬ ty.toList = [73, 68, 65, 84]) : takesV s.late cr ty d = takesV s cr ty d := by
  unfold takesV
  by_cases h1 : ty.toList = [73, 72, 68, 82]
  · rw [if_pos h1, if_pos h1]; rfl
  rw [if_neg h1, if_neg h1]
  by_cases h2 : ty.toList = [80, 76, 84, 69]
  · rw [if_pos h2, if_pos h2, (plte_late s d).1, (plte_late s d).2]
  rw [if_neg h2, if_neg h2]
  by_cases h3 : ty.toList = [116, 82, 78, 83]
  · rw [if_pos h3, if_pos h3, (trns_late s d).1, (trns_late s d).2]
  rw [if_neg h3, if_neg h3, if_neg h, if_neg h]
  by_cases h4 : cr = true
  · rw [if_pos h4, if_pos h4]; rfl
  · rw [if_neg h4, if_neg h4]; rfl
/-- Behind a chunk that is no IDAT the gap is told. -/
theorem takes_gap (s : HSt) (cr : Bool) (ty d : ByteArray) (h : ¬ ty.toList = [73, 68, 65, 84]) : (takesV s cr ty d).2.gap = (takesV s cr ty d).2.idat := by
  unfold takesV
  repeat' split
  all_goals first | rfl | contradiction
def zz (d : ByteArray) : S30 := ⟨(⟨#[122, 122, 90, 90]⟩ : ByteArray), d⟩
theorem zz_l : (⟨#[122, 122, 90, 90]⟩ : ByteArray).toList = [122, 122, 90, 90] := by kernel_rfl
theorem zz_c : chunk_Critical.f (⟨#[122, 122, 90, 90]⟩ : ByteArray) = some false := by kernel_rfl
theorem zz_loop (d : ByteArray) (r : List S30) (s : HSt) : head_loop (zz d :: r) s = head_loop r s.late := by
  have ht : takesV s false (zz d).f0 (zz d).f1 = (0, s.late) := by
    unfold takesV zz
    rw [zz_l, if_neg (by decide), if_neg (by decide), if_neg (by decide), if_neg (by decide), if_neg (by decide)]
  rw [head_loop, if_neg (by show ¬ (⟨#[122, 122, 90, 90]⟩ : ByteArray).toList = _; rw [zz_l]; decide), show (zz d).f0 = (⟨#[122, 122, 90, 90]⟩ : ByteArray) from rfl, zz_c, Option.bind_some, show takesV s false (⟨#[122, 122, 90, 90]⟩ : ByteArray) (zz d).f1 = (0, s.late) from ht, if_pos rfl]
/-- No IDAT stands first. -/
def noD (l : List S30) : Prop := ∀ c, l.head? = some c → ¬ c.f0.toList = [73, 68, 65, 84]
theorem loop_late (post : List S30) (s : HSt) (h : s.gap = s.idat ∨ noD post) : head_loop post s.late = head_loop post s := by
  rcases h with h | h
  · rw [late_same h]
  · cases post with
    | nil => rfl
    | cons c r =>
      rw [head_loop, head_loop]
      have hc := h c rfl
      by_cases h1 : c.f0.toList = [73, 69, 78, 68]
      · rw [if_pos h1, if_pos h1]
        rfl
      · rw [if_neg h1, if_neg h1]
        obtain ⟨b, hb⟩ := crit_some c.f0
        rw [hb, Option.bind_some, Option.bind_some, takes_late s b c.f0 c.f1 hc]
theorem pass_loop (d : ByteArray) (post : List S30) : ∀ (pre : List S30) (s : HSt), (∀ c ∈ pre, ¬ c.f0.toList = [73, 69, 78, 68]) → (pre = [] → s.gap = s.idat ∨ noD post) → (∀ c, pre.getLast? = some c → c.f0.toList = [73, 68, 65, 84] → noD post) → head_loop (pre ++ zz d :: post) s = head_loop (pre ++ post) s
  | [], s, _, h2, _ => by
    rw [List.nil_append, List.nil_append, zz_loop]
    exact loop_late post s (h2 rfl)
  | c :: pre, s, h1, h2, h3 => by
    rw [List.cons_append, List.cons_append, head_loop, head_loop]
    have hc := h1 c List.mem_cons_self
    rw [if_neg hc, if_neg hc]
    obtain ⟨b, hb⟩ := crit_some c.f0
    rw [hb, Option.bind_some, Option.bind_some]
    by_cases h0 : (takesV s b c.f0 c.f1).1 = 0
    · rw [if_pos h0, if_pos h0]
      refine pass_loop d post pre _ (fun x hx => h1 x (List.mem_cons_of_mem _ hx)) (fun e => ?_) (fun x hx hd => ?_)
      · subst e
        by_cases hd : c.f0.toList = [73, 68, 65, 84]
        · exact .inr (h3 c rfl hd)
        · exact .inl (takes_gap s b c.f0 c.f1 hd)
      · refine h3 x ?_ hd
        cases pre with
        | nil => cases hx
        | cons y ys => rw [List.getLast?_cons_cons]; exact hx
    · rw [if_neg h0, if_neg h0]
/-- A list with the chunk between its parts is read as it is without. -/
theorem pass_read (d : ByteArray) (pre post : List S30) (hp : pre ≠ []) (h1 : ∀ c ∈ pre, ¬ c.f0.toList = [73, 69, 78, 68]) (h2 : ∀ c, pre.getLast? = some c → c.f0.toList = [73, 68, 65, 84] → noD post) : ∃ q, Ev (fun k => readV k (pre ++ post)) q ∧ Ev (fun k => readV k (pre ++ zz d :: post)) q := by
  cases pre with
  | nil => exact absurd rfl hp
  | cons c pre =>
    obtain ⟨p, hpv⟩ := first_ev c.f0 c.f1
    obtain ⟨r, hr⟩ := loop_some (pre ++ post) (st0 p.1 p.2.1 p.2.2.1 p.2.2.2.1 p.2.2.2.2.1)
    have hr2 : head_loop (pre ++ zz d :: post) (st0 p.1 p.2.1 p.2.2.1 p.2.2.2.1 p.2.2.2.2.1) = some r := by
      rw [← hr]
      refine pass_loop d post pre _ (fun x hx => h1 x (List.mem_cons_of_mem _ hx)) (fun _ => .inl rfl) (fun x hx hd => ?_)
      refine h2 x ?_ hd
      cases pre with
      | nil => cases hx
      | cons y ys => rw [List.getLast?_cons_cons]; exact hx
    by_cases he : p.2.2.2.2.2 = 0
    · exact ⟨r, read_ev c _ p r hpv (by rw [if_pos he]; exact hr), read_ev c _ p r hpv (by rw [if_pos he]; exact hr2)⟩
    · exact ⟨_, read_ev c _ p _ hpv (by rw [if_neg he]), read_ev c _ p _ hpv (by rw [if_neg he])⟩
/-- The place, at least 1 and at most the length. -/
theorem place (a : Int) (n : Nat) (hn : 0 < n) (hm : n ≤ 4398046511104) : ∃ m : Nat, 1 ≤ m ∧ m ≤ n ∧ wrap64 (1 + (Int.tmod (wrap64 ((Int.tmod a (n : Int)) + (n : Int))) (n : Int))) = (m : Int) := by
  have h1 : -(n : Int) < Int.tmod a (n : Int) ∧ Int.tmod a (n : Int) < (n : Int) := by
    have h := Int.natAbs_tmod a (n : Int)
    have h2 : a.natAbs % n < n := Nat.mod_lt _ hn
    rw [Int.natAbs_natCast] at h
    omega
  generalize Int.tmod a (n : Int) = t at h1 ⊢
  rw [w64 (x := t + (n : Int)) (by omega) (by omega)]
  have h3 : 0 ≤ Int.tmod (t + (n : Int)) (n : Int) ∧ Int.tmod (t + (n : Int)) (n : Int) < (n : Int) := ⟨Int.tmod_nonneg _ (by omega), Int.tmod_lt_of_pos _ (by omega)⟩
  generalize Int.tmod (t + (n : Int)) (n : Int) = u at h3 ⊢
  refine ⟨(1 + u).toNat, by omega, by omega, ?_⟩
  rw [w64 (by omega) (by omega)]
  omega
theorem pass_end (l : List S30) (d : ByteArray) (m : Nat) (h1 : 1 ≤ m) (h2 : m ≤ l.length) (hz : 12 * l.length + szs l ≤ 100000) (hd : d.size ≤ 1000) (hE : ∀ c ∈ l.take m, ¬ c.f0.toList = [73, 69, 78, 68]) (hD : ∀ c, (l.take m).getLast? = some c → c.f0.toList = [73, 68, 65, 84] → noD (l.drop m)) :
    ∃ t, Ev (fun k => head_Read.f k l) t ∧ Ev (fun k => head_Read.f k ((l.take m ++ [zz d]) ++ l.drop m)) t := by
  have hp : l.take m ≠ [] := fun e => by have h := congrArg List.length e; rw [List.length_take, List.length_nil, Nat.min_eq_left h2] at h; omega
  obtain ⟨q, q1, q2⟩ := pass_read d (l.take m) (l.drop m) hp hE hD
  rw [List.take_append_drop] at q1
  have e2 : l.take m ++ zz d :: l.drop m = (l.take m ++ [zz d]) ++ l.drop m := by rw [List.append_assoc]; rfl
  rw [e2] at q2
  have hs : szs ((l.take m ++ [zz d]) ++ l.drop m) = szs l + d.size := by
    rw [szs_append, szs_append]
    have e : szs l = szs (l.take m) + szs (l.drop m) := by rw [← szs_append, List.take_append_drop]
    have e1 : szs [zz d] = d.size := Nat.add_zero _
    omega
  have hl : ((l.take m ++ [zz d]) ++ l.drop m).length = l.length + 1 := by
    rw [List.length_append, List.length_append, List.length_take, List.length_drop]
    show min m l.length + 1 + (l.length - m) = _
    omega
  exact ⟨_, Read_ev l q (by omega) (by omega) q1, Read_ev ((l.take m ++ [zz d]) ++ l.drop m) q (by rw [hl]; omega) (by rw [hs]; omega) q2⟩
theorem passes_l0 (l : List S30) (d : ByteArray) (m : Nat) (h1 : 1 ≤ m) (h2 : m ≤ l.length) (hz : 12 * l.length + szs l ≤ 100000) (hd : d.size ≤ 1000) (hD : ∀ c, (l.take m).getLast? = some c → c.f0.toList = [73, 68, 65, 84] → noD (l.drop m)) :
    ∀ (e i : Nat), i + e = m - 1 → (∀ c ∈ l.take i, ¬ c.f0.toList = [73, 69, 78, 68]) → Ev (fun k => vitrinelaw08_HeadPasses.l0 k l d (m : Int) (i : Int)) true
  | 0, i, hi, hE => by
    have w1 : wrap64 ((m : Int) - 1) = ((m - 1 : Nat) : Int) := by rw [w64 (by omega) (by omega)]; omega
    have hlt : m - 1 < l.length := by omega
    by_cases hc : (l[m - 1]).f0.toList = [73, 69, 78, 68]
    · refine Ev.step (fun k => ?_) aw_id
      simp only [vitrinelaw08_HeadPasses.l0]
      rw [w1, if_neg (by omega), if_pos (by omega), if_pos (by omega), rdT_get hlt, if_pos hc]
    · have hE2 : ∀ c ∈ l.take m, ¬ c.f0.toList = [73, 69, 78, 68] := by
        have e : l.take m = l.take i ++ [l[m - 1]] := by
          have hi' : i = m - 1 := by omega
          subst hi'
          rw [← List.take_succ_eq_append_getElem hlt, Nat.sub_add_cancel h1]
        intro c hc2
        rw [e] at hc2
        rcases List.mem_append.1 hc2 with h | h
        · exact hE c h
        · rw [List.mem_singleton.1 h]; exact hc
      obtain ⟨t, t1, t2⟩ := pass_end l d m h1 h2 hz hd hE2 hD
      refine Ev.step (f := fun k => (head_Read.f k l).bind fun bt285 => ((head_Read.f k ((l.take m ++ [zz d]) ++ l.drop m)).bind fun bt296 => (if ((bt285.1 == bt296.1 && (bt285.2.1 == bt296.2.1 && (bt285.2.2.1 == bt296.2.2.1 && (bt285.2.2.2.1 == bt296.2.2.2.1 && (bt285.2.2.2.2.1 == bt296.2.2.2.2.1))))) && (bt285.2.2.2.2.2.1.toList == bt296.2.2.2.2.2.1.toList && (bt285.2.2.2.2.2.2.1.toList == bt296.2.2.2.2.2.2.1.toList && (bt285.2.2.2.2.2.2.2.1 == bt296.2.2.2.2.2.2.2.1)))) = true then (if bt285.2.2.2.2.2.2.2.2.1.toList = bt296.2.2.2.2.2.2.2.2.1.toList then (if bt285.2.2.2.2.2.2.2.2.2 = bt296.2.2.2.2.2.2.2.2.2 then ((vitrinelaw08_awake.f).bind fun t307 => (some t307)) else (some false)) else (some false)) else (some false)))) (fun k => ?_) ?_
      · simp only [vitrinelaw08_HeadPasses.l0]
        rw [w1, if_neg (by omega), if_pos (by omega), if_pos (by omega), rdT_get hlt, if_neg hc, if_pos (by omega), if_pos (by omega)]
        simp only [Int.toNat_natCast, Option.bind_some, List.nil_append]
        rw [if_pos (by rw [List.length_take]; simp; omega), if_pos (by rw [List.length_take]; omega), if_pos (by rw [List.length_append, List.length_take, List.length_drop]; simp; omega)]
        rfl
      · refine Ev.bind t1 (Ev.bind t2 ?_)
        simp only [beq_self_eq_true, Bool.and_self, if_true]
        exact aw_id
  | e + 1, i, hi, hE => by
    have w1 : wrap64 ((m : Int) - 1) = ((m - 1 : Nat) : Int) := by rw [w64 (by omega) (by omega)]; omega
    have hlt : i < l.length := by omega
    have w2 : wrap64 ((i : Int) + 1) = ((i + 1 : Nat) : Int) := by rw [w64 (by omega) (by omega)]; omega
    by_cases hc : (l[i]).f0.toList = [73, 69, 78, 68]
    · refine Ev.step (fun k => ?_) aw_id
      simp only [vitrinelaw08_HeadPasses.l0]
      rw [w1, if_pos (by omega), if_pos (by omega), if_pos (by omega), rdT_get hlt, if_pos hc]
    · refine Ev.step (fun k => ?_) (passes_l0 l d m h1 h2 hz hd hD e (i + 1) (by omega) (fun c hc2 => ?_))
      · simp only [vitrinelaw08_HeadPasses.l0]
        rw [w1, if_pos (by omega), if_pos (by omega), if_pos (by omega), rdT_get hlt, if_neg hc, w2]
      · rw [List.take_succ_eq_append_getElem hlt] at hc2
        rcases List.mem_append.1 hc2 with h | h
        · exact hE c h
        · rw [List.mem_singleton.1 h]; exact hc
theorem passes_j1 (l : List S30) (d : ByteArray) (m : Nat) (h1 : 1 ≤ m) (h2 : m ≤ l.length) (hz : 12 * l.length + szs l ≤ 100000) (hd : d.size ≤ 1000) (b : Bool) (hb : b = false → ∀ c, (l.take m).getLast? = some c → c.f0.toList = [73, 68, 65, 84] → noD (l.drop m)) : Ev (fun k => vitrinelaw08_HeadPasses.j1 k l d (m : Int) b) true := by
  cases b with
  | true =>
    refine Ev.step (fun k => ?_) aw_id
    simp only [vitrinelaw08_HeadPasses.j1, if_true]
  | false =>
    refine Ev.step (fun k => ?_) (passes_l0 l d m h1 h2 hz hd (hb rfl) (m - 1) 0 (by omega) (fun c hc => by simp at hc))
    simp only [vitrinelaw08_HeadPasses.j1, Bool.false_eq_true, if_false]
    rfl
theorem last_take (l : List S30) (m : Nat) (h1 : 1 ≤ m) (h2 : m ≤ l.length) : (l.take m).getLast? = some (l[m - 1]'(by omega)) := by
  rw [List.getLast?_eq_getElem?, List.length_take, Nat.min_eq_left h2, List.getElem?_take_of_lt (by omega), List.getElem?_eq_getElem (by omega)]
theorem HeadPasses : ∀ (l0 : List (S30)) (a1 : Int) (a2 : ByteArray), (l0.length ≤ maxLen ∧ l0.length * 32 ≤ 140737488351232 ∧ ∀ y_ ∈ l0, okS30 y_) → ((Lit.int .i64 a1).wf = true) → (a2.size ≤ 140737488351232) → ∃ k, vitrinelaw08_HeadPasses.f k l0 a1 a2 = some true := by
  intro l a d hl _ _
  refine Ev.rounds ?_
  unfold vitrinelaw08_HeadPasses.f
  obtain ⟨b, b1, b2⟩ := few_ev l (by omega) (fun c hc => (hl.2.2 c hc).2)
  refine Ev.bind b1 ?_
  have hj : ∀ x, Ev (fun k => vitrinelaw08_HeadPasses.j0 k l a x true) true := by
    intro x
    refine Ev.step (fun k => ?_) aw_id
    simp only [vitrinelaw08_HeadPasses.j0, if_true]
  cases b with
  | false =>
    simp only [Bool.false_eq_true, if_false]
    exact hj d
  | true =>
    have hz := b2 rfl
    simp only [if_true]
    by_cases h0 : (l.length : Int) = 0
    · simp only [if_pos h0]
      exact hj d
    · simp only [if_neg h0]
      by_cases hd : (d.size : Int) > 1000
      · rw [decide_eq_true hd]
        exact hj d
      · rw [decide_eq_false hd]
        obtain ⟨m, m1, m2, hm⟩ := place a l.length (by omega) (by omega)
        by_cases hlt : m < l.length
        · by_cases hc : (l[m]).f0.toList = [73, 68, 65, 84]
          · refine Ev.step (fun k => ?_) (passes_j1 l d m m1 m2 hz (by omega) ((l[m - 1]).f0.toList == [73, 68, 65, 84]) (fun hb c hc1 hc2 => ?_))
            · simp only [vitrinelaw08_HeadPasses.j0, Bool.false_eq_true, if_false]
              rw [if_neg h0, hm, if_pos (by omega), if_pos (by omega), rdT_get hlt, if_pos hc, show wrap64 ((m : Int) - 1) = ((m - 1 : Nat) : Int) from by rw [w64 (by omega) (by omega)]; omega, if_pos (by omega), if_pos (by omega), rdT_get (show m - 1 < l.length by omega)]
            · rw [last_take l m m1 m2] at hc1
              cases hc1
              rw [hc2] at hb
              simp at hb
          · refine Ev.step (fun k => ?_) (passes_j1 l d m m1 m2 hz (by omega) false (fun _ c _ _ x hx => ?_))
            · simp only [vitrinelaw08_HeadPasses.j0, Bool.false_eq_true, if_false]
              rw [if_neg h0, hm, if_pos (by omega), if_pos (by omega), rdT_get hlt, if_neg hc]
            · rw [List.head?_drop, List.getElem?_eq_getElem hlt] at hx
              cases hx
              exact hc
        · refine Ev.step (fun k => ?_) (passes_j1 l d m m1 m2 hz (by omega) false (fun _ c _ _ x hx => ?_))
          · simp only [vitrinelaw08_HeadPasses.j0, Bool.false_eq_true, if_false]
            rw [if_neg h0, hm, if_neg (by omega)]
          · rw [List.drop_of_length_le (by omega)] at hx
            cases hx

end Go.Proofs.Ytbpnkgidlmjkkaa.Pure
