/- HeadLays, plain: what a head's chunk is, as the document's answer says. No condition. -/
import Derived.Test.YtbpnkgidlmjkkaaPL08x3
import Derived.Test.YtbpnkgidlmjkkaaPL08x4
import Derived.Test.YtbpnkgidlmjkkaaPL08x5
import Derived.Test.YtbpnkgidlmjkkaaPL08x7
import Derived.Test.YtbpnkgidlmjkkaaPL08x13
import Derived.Test.YtbpnkgidlmjkkaaPL08x14
import Derived.Test.YtbpnkgidlmjkkaaPL08x16
import Derived.Test.YtbpnkgidlmjkkaaPL08x18
import Derived.Test.YtbpnkgidlmjkkaaPL08x19
import Derived.Test.YtbpnkgidlmjkkaaPL08x20
import Derived.Test.YtbpnkgidlmjkkaaPL08x21
import Derived.Test.YtbpnkgidlmjkkaaWMore
import Derived.Laws.Strings
namespace Go.Proofs.Ytbpnkgidlmjkkaa.Pure
open Go.RowKit Go.Proofs.YtbpnkgidlmjkkaaW.PrintWords Go.Proofs.YtbpnkgidlmjkkaaW.PrintLast Go.Proofs.YtbpnkgidlmjkkaaW.PrintMore Go.Proofs.Ytbpnkgidlmjkkaa.PL08
set_option linter.unusedVariables false
set_option linter.unusedSimpArgs false
theorem w64 {x : Int} (h1 : -9223372036854775808 ≤ x) (h2 : x ≤ 9223372036854775807) : wrap64 x = x := by
  unfold wrap64
  omega
theorem w64_bt (s : ByteArray) (i : Int) : wrap64 (bt s i) = bt s i := by
  have := bt_range s i
  exact w64 (by omega) (by omega)
theorem wf_i64 {x : Int} (h : (Lit.int .i64 x).wf = true) : -9223372036854775808 ≤ x ∧ x ≤ 9223372036854775807 := by
  simpa [Lit.wf, IntKind.min, IntKind.max, IntKind.signed, IntKind.bits] using h
theorem wf_u8 {x : Int} (h : (Lit.int .u8 x).wf = true) : 0 ≤ x ∧ x ≤ 255 := by
  simpa [Lit.wf, IntKind.min, IntKind.max, IntKind.signed, IntKind.bits] using h
/-- A list of bytes. -/
def Byt (xs : List Int) : Prop := ∀ x ∈ xs, 0 ≤ x ∧ x ≤ 255
theorem byt_rd {xs : List Int} (h : Byt xs) (i : Int) : 0 ≤ rd xs i ∧ rd xs i ≤ 255 := by
  unfold rd
  rw [List.getD_eq_getElem?_getD]
  cases e : xs[i.toNat]? with
  | none => simp
  | some x => exact h x (List.mem_of_getElem? e)
theorem bt_str {xs : List Int} (h : Byt xs) (i : Int) : bt (strOfNums xs) i = rd xs i := by
  unfold bt rd
  rw [List.getD_eq_getElem?_getD]
  by_cases hi : i.toNat < xs.length
  · have h1 : i.toNat < (strOfNums xs).size := by rw [strOfNums_size]; exact hi
    rw [dif_pos h1, List.getElem?_eq_getElem hi]
    have h2 := h _ (List.getElem_mem hi)
    have h3 : (strOfNums xs)[i.toNat]'h1 = UInt8.ofNat (xs[i.toNat]).toNat := by
      show (strOfNums xs).data[i.toNat]'_ = _
      simp [strOfNums]
    rw [h3]
    simp only [Option.getD_some, UInt8.toNat_ofNat']
    omega
  · have h1 : ¬ i.toNat < (strOfNums xs).size := by rw [strOfNums_size]; exact hi
    rw [dif_neg h1, List.getElem?_eq_none (by omega)]
    rfl
theorem str_bytes (s : ByteArray) : strOfNums (bytesOf s) = s := by
  cases s with
  | mk d =>
    unfold strOfNums bytesOf
    congr 1
    rw [List.map_map, show ((fun n : Int => UInt8.ofNat n.toNat) ∘ fun b : UInt8 => (b.toNat : Int)) = id from by funext b; simp]
    simp
theorem bytesOf_byt (s : ByteArray) : Byt (bytesOf s) := by
  intro x hx
  unfold bytesOf at hx
  obtain ⟨b, _, rfl⟩ := List.mem_map.1 hx
  have := b.toNat_lt
  omega
theorem bytesOf_str {xs : List Int} (h : Byt xs) : bytesOf (strOfNums xs) = xs := by
  unfold bytesOf strOfNums
  simp only [List.map_map, List.toList_toArray]
  conv => rhs; rw [← List.map_id xs]
  refine List.map_congr_left fun x hx => ?_
  have := h x hx
  simp only [Function.comp, UInt8.toNat_ofNat', id]
  omega
theorem toList_data (s : ByteArray) : s.toList = s.data.toList := by
  exact ByteArray.toList_eq s
theorem rd_range {f : Nat → Int} {n : Nat} {i : Int} (h0 : 0 ≤ i) (h1 : i < n) : rd ((List.range n).map f) i = f i.toNat := by
  unfold rd
  rw [List.getD_eq_getElem?_getD, List.getElem?_map, List.getElem?_range (by omega)]
  rfl
theorem bytesOf_range (s : ByteArray) : bytesOf s = (List.range s.size).map fun i : Nat => bt s (i : Int) := by
  apply List.ext_getElem
  · simp [bytesOf_length]
  · intro i h1 h2
    have h3 := rd_bytesOf s i
    unfold rd at h3
    rw [List.getD_eq_getElem?_getD, Int.toNat_natCast, List.getElem?_eq_getElem h1] at h3
    simpa using h3
/-- A string is what its bytes are. -/
theorem str_range {s : ByteArray} {n : Nat} (hn : s.size = n) {f : Nat → Int} (h : ∀ i, i < n → f i = bt s i) : strOfNums ((List.range n).map f) = s := by
  subst hn
  have e : (List.range s.size).map f = bytesOf s := by
    rw [bytesOf_range s]
    exact List.map_congr_left fun i hi => h i (by simpa using hi)
  rw [e, str_bytes]
theorem range_set {f : Nat → Int} {i d : Nat} (v : Int) (hv : v = f i) : ((List.range i).map f ++ List.replicate (d + 1) 0).set i v = (List.range (i + 1)).map f ++ List.replicate d 0 := by
  subst hv
  rw [List.set_append_right _ _ (by simp), List.range_succ, List.map_append, List.length_map, List.length_range, Nat.sub_self, List.replicate_succ, List.set_cons_zero]
  simp
theorem ev_true {g : Nat → Option Bool} (hm : ∀ k, LeO (g k) (g (k + 1))) (k : Nat) (h : g k = some true) : Ev g true := Ev.of hm h
theorem ev_same {α : Type} {g : Nat → Option α} {r r' : α} (h : Ev g r) (e : r = r') : Ev g r' := e ▸ h
/-- A last step that is the callee's answer. -/
theorem ev_id {α : Type} {g : Nat → Option α} {r : α} (h : Ev g r) : Ev (fun n => (g n).bind fun t => some t) r := Ev.bind (f := fun _ t => some t) h (Ev.now r)
theorem str_size (xs : List Int) : (strOfNums xs).size = xs.length := by
  unfold strOfNums
  simp [ByteArray.size]
/-- The place of a number in a list, from place i on; -1: none. -/
def idx : List Int → Int → Nat → Int
  | [], _, _ => -1
  | x :: xs, v, i => if v = x then (i : Int) else idx xs v (i + 1)
theorem index_loop (l : List Int) (v : Int) (hl : l.length ≤ 4611686018427387904) : ∀ d i : Nat, i + d = l.length → Ev (fun k => slices_Index_int_int.l0 k l v (l.length : Int) (i : Int)) (idx (l.drop i) v i) := by
  intro d
  induction d with
  | zero =>
    intro i hi
    have e : l.drop i = [] := List.drop_of_length_le (by omega)
    rw [e]
    refine Ev.step (f := fun _ => some (-1)) (fun k => ?_) (Ev.now _)
    simp only [slices_Index_int_int.l0]
    rw [if_neg (by omega)]
  | succ d ih =>
    intro i hi
    have hlt : i < l.length := by omega
    have w1 : wrap64 ((i : Int) + 1) = ((i + 1 : Nat) : Int) := by rw [w64 (by omega) (by omega)]; rfl
    have hr : rd l (i : Int) = l[i] := by
      unfold rd
      rw [List.getD_eq_getElem?_getD, Int.toNat_natCast, List.getElem?_eq_getElem hlt]
      rfl
    rw [List.drop_eq_getElem_cons hlt]
    unfold idx
    by_cases h : v = l[i]
    · rw [if_pos h]
      refine Ev.step (f := fun _ => some (i : Int)) (fun k => ?_) (Ev.now _)
      simp only [slices_Index_int_int.l0]
      rw [if_pos (by omega), if_pos (by omega), if_pos (by omega), hr, if_pos h]
    · rw [if_neg h]
      refine Ev.step (fun k => ?_) (ih (i + 1) (by omega))
      simp only [slices_Index_int_int.l0]
      rw [if_pos (by omega), if_pos (by omega), if_pos (by omega), hr, if_neg h, w1]
theorem index_ev (l : List Int) (v : Int) (hl : l.length ≤ 4611686018427387904) : Ev (fun k => slices_Index_int_int.f k l v) (idx l v 0) := by
  unfold slices_Index_int_int.f
  exact index_loop l v hl l.length 0 (by omega)
theorem contains_ev (l : List Int) (v : Int) (hl : l.length ≤ 4611686018427387904) : Ev (fun k => slices_Contains_int_int.f k l v) (decide (idx l v 0 ≥ 0)) := by
  unfold slices_Contains_int_int.f
  exact Ev.bind (index_ev l v hl) (Ev.now _)
/-- The depths of a colour. -/
def dep (c d : Int) : Prop := (c = 0 ∧ (d = 1 ∨ d = 2 ∨ d = 4 ∨ d = 8 ∨ d = 16)) ∨ (c = 3 ∧ (d = 1 ∨ d = 2 ∨ d = 4 ∨ d = 8)) ∨ ((c = 2 ∨ c = 4 ∨ c = 6) ∧ (d = 8 ∨ d = 16))
instance (c d : Int) : Decidable (dep c d) := by unfold dep; infer_instance
/-- Which heads may be: 0; else what is wrong. -/
def rgt (W H D C L : Int) : Int := if 1 ≤ W ∧ W ≤ 2147483647 ∧ 1 ≤ H ∧ H ≤ 2147483647 ∧ dep C D ∧ (L = 0 ∨ L = 1) then (if W > 1024 ∨ H > 1024 ∨ W * H > 4096 then 5 else 0) else 24
theorem rgt_0 {W H D C L : Int} (h : rgt W H D C L = 0) : 1 ≤ W ∧ W ≤ 1024 ∧ 1 ≤ H ∧ H ≤ 1024 ∧ W * H ≤ 4096 ∧ dep C D ∧ (L = 0 ∨ L = 1) := by
  unfold rgt at h
  by_cases hc : 1 ≤ W ∧ W ≤ 2147483647 ∧ 1 ≤ H ∧ H ≤ 2147483647 ∧ dep C D ∧ (L = 0 ∨ L = 1)
  · rw [if_pos hc] at h
    by_cases h2 : W > 1024 ∨ H > 1024 ∨ W * H > 4096
    · rw [if_pos h2] at h; omega
    · obtain ⟨a, _, b, _, c, d⟩ := hc
      exact ⟨a, by omega, b, by omega, by omega, c, d⟩
  · rw [if_neg hc] at h; omega
theorem rgt_area {W H : Int} (h1 : 1 ≤ W) (h2 : W ≤ 2147483647) (h3 : 1 ≤ H) (h4 : H ≤ 2147483647) : wrap64 (W * H) = W * H := by
  have h5 : W * H ≤ 2147483647 * 2147483647 := Int.mul_le_mul h2 h4 (by omega) (by omega)
  have h6 : 0 ≤ W * H := Int.mul_nonneg (by omega) (by omega)
  exact w64 (by omega) (by omega)
theorem andNot1 {x : Int} (h1 : -9223372036854775808 ≤ x) (h2 : x ≤ 9223372036854775807) : (Go.bits .andNot .i64 x 1 != 0) = !decide (x = 0 ∨ x = 1) := by
  by_cases h0 : x = 0
  · subst h0; decide
  · by_cases h3 : x = 1
    · subst h3; decide
    · rw [decide_eq_false (by omega)]
      refine bne_iff_ne.mpr fun hz => ?_
      have e : Go.bits .andNot .i64 x 1 = IntKind.i64.wrap ((BitVec.ofInt 64 x &&& ~~~ BitVec.ofInt 64 1).toNat : Int) := rfl
      rw [e, IntKind.wrap_i64] at hz
      generalize hb : BitVec.ofInt 64 x = b at hz
      have hlt := (b &&& ~~~ BitVec.ofInt 64 1).isLt
      have hn : (b &&& ~~~ BitVec.ofInt 64 1).toNat = 0 := by omega
      have hv : b &&& ~~~ BitVec.ofInt 64 1 = 0#64 := BitVec.eq_of_toNat_eq hn
      have hs : b >>> 1 = 0#64 := by
        apply BitVec.eq_of_getLsbD_eq
        intro i hi
        rw [BitVec.getLsbD_ushiftRight]
        by_cases h63 : 1 + i < 64
        · have h4 : (b &&& ~~~ BitVec.ofInt 64 1).getLsbD (1 + i) = false := by rw [hv]; simp
          have h5 : (BitVec.ofInt 64 1).getLsbD (1 + i) = false := by
            show (1#64).getLsbD (1 + i) = false
            rw [BitVec.getLsbD_one]
            simp
          rw [BitVec.getLsbD_and, BitVec.getLsbD_not, h5] at h4
          simp only [h63, decide_true, Bool.not_false, Bool.and_true] at h4
          rw [h4]
          simp
        · simp [BitVec.getLsbD_of_ge b (1 + i) (by omega)]
      have h6 : (b >>> 1).toNat = 0 := by rw [hs]; rfl
      rw [BitVec.toNat_ushiftRight, Nat.shiftRight_eq_div_pow] at h6
      have h7 : b.toNat = (x % 18446744073709551616).toNat := by rw [← hb, BitVec.toNat_ofInt]; rfl
      omega
theorem side_f (n : Int) : head_side.f n = some (decide (1 ≤ n ∧ n ≤ 2147483647)) := by
  unfold head_side.f
  by_cases h : n ≥ 1
  · rw [if_pos h]
    congr 1
    by_cases h2 : n ≤ 2147483647
    · rw [decide_eq_true h2, decide_eq_true ⟨h, h2⟩]
    · rw [decide_eq_false h2, decide_eq_false (by omega)]
  · rw [if_neg h, decide_eq_false (by omega)]
/-- The list of a colour's depths. -/
def deps (c : Int) : List Int := if c = 0 then [1, 2, 4, 8, 16] else if c = 3 then [1, 2, 4, 8] else if c = 2 ∨ c = 4 ∨ c = 6 then [8, 16] else []
theorem depths_ev (c : Int) : Ev (fun k => head_depths.f k c) (deps c) := by
  have hj : ∀ b : Bool, Ev (fun k => head_depths.j0 k b) (if b = true then [8, 16] else []) := by
    intro b
    refine Ev.step (f := fun _ => some (if b = true then [8, 16] else [])) (fun k => ?_) (Ev.now _)
    simp only [head_depths.j0]
    cases b <;> rfl
  unfold head_depths.f deps
  by_cases h0 : c = 0
  · simp only [if_pos h0]; exact Ev.now _
  · simp only [if_neg h0]
    by_cases h3 : c = 3
    · simp only [if_pos h3]; exact Ev.now _
    · simp only [if_neg h3]
      by_cases h2 : c = 2
      · subst h2; exact ev_same (hj _) (by decide)
      · simp only [if_neg h2]
        by_cases h4 : c = 4
        · subst h4; exact ev_same (hj _) (by decide)
        · simp only [if_neg h4]
          refine ev_same (hj _) ?_
          by_cases h6 : c = 6
          · subst h6; decide
          · rw [if_neg (by simpa using h6), if_neg (by omega)]
theorem deps_has (c d : Int) : decide (idx (deps c) d 0 ≥ 0) = decide (dep c d) := by
  have key : ∀ (l : List Int) (i : Nat), (idx l d i ≥ 0 ↔ d ∈ l) := by
    intro l
    induction l with
    | nil => intro i; simp [idx]
    | cons x xs ih =>
      intro i
      unfold idx
      by_cases h : d = x
      · rw [if_pos h]; simp [h]
      · rw [if_neg h, ih]; simp [h]
  have h := key (deps c) 0
  have h2 : d ∈ deps c ↔ dep c d := by
    unfold deps dep
    by_cases h0 : c = 0
    · rw [if_pos h0]; simp; omega
    · rw [if_neg h0]
      by_cases h3 : c = 3
      · rw [if_pos h3]; simp; omega
      · rw [if_neg h3]
        by_cases h4 : c = 2 ∨ c = 4 ∨ c = 6
        · rw [if_pos h4]; simp; omega
        · rw [if_neg h4]; simp; omega
  rw [decide_eq_decide]
  exact h.trans h2
theorem Right_ev (W H D C L : Int) (hL : -9223372036854775808 ≤ L ∧ L ≤ 9223372036854775807) : Ev (fun k => head_Right.f k W H D C L) (rgt W H D C L) := by
  have hj1 : Ev (fun k => head_Right.j0 k true W H D C L) 24 := by
    refine Ev.step (f := fun _ => some 24) (fun k => ?_) (Ev.now _)
    simp only [head_Right.j0]
    rw [if_pos trivial]
  have hj0 : 1 ≤ W → W ≤ 2147483647 → 1 ≤ H → H ≤ 2147483647 → Ev (fun k => head_Right.j0 k false W H D C L) (if W > 1024 ∨ H > 1024 ∨ W * H > 4096 then 5 else 0) := by
    intro h1 h2 h3 h4
    refine Ev.step (f := fun _ => some (if W > 1024 ∨ H > 1024 ∨ W * H > 4096 then 5 else 0)) (fun k => ?_) (Ev.now _)
    simp only [head_Right.j0]
    rw [if_neg (by decide), rgt_area h1 h2 h3 h4]
    by_cases h5 : mx W H > 1024
    · rw [if_pos h5, if_pos (by unfold mx at h5; omega)]
    · rw [if_neg h5]
      by_cases h6 : W * H > 4096
      · rw [if_pos h6, if_pos (.inr (.inr h6))]
      · rw [if_neg h6, if_neg (by unfold mx at h5; omega)]
  unfold head_Right.f
  simp only [side_f, Option.bind_some]
  unfold rgt
  by_cases hW : 1 ≤ W ∧ W ≤ 2147483647
  · rw [decide_eq_true hW]
    simp only [if_true]
    by_cases hH : 1 ≤ H ∧ H ≤ 2147483647
    · rw [decide_eq_true hH]
      simp only [if_true]
      refine Ev.bind (depths_ev C) ?_
      refine Ev.bind (contains_ev (deps C) D (by unfold deps; split; simp; split; simp; split <;> simp)) ?_
      rw [deps_has]
      by_cases hd : dep C D
      · rw [decide_eq_true hd]
        simp only [if_true]
        rw [andNot1 hL.1 hL.2]
        by_cases hl : L = 0 ∨ L = 1
        · rw [decide_eq_true hl, if_pos ⟨hW.1, hW.2, hH.1, hH.2, hd, hl⟩]
          exact hj0 hW.1 hW.2 hH.1 hH.2
        · rw [decide_eq_false hl, if_neg (fun h => hl h.2.2.2.2.2)]
          exact hj1
      · rw [decide_eq_false hd, if_neg (fun h => hd h.2.2.2.2.1)]
        simp only [Bool.false_eq_true, if_false]
        exact hj1
    · rw [decide_eq_false hH, if_neg (fun h => hH ⟨h.2.2.1, h.2.2.2.1⟩)]
      simp only [Bool.false_eq_true, if_false]
      exact hj1
  · rw [decide_eq_false hW, if_neg (fun h => hW ⟨h.1, h.2.1⟩)]
    simp only [Bool.false_eq_true, if_false]
    exact hj1
theorem rRight_ev (W H D C L : Int) : Ev (fun k => vitrineref08_Right.f k W H D C L) (rgt W H D C L) := by
  have h4 : ∀ b : Bool, Ev (fun k => vitrineref08_Right.j4 k b) (if b = true then 5 else 0) := by
    intro b
    refine Ev.step (f := fun _ => some (if b = true then 5 else 0)) (fun k => ?_) (Ev.now _)
    simp only [vitrineref08_Right.j4]
    cases b <;> rfl
  have h3 : ∀ b : Bool, (b = false → 1 ≤ W ∧ W ≤ 2147483647 ∧ 1 ≤ H ∧ H ≤ 2147483647) → Ev (fun k => vitrineref08_Right.j3 k b W H D C L) (if b = true then 24 else if W > 1024 ∨ H > 1024 ∨ W * H > 4096 then 5 else 0) := by
    intro b hb
    cases b with
    | true =>
      refine Ev.step (f := fun _ => some 24) (fun k => ?_) (Ev.now _)
      simp only [vitrineref08_Right.j3, if_true]
    | false =>
      obtain ⟨a1, a2, a3, a4⟩ := hb rfl
      simp only [Bool.false_eq_true, if_false]
      by_cases hw : W > 1024
      · refine Ev.step (fun k => ?_) (ev_same (h4 true) (by rw [if_pos rfl, if_pos (.inl hw)]))
        simp only [vitrineref08_Right.j3]
        rw [if_neg (by decide), if_pos hw]
      · by_cases hh : H > 1024
        · refine Ev.step (fun k => ?_) (ev_same (h4 true) (by rw [if_pos rfl, if_pos (.inr (.inl hh))]))
          simp only [vitrineref08_Right.j3]
          rw [if_neg (by decide), if_neg hw, if_pos hh]
        · refine Ev.step (fun k => ?_) (ev_same (h4 (decide (W * H > 4096))) ?_)
          · simp only [vitrineref08_Right.j3]
            rw [if_neg (by decide), if_neg hw, if_neg hh, rgt_area a1 a2 a3 a4]
          · by_cases hz : W * H > 4096
            · rw [decide_eq_true hz, if_pos rfl, if_pos (.inr (.inr hz))]
            · rw [decide_eq_false hz, if_neg (by decide), if_neg (by omega)]
  have h2 : ∀ b : Bool, (b = true ↔ dep C D) → Ev (fun k => vitrineref08_Right.j2 k b W H D C L) (rgt W H D C L) := by
    intro b hb
    have bad : ¬ (1 ≤ W ∧ W ≤ 2147483647 ∧ 1 ≤ H ∧ H ≤ 2147483647 ∧ dep C D ∧ (L = 0 ∨ L = 1)) → Ev (fun k => vitrineref08_Right.j3 k true W H D C L) (rgt W H D C L) := fun hn =>
      ev_same (h3 true (fun e => by cases e)) (by unfold rgt; rw [if_neg hn, if_pos rfl])
    by_cases c1 : W < 1
    · refine Ev.step (fun k => ?_) (bad (by omega))
      simp only [vitrineref08_Right.j2]; rw [if_pos c1]
    · by_cases c2 : W > 2147483647
      · refine Ev.step (fun k => ?_) (bad (by omega))
        simp only [vitrineref08_Right.j2]; rw [if_neg c1, if_pos c2]
      · by_cases c3 : H < 1
        · refine Ev.step (fun k => ?_) (bad (by omega))
          simp only [vitrineref08_Right.j2]; rw [if_neg c1, if_neg c2, if_pos c3]
        · by_cases c4 : H > 2147483647
          · refine Ev.step (fun k => ?_) (bad (by omega))
            simp only [vitrineref08_Right.j2]; rw [if_neg c1, if_neg c2, if_neg c3, if_pos c4]
          · by_cases c5 : b = true
            · by_cases c6 : L = 0
              · refine Ev.step (fun k => ?_) (ev_same (h3 false (fun _ => by omega)) ?_)
                · simp only [vitrineref08_Right.j2]; rw [if_neg c1, if_neg c2, if_neg c3, if_neg c4, if_pos c5, if_pos c6]
                · unfold rgt; rw [if_neg (by decide), if_pos (show (1 ≤ W ∧ W ≤ 2147483647 ∧ 1 ≤ H ∧ H ≤ 2147483647 ∧ dep C D ∧ (L = 0 ∨ L = 1)) from ⟨by omega, by omega, by omega, by omega, hb.1 c5, .inl c6⟩)]
              · refine Ev.step (fun k => ?_) (ev_same (h3 (L != 1) (fun _ => by omega)) ?_)
                · simp only [vitrineref08_Right.j2]; rw [if_neg c1, if_neg c2, if_neg c3, if_neg c4, if_pos c5, if_neg c6]
                · unfold rgt
                  by_cases c7 : L = 1
                  · rw [if_neg (by simp [c7]), if_pos (show (1 ≤ W ∧ W ≤ 2147483647 ∧ 1 ≤ H ∧ H ≤ 2147483647 ∧ dep C D ∧ (L = 0 ∨ L = 1)) from ⟨by omega, by omega, by omega, by omega, hb.1 c5, .inr c7⟩)]
                  · rw [if_pos (by simpa using c7), if_neg (by omega)]
            · refine Ev.step (fun k => ?_) (bad (fun h => c5 (hb.2 h.2.2.2.2.1)))
              simp only [vitrineref08_Right.j2]; rw [if_neg c1, if_neg c2, if_neg c3, if_neg c4, if_neg c5]
  have h1 : ∀ b : Bool, C ≠ 0 → C ≠ 3 → (b = true ↔ (C = 2 ∨ C = 4 ∨ C = 6)) → Ev (fun k => vitrineref08_Right.j1 k D false b W H D C L) (rgt W H D C L) := by
    intro b n0 n3 hb
    by_cases c1 : b = true
    · have hc := hb.1 c1
      by_cases c2 : D = 8
      · refine Ev.step (fun k => ?_) (h2 true ⟨fun _ => Or.inr (Or.inr ⟨hc, Or.inl c2⟩), fun _ => rfl⟩)
        simp only [vitrineref08_Right.j1]; rw [if_pos c1, if_pos c2]
      · refine Ev.step (fun k => ?_) (h2 (D == 16) ?_)
        · simp only [vitrineref08_Right.j1]; rw [if_pos c1, if_neg c2]
        · unfold dep; rw [beq_iff_eq]; omega
    · refine Ev.step (fun k => ?_) (h2 false ?_)
      · simp only [vitrineref08_Right.j1]; rw [if_neg c1]
      · refine ⟨fun e => (by cases e), fun h => ?_⟩
        exact absurd (hb.2 (by unfold dep at h; omega)) c1
  have h0 : ∀ b : Bool, (b = true ↔ (D = 1 ∨ D = 2 ∨ D = 4)) → Ev (fun k => vitrineref08_Right.j0 k D b W H D C L) (rgt W H D C L) := by
    intro b hb
    by_cases c0 : C = 0
    · by_cases c1 : b = true
      · have := hb.1 c1
        refine Ev.step (fun k => ?_) (h2 true ⟨fun _ => .inl ⟨c0, by omega⟩, fun _ => rfl⟩)
        simp only [vitrineref08_Right.j0]; rw [if_pos c0, if_pos c1]
      · have hnb : ¬ (D = 1 ∨ D = 2 ∨ D = 4) := fun h => c1 (hb.2 h)
        by_cases c2 : D = 8
        · refine Ev.step (fun k => ?_) (h2 true ⟨fun _ => .inl ⟨c0, by omega⟩, fun _ => rfl⟩)
          simp only [vitrineref08_Right.j0]; rw [if_pos c0, if_neg c1, if_pos c2]
        · refine Ev.step (fun k => ?_) (h2 (D == 16) ?_)
          · simp only [vitrineref08_Right.j0]; rw [if_pos c0, if_neg c1, if_neg c2]
          · unfold dep; rw [beq_iff_eq]; omega
    · by_cases c3 : C = 3
      · by_cases c1 : b = true
        · have := hb.1 c1
          refine Ev.step (fun k => ?_) (h2 true ⟨fun _ => .inr (.inl ⟨c3, by omega⟩), fun _ => rfl⟩)
          simp only [vitrineref08_Right.j0]; rw [if_neg c0, if_pos c3, if_pos c1]
        · have hnb : ¬ (D = 1 ∨ D = 2 ∨ D = 4) := fun h => c1 (hb.2 h)
          refine Ev.step (fun k => ?_) (h2 (D == 8) ?_)
          · simp only [vitrineref08_Right.j0]; rw [if_neg c0, if_pos c3, if_neg c1]
          · unfold dep; rw [beq_iff_eq]; omega
      · by_cases c2 : C = 2
        · refine Ev.step (fun k => ?_) (h1 (C == 2) c0 c3 (by rw [beq_iff_eq]; omega))
          simp only [vitrineref08_Right.j0]; rw [if_neg c0, if_neg c3, if_pos c2]
        · by_cases c4 : C = 4
          · refine Ev.step (fun k => ?_) (h1 (C == 4) c0 c3 (by rw [beq_iff_eq]; omega))
            simp only [vitrineref08_Right.j0]; rw [if_neg c0, if_neg c3, if_neg c2, if_pos c4]
          · refine Ev.step (fun k => ?_) (h1 (C == 6) c0 c3 (by rw [beq_iff_eq]; omega))
            simp only [vitrineref08_Right.j0]; rw [if_neg c0, if_neg c3, if_neg c2, if_neg c4]
  unfold vitrineref08_Right.f
  by_cases d1 : D = 1
  · simp only [if_pos d1]; exact h0 true ⟨fun _ => .inl d1, fun _ => rfl⟩
  · simp only [if_neg d1]
    by_cases d2 : D = 2
    · simp only [if_pos d2]; exact h0 true ⟨fun _ => .inr (.inl d2), fun _ => rfl⟩
    · simp only [if_neg d2]; exact h0 (D == 4) (by rw [beq_iff_eq]; omega)
theorem aw_ev : Ev (fun _ : Nat => vitrinelaw08_awake.f) true := Ev.now _
theorem aw_id : Ev (fun _ : Nat => (vitrinelaw08_awake.f).bind fun t => some t) true := Ev.now _
theorem crit_some (ty : ByteArray) : ∃ b, chunk_Critical.f ty = some b := by
  unfold chunk_Critical.f
  by_cases h : ty.toList = ([] : List UInt8)
  · exact ⟨false, by rw [if_pos h]⟩
  · rw [if_neg h]
    have h1 : 0 < (ty.size : Int) := by
      have : ty.size ≠ 0 := fun e => h (by rw [ByteArray.size_eq_zero_iff.1 e]; simp)
      omega
    rw [if_pos h1]
    unfold chunk_capital.f
    by_cases h2 : bt ty 0 ≥ 65
    · rw [if_pos h2]; exact ⟨_, rfl⟩
    · rw [if_neg h2]; exact ⟨_, rfl⟩
theorem loop_some : ∀ (l : List S30) (s : HSt), ∃ r, head_loop l s = some r
  | [], s => ⟨_, rfl⟩
  | c :: r, s => by
    unfold head_loop
    by_cases h : c.f0.toList = [73, 69, 78, 68]
    · rw [if_pos h]
      by_cases h2 : endsV s c.f1 (r.length : Int) = 0
      · rw [if_pos h2]; exact ⟨_, rfl⟩
      · rw [if_neg h2]; exact ⟨_, rfl⟩
    · rw [if_neg h]
      obtain ⟨b, hb⟩ := crit_some c.f0
      rw [hb, Option.bind_some]
      by_cases h2 : (takesV s b c.f0 c.f1).1 = 0
      · rw [if_pos h2]; exact loop_some r _
      · rw [if_neg h2]; exact ⟨_, rfl⟩
theorem first_ev (ty d : ByteArray) : ∃ p, Ev (fun k => firstV k ty d) p := by
  unfold firstV
  by_cases t : ty.toList = [73, 72, 68, 82]
  · simp only [if_pos t]
    by_cases u : (d.size : Int) = 13 ∧ bt d 10 = 0 ∧ bt d 11 = 0
    · simp only [if_pos u]
      have hb := bt_range d 12
      have hr := Right_ev (numV d) (numV (d.extract 4 d.size)) (wrap64 (bt d 8)) (wrap64 (bt d 9)) (wrap64 (bt d 12)) (by rw [w64_bt]; omega)
      exact ⟨_, Ev.bind hr (Ev.now _)⟩
    · simp only [if_neg u]; exact ⟨_, Ev.now _⟩
  · simp only [if_neg t]; exact ⟨_, Ev.now _⟩
/-- What is read: the first chunk's answer, then the loop's. -/
theorem read_ev (c : S30) (r : List S30) (p : Int × Int × Int × Int × Int × Int) (q : HOut) (hp : Ev (fun k => firstV k c.f0 c.f1) p) (hq : (if p.2.2.2.2.2 = 0 then head_loop r (st0 p.1 p.2.1 p.2.2.1 p.2.2.2.1 p.2.2.2.2.1) else some (outE p.2.2.2.2.2)) = some q) : Ev (fun k => readV k (c :: r)) q := by
  unfold readV
  exact Ev.bind hp ⟨0, fun _ _ => hq⟩
def outT (r : HOut) : Int × Int × Int × Int × Int × ByteArray × ByteArray × Bool × ByteArray × Int := (r.W, r.H, r.D, r.C, r.L, r.pal, r.tr, r.ht, r.data, r.e)
theorem Read_ev (l : List S30) (q : HOut) (h1 : l.length ≤ 4611686018427387904) (h2 : szs l ≤ 140737488355328) (h : Ev (fun k => readV k l) q) : Ev (fun k => head_Read.f k l) (outT q) := by
  unfold head_Read.f
  simp only [if_pos (show l.length ≤ 4611686018427387904 ∧ szs l ≤ 140737488355328 from ⟨h1, h2⟩)]
  exact Ev.bind h (Ev.now _)
theorem szs_append : ∀ (l m : List S30), szs (l ++ m) = szs l + szs m
  | [], m => (Nat.zero_add _).symm
  | c :: r, m => by
    show c.f1.size + szs (r ++ m) = c.f1.size + szs r + szs m
    rw [szs_append r m]
    omega
theorem rdT_get {l : List S30} {i : Nat} (h : i < l.length) : rd_T30 l (i : Int) = l[i] := by
  unfold rd_T30
  rw [Int.toNat_natCast, List.getD_eq_getElem?_getD, List.getElem?_eq_getElem h]
  rfl
theorem wrapi64 {x : Int} (h1 : -9223372036854775808 ≤ x) (h2 : x ≤ 9223372036854775807) : IntKind.i64.wrap x = x := by
  rw [IntKind.wrap_i64]
  omega
theorem pow_pos' (i : Nat) : (0 : Int) < 2 ^ i := by
  have := Nat.two_pow_pos i
  exact_mod_cast this
/-- 'x & (2^i - 1)', of whatever x. -/
theorem and_mask (x : Int) (i : Nat) (hi : i ≤ 62) : Go.bits .and .i64 x (2 ^ i - 1) = x % 2 ^ i := by
  have hp : (2 : Nat) ^ i ≤ 2 ^ 62 := Nat.pow_le_pow_right (by decide) hi
  have h0 : 0 < 2 ^ i := Nat.two_pow_pos i
  have hz := pow_pos' i
  have hm : ((2 : Int) ^ i - 1) = ((2 ^ i - 1 : Nat) : Int) := by rw [Int.natCast_sub h0]; simp
  have e2 : (2 ^ i - 1) % 2 ^ 64 = 2 ^ i - 1 := Nat.mod_eq_of_lt (by omega)
  have hr : 0 ≤ x % 2 ^ i := Int.emod_nonneg _ (by omega)
  have hl : x % 2 ^ i < 2 ^ i := Int.emod_lt_of_pos _ hz
  have hx : (x % 18446744073709551616).toNat % 2 ^ i = (x % 2 ^ i).toNat := by
    have h1 : ((x % 18446744073709551616).toNat : Int) = x % 18446744073709551616 := Int.toNat_of_nonneg (Int.emod_nonneg _ (by decide))
    have h2 : ((x % 2 ^ i).toNat : Int) = x % 2 ^ i := Int.toNat_of_nonneg hr
    have h3 : (x % 18446744073709551616) % 2 ^ i = x % 2 ^ i := by
      have hd : (18446744073709551616 : Int) = 2 ^ i * 2 ^ (64 - i) := by rw [← Int.pow_add, show i + (64 - i) = 64 by omega]; rfl
      exact Int.emod_emod_of_dvd x ⟨_, hd⟩
    have h4 : (((x % 18446744073709551616).toNat % 2 ^ i : Nat) : Int) = ((x % 2 ^ i).toNat : Int) := by
      rw [Int.natCast_emod, h1, h2, ← h3, Int.natCast_pow]
      rfl
    exact Int.ofNat_inj.1 h4
  rw [hm]
  have e4 : Go.bits .and .i64 x ((2 ^ i - 1 : Nat) : Int) = IntKind.i64.wrap ((BitVec.ofInt 64 x &&& BitVec.ofInt 64 ((2 ^ i - 1 : Nat) : Int)).toNat : Int) := rfl
  rw [e4, BitVec.ofInt_natCast, BitVec.toNat_and, BitVec.toNat_ofNat, BitVec.toNat_ofInt, e2, Nat.and_two_pow_sub_one_eq_mod]
  have e3 : (x % ((2 ^ 64 : Nat) : Int)).toNat = (x % 18446744073709551616).toNat := rfl
  rw [e3, hx]
  have hp2 : (2 : Int) ^ i ≤ 2 ^ 62 := by exact_mod_cast hp
  rw [Int.toNat_of_nonneg hr]
  exact wrapi64 (by omega) (by omega)
theorem or_join {x y : Int} (i : Nat) (hx : x % 2 ^ i = 0) (hx0 : 0 ≤ x) (hx1 : x < 2 ^ 62) (hy0 : 0 ≤ y) (hy1 : y < 2 ^ i) (hy2 : y < 2 ^ 62) : Go.bits .or .i64 x y = x + y :=
  bits_join .i64 62 (by decide) (fun n h0 h1 => wrapi64 (by omega) (by omega)) i x y hx0 hx hx1 hy0 hy1 hy2
theorem shl_pow {x : Int} {d : Nat} (h0 : 0 ≤ x * 2 ^ d) (h1 : x * 2 ^ d ≤ 9223372036854775807) (hd : d ≤ 64) : shl .i64 x (d : Int) = x * 2 ^ d := by
  unfold shl
  rw [Int.toNat_natCast, show min d IntKind.i64.bits = d from Nat.min_eq_left hd]
  exact wrapi64 (by omega) h1
theorem shr_pow {x : Int} {d : Nat} (hd : d ≤ 64) : shr .i64 x (d : Int) = x / 2 ^ d := by
  unfold shr
  rw [Int.toNat_natCast, show min d IntKind.i64.bits = d from Nat.min_eq_left hd]
theorem w_succ {i : Nat} (h : i ≤ 4611686018427387904) : wrap64 ((i : Int) + 1) = ((i + 1 : Nat) : Int) := by rw [w64 (by omega) (by omega)]; omega
theorem toList_nil (s : ByteArray) : s.toList = [] ↔ s.size = 0 := by
  rw [toList_data, ← data_length, List.length_eq_zero_iff]
theorem toList_eq {s t : ByteArray} : s.toList = t.toList ↔ s = t := by
  rw [toList_data, toList_data]
  constructor
  · intro h
    cases s; cases t
    simp only [ByteArray.mk.injEq]
    exact Array.toList_inj.1 h
  · intro h; rw [h]
theorem bt_extract (s : ByteArray) (a b : Nat) (i : Nat) (h : a + i < b) (hb : b ≤ s.size) : bt (s.extract a b) (i : Int) = bt s ((a + i : Nat) : Int) := by
  have h1 : i < (s.extract a b).size := by rw [ByteArray.size_extract]; omega
  unfold bt
  rw [dif_pos (by simpa using h1), dif_pos (show ((a + i : Nat) : Int).toNat < s.size by simp; omega)]
  simp only [Int.toNat_natCast]
  rw [ByteArray.getElem_extract]
theorem bt_app_left (a b : ByteArray) (i : Nat) (h : i < a.size) : bt (a ++ b) (i : Int) = bt a (i : Int) := by
  have h2 : i < (a ++ b).size := by rw [ByteArray.size_append]; omega
  unfold bt
  rw [dif_pos (by simpa using h2), dif_pos (by simpa using h)]
  simp only [Int.toNat_natCast]
  rw [ByteArray.getElem_append_left]
def num4 (s : ByteArray) : Int := bt s 0 * 16777216 + bt s 1 * 65536 + bt s 2 * 256 + bt s 3
def be4 (n : Int) : ByteArray := strOfNums [(n / 16777216) % 256, (n / 65536) % 256, (n / 256) % 256, n % 256]
theorem num4_range (s : ByteArray) : 0 ≤ num4 s ∧ num4 s < 4294967296 := by
  unfold num4
  have h0 := bt_range s 0; have h1 := bt_range s 1; have h2 := bt_range s 2; have h3 := bt_range s 3
  omega
theorem be4_size (n : Int) : (be4 n).size = 4 := by unfold be4; rw [strOfNums_size]; rfl
theorem be4_byt (n : Int) : Byt [(n / 16777216) % 256, (n / 65536) % 256, (n / 256) % 256, n % 256] := by
  intro x hx
  simp only [List.mem_cons, List.not_mem_nil, or_false] at hx
  omega
theorem num4_app (a b : ByteArray) (h : 4 ≤ a.size) : num4 (a ++ b) = num4 a := by
  unfold num4
  rw [show (0 : Int) = ((0 : Nat) : Int) from rfl, show (1 : Int) = ((1 : Nat) : Int) from rfl, show (2 : Int) = ((2 : Nat) : Int) from rfl, show (3 : Int) = ((3 : Nat) : Int) from rfl, bt_app_left _ _ _ (by omega), bt_app_left _ _ _ (by omega), bt_app_left _ _ _ (by omega), bt_app_left _ _ _ (by omega)]
theorem num4_be4 {n : Int} (h0 : 0 ≤ n) (h1 : n < 4294967296) : num4 (be4 n) = n := by
  unfold num4 be4
  have hb := be4_byt n
  rw [bt_str hb, bt_str hb, bt_str hb, bt_str hb]
  show (n / 16777216) % 256 * 16777216 + (n / 65536) % 256 * 65536 + (n / 256) % 256 * 256 + n % 256 = n
  omega
theorem num4_extract (s : ByteArray) (a b : Nat) (h : a + 4 ≤ b) (hb : b ≤ s.size) : num4 (s.extract a b) = num4 (s.extract a (a + 4)) := by
  unfold num4
  rw [show (0 : Int) = ((0 : Nat) : Int) from rfl, show (1 : Int) = ((1 : Nat) : Int) from rfl, show (2 : Int) = ((2 : Nat) : Int) from rfl, show (3 : Int) = ((3 : Nat) : Int) from rfl,
    bt_extract _ _ _ _ (by omega) hb, bt_extract _ _ _ _ (by omega) hb, bt_extract _ _ _ _ (by omega) hb, bt_extract _ _ _ _ (by omega) hb, bt_extract _ _ _ _ (by omega) (by omega), bt_extract _ _ _ _ (by omega) (by omega), bt_extract _ _ _ _ (by omega) (by omega), bt_extract _ _ _ _ (by omega) (by omega)]
theorem be4_num4 (s : ByteArray) (h : 4 = s.size) : be4 (num4 s) = s := by
  have h0 := bt_range s 0; have h1 := bt_range s 1; have h2 := bt_range s 2; have h3 := bt_range s 3
  have e := str_bytes s
  rw [bytesOf_range, ← h] at e
  rw [← e]
  have e4 : (List.range 4).map (fun i : Nat => bt s (i : Int)) = [bt s 0, bt s 1, bt s 2, bt s 3] := rfl
  rw [e4] at e ⊢
  rw [e]
  unfold be4
  rw [← e]
  congr 1
  rw [e]
  unfold num4
  congr 1
  · omega
  · congr 1
    · omega
    · congr 1
      · omega
      · congr 1
        omega
theorem or4 (s : ByteArray) : Go.bits .or .i64 (Go.bits .or .i64 (Go.bits .or .i64 (wrap64 ((wrap64 (bt s 0)) * 16777216)) (wrap64 ((wrap64 (bt s 1)) * 65536))) (wrap64 ((wrap64 (bt s 2)) * 256))) (wrap64 (bt s 3)) = num4 s := by
  have h0 := bt_range s 0; have h1 := bt_range s 1; have h2 := bt_range s 2; have h3 := bt_range s 3
  unfold num4
  rw [w64_bt, w64_bt, w64_bt, w64_bt]
  generalize bt s 0 = a at *
  generalize bt s 1 = b at *
  generalize bt s 2 = c at *
  generalize bt s 3 = d at *
  rw [w64 (x := a * 16777216) (by omega) (by omega), w64 (x := b * 65536) (by omega) (by omega), w64 (x := c * 256) (by omega) (by omega)]
  rw [or_join (x := a * 16777216) (y := b * 65536) 24 (by omega) (by omega) (by omega) (by omega) (by omega) (by omega), or_join (x := a * 16777216 + b * 65536) (y := c * 256) 16 (by omega) (by omega) (by omega) (by omega) (by omega) (by omega), or_join (x := a * 16777216 + b * 65536 + c * 256) (y := d) 8 (by omega) (by omega) (by omega) (by omega) (by omega) (by omega)]
theorem of_loop (s : ByteArray) (hs : s.size = 4) : Ev (fun k => vitrineref06_Of.l0 k s 0 0) (num4 s) := by
  have h0 := bt_range s 0; have h1 := bt_range s 1; have h2 := bt_range s 2; have h3 := bt_range s 3
  refine Ev.step (f := fun k => vitrineref06_Of.l0 k s (bt s 0) 1) (fun k => ?_) ?_
  · simp only [vitrineref06_Of.l0]
    rw [if_pos (by omega), if_pos (by omega), w64_bt, w64 (x := 256 * 0) (by omega) (by omega), w64 (x := 256 * 0 + bt s 0) (by omega) (by omega), w64 (x := 0 + 1) (by omega) (by omega)]
    congr 1 <;> omega
  refine Ev.step (f := fun k => vitrineref06_Of.l0 k s (256 * bt s 0 + bt s 1) 2) (fun k => ?_) ?_
  · simp only [vitrineref06_Of.l0]
    rw [if_pos (by omega), if_pos (by omega), w64_bt, w64 (x := 256 * bt s 0) (by omega) (by omega), w64 (x := 256 * bt s 0 + bt s 1) (by omega) (by omega), w64 (x := 1 + 1) (by omega) (by omega)]
    rfl
  refine Ev.step (f := fun k => vitrineref06_Of.l0 k s (256 * (256 * bt s 0 + bt s 1) + bt s 2) 3) (fun k => ?_) ?_
  · simp only [vitrineref06_Of.l0]
    rw [if_pos (by omega), if_pos (by omega), w64_bt, w64 (x := 256 * (256 * bt s 0 + bt s 1)) (by omega) (by omega), w64 (x := 256 * (256 * bt s 0 + bt s 1) + bt s 2) (by omega) (by omega), w64 (x := 2 + 1) (by omega) (by omega)]
    rfl
  refine Ev.step (f := fun k => vitrineref06_Of.l0 k s (256 * (256 * (256 * bt s 0 + bt s 1) + bt s 2) + bt s 3) 4) (fun k => ?_) ?_
  · simp only [vitrineref06_Of.l0]
    rw [if_pos (by omega), if_pos (by omega), w64_bt, w64 (x := 256 * (256 * (256 * bt s 0 + bt s 1) + bt s 2)) (by omega) (by omega), w64 (x := 256 * (256 * (256 * bt s 0 + bt s 1) + bt s 2) + bt s 3) (by omega) (by omega), w64 (x := 3 + 1) (by omega) (by omega)]
    rfl
  refine Ev.step (f := fun _ => some (num4 s)) (fun k => ?_) (Ev.now _)
  simp only [vitrineref06_Of.l0]
  rw [if_neg (by omega)]
  unfold num4
  congr 1
  omega
theorem Of_ev (s : ByteArray) (hs : s.size = 4) : Ev (fun k => vitrineref06_Of.f k s) (num4 s) := by
  unfold vitrineref06_Of.f
  exact of_loop s hs
theorem str_app (a b : List Int) : strOfNums (a ++ b) = strOfNums a ++ strOfNums b := by
  apply ByteArray.ext
  simp [strOfNums]
/-- A head's bytes. -/
def layB (W H D C L : Int) : List Int := [(W / 16777216) % 256, (W / 65536) % 256, (W / 256) % 256, W % 256, (H / 16777216) % 256, (H / 65536) % 256, (H / 256) % 256, H % 256, D % 256, C % 256, 0, 0, L % 256]
theorem lay_f (W H D C L : Int) : head_Lay.f 9 W H D C L = some ((⟨#[73, 72, 68, 82]⟩ : ByteArray), strOfNums (layB W H D C L)) := by kernel_rfl
theorem lay_ev (W H D C L : Int) : Ev (fun k => head_Lay.f k W H D C L) ((⟨#[73, 72, 68, 82]⟩ : ByteArray), strOfNums (layB W H D C L)) := Ev.of (fun k => head_Lay.mono W H D C L k) (lay_f W H D C L)
theorem rlay_f (W H D C L : Int) : vitrineref08_Lay.f W H D C L = some ((⟨#[73, 72, 68, 82]⟩ : ByteArray), strOfNums (layB W H D C L)) := by
  have h4 : ∀ n, vitrineref08_four.f n = some (be4 n) := fun n => rfl
  unfold vitrineref08_Lay.f
  rw [h4, h4, Option.bind_some, Option.bind_some, if_pos (by rw [be4_size, be4_size]; omega), Option.bind_some, if_pos (by rw [ByteArray.size_append, be4_size, be4_size, strOfNums_size]; show 4 + 4 + 5 ≤ _; omega)]
  congr 2
theorem HeadLays : ∀ (a0_0 : Int) (a0_1 : Int) (a0_2 : Int) (a0_3 : Int) (a0_4 : Int), ((Lit.int .i64 a0_0).wf = true) → ((Lit.int .i64 a0_1).wf = true) → ((Lit.int .i64 a0_2).wf = true) → ((Lit.int .i64 a0_3).wf = true) → ((Lit.int .i64 a0_4).wf = true) → ∃ k, vitrinelaw08_HeadLays.f k a0_0 a0_1 a0_2 a0_3 a0_4 = some true := by
  intro W H D C L _ _ _ _ _
  refine Ev.rounds ?_
  unfold vitrinelaw08_HeadLays.f
  refine Ev.bind (lay_ev W H D C L) ?_
  simp only [rlay_f, Option.bind_some, beq_self_eq_true, Bool.and_self, if_true]
  exact aw_id

end Go.Proofs.Ytbpnkgidlmjkkaa.Pure
