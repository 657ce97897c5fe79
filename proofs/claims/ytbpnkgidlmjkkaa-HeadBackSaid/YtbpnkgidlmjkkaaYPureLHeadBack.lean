/- HeadBack, plain: a head that may be is read as it is laid, whatever the bytes and however they are cut. Conditions: whole numbers of 64 bits, lists as long as the model allows. -/
import Derived.Test.YtbpnkgidlmjkkaaYPL08x3
import Derived.Test.YtbpnkgidlmjkkaaYPL08x4
import Derived.Test.YtbpnkgidlmjkkaaYPL08x5
import Derived.Test.YtbpnkgidlmjkkaaYPL08x7
import Derived.Test.YtbpnkgidlmjkkaaYPL08x13
import Derived.Test.YtbpnkgidlmjkkaaYPL08x14
import Derived.Test.YtbpnkgidlmjkkaaYPL08x16
import Derived.Test.YtbpnkgidlmjkkaaYPL08x18
import Derived.Test.YtbpnkgidlmjkkaaYPL08x19
import Derived.Test.YtbpnkgidlmjkkaaYPL08x20
import Derived.Test.YtbpnkgidlmjkkaaYPL08x21
import Derived.Test.YtbpnkgidlmjkkaaYPL08x22
import Derived.Test.YtbpnkgidlmjkkaaYWMore
import Derived.Laws.Strings
namespace Go.Proofs.Ytbpnkgidlmjkkaa.Pure
open Go.RowKit Go.Proofs.YtbpnkgidlmjkkaaW.PrintWords Go.Proofs.YtbpnkgidlmjkkaaW.PrintLast Go.Proofs.YtbpnkgidlmjkkaaW.PrintMore Go.Proofs.Ytbpnkgidlmjkkaa.PL08
set_option linter.unusedVariables false
set_option linter.unusedSimpArgs false
theorem w64 {x : Int} (h1 : -9223372036854775808 ≤ x) (h2 : x ≤ 9223372036854775807) : wrap64 x = x := by
  unfold wrap64
  omega
theorem w64_bt (s : ByteArray) (i : Int) : wrap64 (bt s i) = bt s i := by
  have := bt_range s i
  exact w64 (by omega) (by omega)
theorem wf_i64 {x : Int} (h : (Lit.int .i64 x).wf = true) : -9223372036854775808 ≤ x ∧ x ≤ 9223372036854775807 := by
  simpa [Lit.wf, IntKind.min, IntKind.max, IntKind.signed, IntKind.bits] using h
/-- A list of bytes. -/
def Byt (xs : List Int) : Prop := ∀ x ∈ xs, 0 ≤ x ∧ x ≤ 255
theorem bt_str {xs : List Int} (h : Byt xs) (i : Int) : bt (strOfNums xs) i = rd xs i := by
  unfold bt rd
  rw [List.getD_eq_getElem?_getD]
  by_cases hi : i.toNat < xs.length
  · have h1 : i.toNat < (strOfNums xs).size := by rw [strOfNums_size]; exact hi
    rw [dif_pos h1, List.getElem?_eq_getElem hi]
    have h2 := h _ (List.getElem_mem hi)
    have h3 : (strOfNums xs)[i.toNat]'h1 = UInt8.ofNat (xs[i.toNat]).toNat := by
      show (strOfNums xs).data[i.toNat]'_ = _
      simp [strOfNums]
    rw [h3]
    simp only [Option.getD_some, UInt8.toNat_ofNat']
    omega
  · have h1 : ¬ i.toNat < (strOfNums xs).size := by rw [strOfNums_size]; exact hi
    rw [dif_neg h1, List.getElem?_eq_none (by omega)]
    rfl
theorem toList_data (s : ByteArray) : s.toList = s.data.toList := by
  exact ByteArray.toList_eq s
theorem ev_same {α : Type} {g : Nat → Option α} {r r' : α} (h : Ev g r) (e : r = r') : Ev g r' := e ▸ h
/-- The place of a number in a list, from place i on; -1: none. -/
def idx : List Int → Int → Nat → Int
  | [], _, _ => -1
  | x :: xs, v, i => if v = x then (i : Int) else idx xs v (i + 1)
theorem index_loop (l : List Int) (v : Int) (hl : l.length ≤ 4611686018427387904) : ∀ d i : Nat, i + d = l.length → Ev (fun k => slices_Index_int_int.l0 k l v (l.length : Int) (i : Int)) (idx (l.drop i) v i) := by
  intro d
  induction d with
  | zero =>
    intro i hi
    have e : l.drop i = [] := List.drop_of_length_le (by omega)
    rw [e]
    refine Ev.step (f := fun _ => some (-1)) (fun k => ?_) (Ev.now _)
    simp only [slices_Index_int_int.l0]
    rw [if_neg (by omega)]
  | succ d ih =>
    intro i hi
    have hlt : i < l.length := by omega
    have w1 : wrap64 ((i : Int) + 1) = ((i + 1 : Nat) : Int) := by rw [w64 (by omega) (by omega)]; rfl
    have hr : rd l (i : Int) = l[i] := by
      unfold rd
      rw [List.getD_eq_getElem?_getD, Int.toNat_natCast, List.getElem?_eq_getElem hlt]
      rfl
    rw [List.drop_eq_getElem_cons hlt]
    unfold idx
    by_cases h : v = l[i]
    · rw [if_pos h]
      refine Ev.step (f := fun _ => some (i : Int)) (fun k => ?_) (Ev.now _)
      simp only [slices_Index_int_int.l0]
      rw [if_pos (by omega), if_pos (by omega), if_pos (by omega), hr, if_pos h]
    · rw [if_neg h]
      refine Ev.step (fun k => ?_) (ih (i + 1) (by omega))
      simp only [slices_Index_int_int.l0]
      rw [if_pos (by omega), if_pos (by omega), if_pos (by omega), hr, if_neg h, w1]
theorem index_ev (l : List Int) (v : Int) (hl : l.length ≤ 4611686018427387904) : Ev (fun k => slices_Index_int_int.f k l v) (idx l v 0) := by
  unfold slices_Index_int_int.f
  exact index_loop l v hl l.length 0 (by omega)
theorem contains_ev (l : List Int) (v : Int) (hl : l.length ≤ 4611686018427387904) : Ev (fun k => slices_Contains_int_int.f k l v) (decide (idx l v 0 ≥ 0)) := by
  unfold slices_Contains_int_int.f
  exact Ev.bind (index_ev l v hl) (Ev.now _)
/-- The depths of a colour. -/
def dep (c d : Int) : Prop := (c = 0 ∧ (d = 1 ∨ d = 2 ∨ d = 4 ∨ d = 8 ∨ d = 16)) ∨ (c = 3 ∧ (d = 1 ∨ d = 2 ∨ d = 4 ∨ d = 8)) ∨ ((c = 2 ∨ c = 4 ∨ c = 6) ∧ (d = 8 ∨ d = 16))
instance (c d : Int) : Decidable (dep c d) := by unfold dep; infer_instance
/-- Which heads may be: 0; else what is wrong. -/
def rgt (W H D C L : Int) : Int := if 1 ≤ W ∧ W ≤ 2147483647 ∧ 1 ≤ H ∧ H ≤ 2147483647 ∧ dep C D ∧ (L = 0 ∨ L = 1) then (if W > 1024 ∨ H > 1024 ∨ W * H > 4096 then 5 else 0) else 24
theorem rgt_0 {W H D C L : Int} (h : rgt W H D C L = 0) : 1 ≤ W ∧ W ≤ 1024 ∧ 1 ≤ H ∧ H ≤ 1024 ∧ W * H ≤ 4096 ∧ dep C D ∧ (L = 0 ∨ L = 1) := by
  unfold rgt at h
  by_cases hc : 1 ≤ W ∧ W ≤ 2147483647 ∧ 1 ≤ H ∧ H ≤ 2147483647 ∧ dep C D ∧ (L = 0 ∨ L = 1)
  · rw [if_pos hc] at h
    by_cases h2 : W > 1024 ∨ H > 1024 ∨ W * H > 4096
    · rw [if_pos h2] at h; omega
    · obtain ⟨a, _, b, _, c, d⟩ := hc
      exact ⟨a, by omega, b, by omega, by omega, c, d⟩
  · rw [if_neg hc] at h; omega
theorem rgt_area {W H : Int} (h1 : 1 ≤ W) (h2 : W ≤ 2147483647) (h3 : 1 ≤ H) (h4 : H ≤ 2147483647) : wrap64 (W * H) = W * H := by
  have h5 : W * H ≤ 2147483647 * 2147483647 := Int.mul_le_mul h2 h4 (by omega) (by omega)
  have h6 : 0 ≤ W * H := Int.mul_nonneg (by omega) (by omega)
  exact w64 (by omega) (by omega)
theorem andNot1 {x : Int} (h1 : -9223372036854775808 ≤ x) (h2 : x ≤ 9223372036854775807) : (Go.bits .andNot .i64 x 1 != 0) = !decide (x = 0 ∨ x = 1) := by
  by_cases h0 : x = 0
  · subst h0; decide
  · by_cases h3 : x = 1
    · subst h3; decide
    · rw [decide_eq_false (by omega)]
      refine bne_iff_ne.mpr fun hz => ?_
      have e : Go.bits .andNot .i64 x 1 = IntKind.i64.wrap ((BitVec.ofInt 64 x &&& ~~~ BitVec.ofInt 64 1).toNat : Int) := rfl
      rw [e, IntKind.wrap_i64] at hz
      generalize hb : BitVec.ofInt 64 x = b at hz
      have hlt := (b &&& ~~~ BitVec.ofInt 64 1).isLt
      have hn : (b &&& ~~~ BitVec.ofInt 64 1).toNat = 0 := by omega
      have hv : b &&& ~~~ BitVec.ofInt 64 1 = 0#64 := BitVec.eq_of_toNat_eq hn
      have hs : b >>> 1 = 0#64 := by
        apply BitVec.eq_of_getLsbD_eq
        intro i hi
        rw [BitVec.getLsbD_ushiftRight]
        by_cases h63 : 1 + i < 64
        · have h4 : (b &&& ~~~ BitVec.ofInt 64 1).getLsbD (1 + i) = false := by rw [hv]; simp
          have h5 : (BitVec.ofInt 64 1).getLsbD (1 + i) = false := by
            show (1#64).getLsbD (1 + i) = false
            rw [BitVec.getLsbD_one]
            simp
          rw [BitVec.getLsbD_and, BitVec.getLsbD_not, h5] at h4
          simp only [h63, decide_true, Bool.not_false, Bool.and_true] at h4
          rw [h4]
          simp
        · simp [BitVec.getLsbD_of_ge b (1 + i) (by omega)]
      have h6 : (b >>> 1).toNat = 0 := by rw [hs]; rfl
      rw [BitVec.toNat_ushiftRight, Nat.shiftRight_eq_div_pow] at h6
      have h7 : b.toNat = (x % 18446744073709551616).toNat := by rw [← hb, BitVec.toNat_ofInt]; rfl
      omega
theorem side_f (n : Int) : head_side.f n = some (decide (1 ≤ n ∧ n ≤ 2147483647)) := by
  unfold head_side.f
  by_cases h : n ≥ 1
  · rw [if_pos h]
    congr 1
    by_cases h2 : n ≤ 2147483647
    · rw [decide_eq_true h2, decide_eq_true ⟨h, h2⟩]
    · rw [decide_eq_false h2, decide_eq_false (by omega)]
  · rw [if_neg h, decide_eq_false (by omega)]
/-- The list of a colour's depths. -/
def deps (c : Int) : List Int := if c = 0 then [1, 2, 4, 8, 16] else if c = 3 then [1, 2, 4, 8] else if c = 2 ∨ c = 4 ∨ c = 6 then [8, 16] else []
theorem depths_ev (c : Int) : Ev (fun k => head_depths.f k c) (deps c) := by
  have hj : ∀ b : Bool, Ev (fun k => head_depths.j0 k b) (if b = true then [8, 16] else []) := by
    intro b
    refine Ev.step (f := fun _ => some (if b = true then [8, 16] else [])) (fun k => ?_) (Ev.now _)
    simp only [head_depths.j0]
    cases b <;> rfl
  unfold head_depths.f deps
  by_cases h0 : c = 0
  · simp only [if_pos h0]; exact Ev.now _
  · simp only [if_neg h0]
    by_cases h3 : c = 3
    · simp only [if_pos h3]; exact Ev.now _
    · simp only [if_neg h3]
      by_cases h2 : c = 2
      · subst h2; exact ev_same (hj _) (by decide)
      · simp only [if_neg h2]
        by_cases h4 : c = 4
        · subst h4; exact ev_same (hj _) (by decide)
        · simp only [if_neg h4]
          refine ev_same (hj _) ?_
          by_cases h6 : c = 6
          · subst h6; decide
          · rw [if_neg (by simpa using h6), if_neg (by omega)]
theorem deps_has (c d : Int) : decide (idx (deps c) d 0 ≥ 0) = decide (dep c d) := by
  have key : ∀ (l : List Int) (i : Nat), (idx l d i ≥ 0 ↔ d ∈ l) := by
    intro l
    induction l with
    | nil => intro i; simp [idx]
    | cons x xs ih =>
      intro i
      unfold idx
      by_cases h : d = x
      · rw [if_pos h]; simp [h]
      · rw [if_neg h, ih]; simp [h]
  have h := key (deps c) 0
  have h2 : d ∈ deps c ↔ dep c d := by
    unfold deps dep
    by_cases h0 : c = 0
    · rw [if_pos h0]; simp; omega
    · rw [if_neg h0]
      by_cases h3 : c = 3
      · rw [if_pos h3]; simp; omega
      · rw [if_neg h3]
        by_cases h4 : c = 2 ∨ c = 4 ∨ c = 6
        · rw [if_pos h4]; simp; omega
        · rw [if_neg h4]; simp; omega
  rw [decide_eq_decide]
  exact h.trans h2
theorem Right_ev (W H D C L : Int) (hL : -9223372036854775808 ≤ L ∧ L ≤ 9223372036854775807) : Ev (fun k => head_Right.f k W H D C L) (rgt W H D C L) := by
  have hj1 : Ev (fun k => head_Right.j0 k true W H D C L) 24 := by
    refine Ev.step (f := fun _ => some 24) (fun k => ?_) (Ev.now _)
    simp only [head_Right.j0]
    rw [if_pos trivial]
  have hj0 : 1 ≤ W → W ≤ 2147483647 → 1 ≤ H → H ≤ 2147483647 → Ev (fun k => head_Right.j0 k false W H D C L) (if W > 1024 ∨ H > 1024 ∨ W * H > 4096 then 5 else 0) := by
    intro h1 h2 h3 h4
    refine Ev.step (f := fun _ => some (if W > 1024 ∨ H > 1024 ∨ W * H > 4096 then 5 else 0)) (fun k => ?_) (Ev.now _)
    simp only [head_Right.j0]
    rw [if_neg (by decide), rgt_area h1 h2 h3 h4]
    by_cases h5 : mx W H > 1024
    · rw [if_pos h5, if_pos (by unfold mx at h5; omega)]
    · rw [if_neg h5]
      by_cases h6 : W * H > 4096
      · rw [if_pos h6, if_pos (.inr (.inr h6))]
      · rw [if_neg h6, if_neg (by unfold mx at h5; omega)]
  unfold head_Right.f
  simp only [side_f, Option.bind_some]
  unfold rgt
  by_cases hW : 1 ≤ W ∧ W ≤ 2147483647
  · rw [decide_eq_true hW]
    simp only [if_true]
    by_cases hH : 1 ≤ H ∧ H ≤ 2147483647
    · rw [decide_eq_true hH]
      simp only [if_true]
      refine Ev.bind (depths_ev C) ?_
      refine Ev.bind (contains_ev (deps C) D (by unfold deps; split; simp; split; simp; split <;> simp)) ?_
      rw [deps_has]
      by_cases hd : dep C D
      · rw [decide_eq_true hd]
        simp only [if_true]
        rw [andNot1 hL.1 hL.2]
        by_cases hl : L = 0 ∨ L = 1
        · rw [decide_eq_true hl, if_pos ⟨hW.1, hW.2, hH.1, hH.2, hd, hl⟩]
          exact hj0 hW.1 hW.2 hH.1 hH.2
        · rw [decide_eq_false hl, if_neg (fun h => hl h.2.2.2.2.2)]
          exact hj1
      · rw [decide_eq_false hd, if_neg (fun h => hd h.2.2.2.2.1)]
        simp only [Bool.false_eq_true, if_false]
        exact hj1
    · rw [decide_eq_false hH, if_neg (fun h => hH ⟨h.2.2.1, h.2.2.2.1⟩)]
      simp only [Bool.false_eq_true, if_false]
      exact hj1
  · rw [decide_eq_false hW, if_neg (fun h => hW ⟨h.1, h.2.1⟩)]
    simp only [Bool.false_eq_true, if_false]
    exact hj1
theorem aw_id : Ev (fun _ : Nat => (vitrinelaw08_awake.f).bind fun t => some t) true := Ev.now _
/-- What is read: the first chunk's answer, then the loop's. -/
theorem read_ev (c : S30) (r : List S30) (p : Int × Int × Int × Int × Int × Int) (q : HOut) (hp : Ev (fun k => firstV k c.f0 c.f1) p) (hq : (if p.2.2.2.2.2 = 0 then head_loop r (st0 p.1 p.2.1 p.2.2.1 p.2.2.2.1 p.2.2.2.2.1) else some (outE p.2.2.2.2.2)) = some q) : Ev (fun k => readV k (c :: r)) q := by
  unfold readV
  exact Ev.bind hp ⟨0, fun _ _ => hq⟩
def outT (r : HOut) : Int × Int × Int × Int × Int × ByteArray × ByteArray × Bool × ByteArray × Int := (r.W, r.H, r.D, r.C, r.L, r.pal, r.tr, r.ht, r.data, r.e)
theorem Read_ev (l : List S30) (q : HOut) (h1 : l.length ≤ 4611686018427387904) (h2 : szs l ≤ 140737488355328) (h : Ev (fun k => readV k l) q) : Ev (fun k => head_Read.f k l) (outT q) := by
  unfold head_Read.f
  simp only [if_pos (show l.length ≤ 4611686018427387904 ∧ szs l ≤ 140737488355328 from ⟨h1, h2⟩)]
  exact Ev.bind h (Ev.now _)
theorem szs_append : ∀ (l m : List S30), szs (l ++ m) = szs l + szs m
  | [], m => (Nat.zero_add _).symm
  | c :: r, m => by
    show c.f1.size + szs (r ++ m) = c.f1.size + szs r + szs m
    rw [szs_append r m]
    omega
theorem wrapi64 {x : Int} (h1 : -9223372036854775808 ≤ x) (h2 : x ≤ 9223372036854775807) : IntKind.i64.wrap x = x := by
  rw [IntKind.wrap_i64]
  omega
theorem or_join {x y : Int} (i : Nat) (hx : x % 2 ^ i = 0) (hx0 : 0 ≤ x) (hx1 : x < 2 ^ 62) (hy0 : 0 ≤ y) (hy1 : y < 2 ^ i) (hy2 : y < 2 ^ 62) : Go.bits .or .i64 x y = x + y :=
  bits_join .i64 62 (by decide) (fun n h0 h1 => wrapi64 (by omega) (by omega)) i x y hx0 hx hx1 hy0 hy1 hy2
theorem toList_eq {s t : ByteArray} : s.toList = t.toList ↔ s = t := by
  rw [toList_data, toList_data]
  constructor
  · intro h
    cases s; cases t
    simp only [ByteArray.mk.injEq]
    exact Array.toList_inj.1 h
  · intro h; rw [h]
theorem bt_extract (s : ByteArray) (a b : Nat) (i : Nat) (h : a + i < b) (hb : b ≤ s.size) : bt (s.extract a b) (i : Int) = bt s ((a + i : Nat) : Int) := by
  have h1 : i < (s.extract a b).size := by rw [ByteArray.size_extract]; omega
  unfold bt
  rw [dif_pos (by simpa using h1), dif_pos (show ((a + i : Nat) : Int).toNat < s.size by simp; omega)]
  simp only [Int.toNat_natCast]
  rw [ByteArray.getElem_extract]
def num4 (s : ByteArray) : Int := bt s 0 * 16777216 + bt s 1 * 65536 + bt s 2 * 256 + bt s 3
theorem or4 (s : ByteArray) : Go.bits .or .i64 (Go.bits .or .i64 (Go.bits .or .i64 (wrap64 ((wrap64 (bt s 0)) * 16777216)) (wrap64 ((wrap64 (bt s 1)) * 65536))) (wrap64 ((wrap64 (bt s 2)) * 256))) (wrap64 (bt s 3)) = num4 s := by
  have h0 := bt_range s 0; have h1 := bt_range s 1; have h2 := bt_range s 2; have h3 := bt_range s 3
  unfold num4
  rw [w64_bt, w64_bt, w64_bt, w64_bt]
  generalize bt s 0 = a at *
  generalize bt s 1 = b at *
  generalize bt s 2 = c at *
  generalize bt s 3 = d at *
  rw [w64 (x := a * 16777216) (by omega) (by omega), w64 (x := b * 65536) (by omega) (by omega), w64 (x := c * 256) (by omega) (by omega)]
  rw [or_join (x := a * 16777216) (y := b * 65536) 24 (by omega) (by omega) (by omega) (by omega) (by omega) (by omega), or_join (x := a * 16777216 + b * 65536) (y := c * 256) 16 (by omega) (by omega) (by omega) (by omega) (by omega) (by omega), or_join (x := a * 16777216 + b * 65536 + c * 256) (y := d) 8 (by omega) (by omega) (by omega) (by omega) (by omega) (by omega)]
theorem str_app (a b : List Int) : strOfNums (a ++ b) = strOfNums a ++ strOfNums b := by
  apply ByteArray.ext
  simp [strOfNums]
/-- A head's bytes. -/
def layB (W H D C L : Int) : List Int := [(W / 16777216) % 256, (W / 65536) % 256, (W / 256) % 256, W % 256, (H / 16777216) % 256, (H / 65536) % 256, (H / 256) % 256, H % 256, D % 256, C % 256, 0, 0, L % 256]
theorem lay_f (W H D C L : Int) : head_Lay.f 9 W H D C L = some ((⟨#[73, 72, 68, 82]⟩ : ByteArray), strOfNums (layB W H D C L)) := by kernel_rfl
theorem lay_ev (W H D C L : Int) : Ev (fun k => head_Lay.f k W H D C L) ((⟨#[73, 72, 68, 82]⟩ : ByteArray), strOfNums (layB W H D C L)) := Ev.of (fun k => head_Lay.mono W H D C L k) (lay_f W H D C L)
def datc (p : ByteArray) : S30 := ⟨(⟨#[73, 68, 65, 84]⟩ : ByteArray), p⟩
def endc : S30 := ⟨(⟨#[73, 69, 78, 68]⟩ : ByteArray), (⟨#[]⟩ : ByteArray)⟩
/-- Bytes, one behind the other. -/
def catF : ByteArray → List ByteArray → ByteArray
  | a, [] => a
  | a, p :: r => catF (a ++ p) r
theorem dat_l : (⟨#[73, 68, 65, 84]⟩ : ByteArray).toList = [73, 68, 65, 84] := by kernel_rfl
theorem end_l : (⟨#[73, 69, 78, 68]⟩ : ByteArray).toList = [73, 69, 78, 68] := by kernel_rfl
theorem hdr_l : (⟨#[73, 72, 68, 82]⟩ : ByteArray).toList = [73, 72, 68, 82] := by kernel_rfl
theorem dat_c : chunk_Critical.f (⟨#[73, 68, 65, 84]⟩ : ByteArray) = some true := by kernel_rfl
theorem emp_l : (⟨#[]⟩ : ByteArray).toList = ([] : List UInt8) := by kernel_rfl
theorem dats_loop : ∀ (ps : List ByteArray) (s : HSt), ¬ s.C = 3 → s.gap = false → (s.idat = true ∨ ps ≠ []) → head_loop (ps.map datc ++ [endc]) s = some (outS { s with idat := true, data := catF s.data ps })
  | [], s, _, _, h3 => by
    have hi : s.idat = true := h3.resolve_right (fun h => h rfl)
    have he : endsV s endc.f1 (([] : List S30).length : Int) = 0 := by
      unfold endsV endc
      rw [if_pos emp_l, if_pos hi, if_neg (by decide)]
    show head_loop [endc] s = _
    rw [head_loop, if_pos (show endc.f0.toList = _ from end_l), if_pos he]
    show some (outS s) = some (outS { s with idat := true, data := s.data })
    congr 2
    cases s
    simp only at hi ⊢
    rw [hi]
  | p :: r, s, h1, h2, _ => by
    have ht : takesV s true (datc p).f0 (datc p).f1 = (0, datV s p) := by
      unfold takesV datc
      rw [dat_l, if_neg (by decide), if_neg (by decide), if_neg (by decide), if_pos rfl, if_neg (by rw [h2]; decide), if_neg h1]
    show head_loop (datc p :: (r.map datc ++ [endc])) s = _
    rw [head_loop, if_neg (by show ¬ (⟨#[73, 68, 65, 84]⟩ : ByteArray).toList = _; rw [dat_l]; decide), show (datc p).f0 = (⟨#[73, 68, 65, 84]⟩ : ByteArray) from rfl, dat_c, Option.bind_some, show takesV s true (⟨#[73, 68, 65, 84]⟩ : ByteArray) (datc p).f1 = (0, datV s p) from ht, if_pos rfl]
    exact dats_loop r (datV s p) h1 h2 (.inl rfl)
theorem lay_byt (W H D C L : Int) : Byt (layB W H D C L) := by
  intro x hx
  simp only [layB, List.mem_cons, List.not_mem_nil, or_false] at hx
  omega
theorem lay_bt (W H D C L : Int) (i : Int) : bt (strOfNums (layB W H D C L)) i = rd (layB W H D C L) i := bt_str (lay_byt W H D C L) i
theorem lay_num (W H D C L : Int) (h0 : 0 ≤ W) (h1 : W < 4294967296) : numV (strOfNums (layB W H D C L)) = W := by
  show Go.bits .or .i64 _ _ = _
  rw [or4]
  unfold num4
  rw [lay_bt, lay_bt, lay_bt, lay_bt]
  show (W / 16777216) % 256 * 16777216 + (W / 65536) % 256 * 65536 + (W / 256) % 256 * 256 + W % 256 = W
  omega
theorem lay_size (W H D C L : Int) : (strOfNums (layB W H D C L)).size = 13 := by rw [strOfNums_size]; rfl
theorem lay_num2 (W H D C L : Int) (h0 : 0 ≤ H) (h1 : H < 4294967296) : numV ((strOfNums (layB W H D C L)).extract 4 (strOfNums (layB W H D C L)).size) = H := by
  show Go.bits .or .i64 _ _ = _
  rw [or4]
  unfold num4
  have hs := lay_size W H D C L
  rw [show (0 : Int) = ((0 : Nat) : Int) from rfl, show (1 : Int) = ((1 : Nat) : Int) from rfl, show (2 : Int) = ((2 : Nat) : Int) from rfl, show (3 : Int) = ((3 : Nat) : Int) from rfl, bt_extract _ _ _ _ (by omega) (by omega), bt_extract _ _ _ _ (by omega) (by omega), bt_extract _ _ _ _ (by omega) (by omega), bt_extract _ _ _ _ (by omega) (by omega), lay_bt, lay_bt, lay_bt, lay_bt]
  show (H / 16777216) % 256 * 16777216 + (H / 65536) % 256 * 65536 + (H / 256) % 256 * 256 + H % 256 = H
  omega
theorem lay_first (W H D C L : Int) (h : rgt W H D C L = 0) : Ev (fun k => firstV k (⟨#[73, 72, 68, 82]⟩ : ByteArray) (strOfNums (layB W H D C L))) (W, H, D, C, L, 0) := by
  obtain ⟨a1, a2, a3, a4, a5, a6, a7⟩ := rgt_0 h
  have hD : 0 ≤ D ∧ D < 256 := by unfold dep at a6; omega
  have hC : 0 ≤ C ∧ C < 256 := by unfold dep at a6; omega
  have e8 : wrap64 (bt (strOfNums (layB W H D C L)) 8) = D := by rw [w64_bt, lay_bt]; show D % 256 = D; omega
  have e9 : wrap64 (bt (strOfNums (layB W H D C L)) 9) = C := by rw [w64_bt, lay_bt]; show C % 256 = C; omega
  have e12 : wrap64 (bt (strOfNums (layB W H D C L)) 12) = L := by rw [w64_bt, lay_bt]; show L % 256 = L; omega
  have e10 : bt (strOfNums (layB W H D C L)) 10 = 0 := by rw [lay_bt]; rfl
  have e11 : bt (strOfNums (layB W H D C L)) 11 = 0 := by rw [lay_bt]; rfl
  unfold firstV
  simp only [if_pos hdr_l, if_pos (show ((strOfNums (layB W H D C L)).size : Int) = 13 ∧ bt (strOfNums (layB W H D C L)) 10 = 0 ∧ bt (strOfNums (layB W H D C L)) 11 = 0 from ⟨by rw [lay_size]; rfl, e10, e11⟩), lay_num W H D C L (by omega) (by omega), lay_num2 W H D C L (by omega) (by omega), e8, e9, e12]
  exact Ev.bind (ev_same (Right_ev W H D C L (by omega)) h) (Ev.now _)
theorem szs_dat (ps : List ByteArray) (h : ∀ p ∈ ps, p.size ≤ 1000) : szs (ps.map datc) ≤ 1000 * ps.length := by
  induction ps with
  | nil => exact Nat.le_refl _
  | cons p r ih =>
    have h1 := ih (fun x hx => h x (List.mem_cons_of_mem _ hx))
    have h2 := h p List.mem_cons_self
    show p.size + szs (r.map datc) ≤ 1000 * (r.length + 1)
    omega
theorem back_end (W H D C L : Int) (h : rgt W H D C L = 0) (hC : ¬ C = 3) (ps : List ByteArray) (hn : ps ≠ []) (hl : ps.length ≤ 100) (hz : ∀ p ∈ ps, p.size ≤ 1000) :
    Ev (fun k => head_Read.f k ((⟨(⟨#[73, 72, 68, 82]⟩ : ByteArray), strOfNums (layB W H D C L)⟩ : S30) :: ps.map datc ++ [endc])) (W, H, D, C, L, (⟨#[]⟩ : ByteArray), (⟨#[]⟩ : ByteArray), false, catF (⟨#[]⟩ : ByteArray) ps, 0) := by
  have h1 := dats_loop ps (st0 W H D C L) hC rfl (.inr hn)
  have h2 := read_ev (⟨(⟨#[73, 72, 68, 82]⟩ : ByteArray), strOfNums (layB W H D C L)⟩ : S30) (ps.map datc ++ [endc]) (W, H, D, C, L, 0) _ (lay_first W H D C L h) (by rw [if_pos rfl]; exact h1)
  have h3 := szs_dat ps hz
  refine Read_ev _ _ ?_ ?_ h2
  · simp
    omega
  · show (strOfNums (layB W H D C L)).size + szs (ps.map datc ++ [endc]) ≤ _
    rw [lay_size, szs_append]
    show 13 + (szs (ps.map datc) + 0) ≤ _
    omega
theorem rdB {l : List ByteArray} {i : Nat} (h : i < l.length) : rdOf ByteArray.empty l (i : Int) = l[i] := by
  unfold rdOf
  rw [Int.toNat_natCast, List.getD_eq_getElem?_getD, List.getElem?_eq_getElem h]
  rfl
theorem back_l0 (W H D C L : Int) (h : rgt W H D C L = 0) (hC : ¬ C = 3) (ps : List ByteArray) (hn : ps ≠ []) (hl : ps.length ≤ 100) (hm : ∀ p ∈ ps, p.size ≤ 140737488351232) :
    ∀ (d i : Nat) (x5 : List S30) (x6 : ByteArray), i + d = ps.length → x5 ++ (ps.drop i).map datc = (⟨(⟨#[73, 72, 68, 82]⟩ : ByteArray), strOfNums (layB W H D C L)⟩ : S30) :: ps.map datc → catF x6 (ps.drop i) = catF (⟨#[]⟩ : ByteArray) ps → (∀ p ∈ ps.take i, p.size ≤ 1000) → x6.size ≤ 1000 * i →
      Ev (fun k => vitrinelaw08_HeadBack.l0 k ps x5 x6 (i : Int) W H D C L) true
  | 0, i, x5, x6, hi, e5, e6, hz, hs => by
    have hil : i = ps.length := by omega
    have hx5 : x5 = (⟨(⟨#[73, 72, 68, 82]⟩ : ByteArray), strOfNums (layB W H D C L)⟩ : S30) :: ps.map datc := by
      rw [← e5, List.drop_of_length_le (by omega)]
      simp
    have hx6 : x6 = catF (⟨#[]⟩ : ByteArray) ps := by
      rw [← e6, List.drop_of_length_le (by omega)]
      rfl
    have hz2 : ∀ p ∈ ps, p.size ≤ 1000 := by rw [hil, List.take_length] at hz; exact hz
    refine Ev.step (f := fun k => (head_Read.f k (x5 ++ [endc])).bind fun bt247 => (if bt247.2.2.2.2.2.2.2.2.2 = 0 then (if ((bt247.1 == W && (bt247.2.1 == H && (bt247.2.2.1 == D && (bt247.2.2.2.1 == C && (bt247.2.2.2.2.1 == L))))) && (bt247.2.2.2.2.2.1.toList == ([] : List UInt8) && (bt247.2.2.2.2.2.2.1.toList == ([] : List UInt8) && (!bt247.2.2.2.2.2.2.2.1)))) = true then (if bt247.2.2.2.2.2.2.2.2.1.toList = x6.toList then ((vitrinelaw08_awake.f).bind fun t258 => (some t258)) else (none)) else (none)) else (none))) (fun k => ?_) ?_
    · simp only [vitrinelaw08_HeadBack.l0]
      rw [if_neg (by omega)]
      show (if x5.length < 4398046511104 then _ else _) = _
      rw [if_pos (by rw [hx5]; simp; omega)]
      rfl
    · rw [hx5]
      refine Ev.bind (back_end W H D C L h hC ps hn hl hz2) ?_
      simp only [if_true, beq_self_eq_true, emp_l, Bool.and_self, Bool.not_false]
      rw [hx6]
      simp only [if_true]
      exact aw_id
  | d + 1, i, x5, x6, hi, e5, e6, hz, hs => by
    have hlt : i < ps.length := by omega
    have w2 : wrap64 ((i : Int) + 1) = ((i + 1 : Nat) : Int) := by rw [w64 (by omega) (by omega)]; omega
    have hdr : ps.drop i = ps[i] :: ps.drop (i + 1) := List.drop_eq_getElem_cons hlt
    by_cases hb : ((ps[i]).size : Int) > 1000
    · refine Ev.step (fun k => ?_) aw_id
      simp only [vitrinelaw08_HeadBack.l0]
      rw [if_pos (by omega), if_pos (by omega), rdB hlt, if_pos hb]
    · have hx5l : x5.length ≤ 101 := by
        have := congrArg List.length e5
        rw [List.length_append, List.length_cons, List.length_map, List.length_map] at this
        omega
      refine Ev.step (fun k => ?_) (back_l0 W H D C L h hC ps hn hl hm d (i + 1) (x5 ++ [datc ps[i]]) (x6 ++ ps[i]) (by omega) ?_ ?_ ?_ ?_)
      · simp only [vitrinelaw08_HeadBack.l0]
        rw [if_pos (by omega), if_pos (by omega), rdB hlt, if_neg hb, if_pos (by omega), w2]
        show (if x5.length < 4398046511104 then _ else _) = _
        rw [if_pos (by omega)]
        rfl
      · rw [← e5, hdr, List.map_cons, List.append_assoc]
        rfl
      · rw [← e6, hdr]
        rfl
      · intro p hp
        rw [List.take_succ_eq_append_getElem hlt] at hp
        rcases List.mem_append.1 hp with hp | hp
        · exact hz p hp
        · rw [List.mem_singleton.1 hp]; omega
      · rw [ByteArray.size_append]
        omega
theorem HeadBack : ∀ (a0_0 : Int) (a0_1 : Int) (a0_2 : Int) (a0_3 : Int) (a0_4 : Int) (l1 : List ByteArray), ((Lit.int .i64 a0_0).wf = true) → ((Lit.int .i64 a0_1).wf = true) → ((Lit.int .i64 a0_2).wf = true) → ((Lit.int .i64 a0_3).wf = true) → ((Lit.int .i64 a0_4).wf = true) → (l1.length ≤ maxLen ∧ l1.length * 16 ≤ 140737488351232 ∧ ∀ y_ ∈ l1, (fun s_ : ByteArray => s_.size ≤ 140737488351232) y_) → ∃ k, vitrinelaw08_HeadBack.f k a0_0 a0_1 a0_2 a0_3 a0_4 l1 = some true := by
  intro W H D C L ps _ _ _ _ hL hp
  refine Ev.rounds ?_
  unfold vitrinelaw08_HeadBack.f
  refine Ev.bind (Right_ev W H D C L (wf_i64 hL)) ?_
  have hj : Ev (fun k => vitrinelaw08_HeadBack.j0 k ps true W H D C L) true := by
    refine Ev.step (fun k => ?_) aw_id
    simp only [vitrinelaw08_HeadBack.j0, if_true]
  by_cases h : rgt W H D C L = 0
  · simp only [if_pos h]
    by_cases hC : C = 3
    · simp only [if_pos hC]; exact hj
    · simp only [if_neg hC]
      by_cases h1 : (ps.length : Int) < 1
      · simp only [if_pos h1]; exact hj
      · simp only [if_neg h1]
        by_cases h2 : (ps.length : Int) > 100
        · rw [decide_eq_true h2]; exact hj
        · rw [decide_eq_false h2]
          refine Ev.step (f := fun k => (head_Lay.f k W H D C L).bind fun bt228 => (vitrinelaw08_HeadBack.l0 k ps (([(⟨bt228.1, bt228.2⟩ : S30)] : List (S30))) (⟨#[]⟩ : ByteArray) 0 W H D C L)) (fun k => ?_) ?_
          · simp only [vitrinelaw08_HeadBack.j0, Bool.false_eq_true, if_false]
          · refine Ev.bind (lay_ev W H D C L) ?_
            exact back_l0 W H D C L h hC ps (fun e => by rw [e] at h1; simp at h1) (by omega) hp.2.2 ps.length 0 _ _ (by omega) rfl rfl (fun p hp => by simp at hp) (Nat.zero_le _)
  · simp only [if_neg h]; exact hj

end Go.Proofs.Ytbpnkgidlmjkkaa.Pure
