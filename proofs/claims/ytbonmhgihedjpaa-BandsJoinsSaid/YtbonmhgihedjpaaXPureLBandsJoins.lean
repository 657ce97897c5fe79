/- BandsJoins, plain: the raster that a manifest and bands are is the document's. Condition: sizes as the model allows. -/
import Derived.Test.YtbonmhgihedjpaaXPL15x2
import Derived.Test.YtbonmhgihedjpaaXPL15x3
import Derived.Test.YtbonmhgihedjpaaXPL15x4
import Derived.Test.YtbonmhgihedjpaaXPL15x5
import Derived.Test.YtbonmhgihedjpaaXPL15x6
import Derived.Test.YtbonmhgihedjpaaXPL15x7
import Derived.Test.YtbonmhgihedjpaaXPL15x9
import Derived.Test.YtbonmhgihedjpaaXPL15x10
import Derived.Test.YtbonmhgihedjpaaXPL15x11
import Derived.Test.YtbonmhgihedjpaaXPL15x12
import Derived.Test.YtbonmhgihedjpaaXPL15x13
import Derived.Test.YtbonmhgihedjpaaXPL15x14
import Derived.Test.YtbonmhgihedjpaaXPL15x15
import Derived.Test.YtbonmhgihedjpaaXPL15x16
import Derived.Test.YtbonmhgihedjpaaXPL15x22
import Derived.Test.YtbonmhgihedjpaaXPL15x23
import Derived.Test.YtbonmhgihedjpaaXPL15x24
import Derived.Test.YtbonmhgihedjpaaXPL15x25
import Derived.Test.YtbonmhgihedjpaaXPL15x27
import Derived.Test.YtbonmhgihedjpaaXPL15x28
import Derived.Test.YtbonmhgihedjpaaXPL15x29
import Derived.Test.YtbonmhgihedjpaaXPL15x30
import Derived.Test.YtbonmhgihedjpaaXWMore
import Derived.Laws.Strings
namespace Go.Proofs.Ytbonmhgihedjpaa.Pure
open Go.RowKit Go.Proofs.YtbonmhgihedjpaaW.PrintWords Go.Proofs.YtbonmhgihedjpaaW.PrintLast Go.Proofs.YtbonmhgihedjpaaW.PrintMore Go.Proofs.Ytbonmhgihedjpaa.PL15
set_option linter.unusedVariables false
set_option linter.unusedSimpArgs false
theorem w64 {x : Int} (h1 : -9223372036854775808 ≤ x) (h2 : x ≤ 9223372036854775807) : wrap64 x = x := by
  unfold wrap64
  omega
theorem w64_bt (s : ByteArray) (i : Int) : wrap64 (bt s i) = bt s i := by
  have := bt_range s i
  exact w64 (by omega) (by omega)
def Byt (xs : List Int) : Prop := ∀ x ∈ xs, 0 ≤ x ∧ x ≤ 255
theorem bytesOf_str {xs : List Int} (h : Byt xs) : bytesOf (strOfNums xs) = xs := by
  unfold bytesOf strOfNums
  simp only [List.map_map, List.toList_toArray]
  conv => rhs; rw [← List.map_id xs]
  refine List.map_congr_left fun x hx => ?_
  have := h x hx
  simp only [Function.comp, UInt8.toNat_ofNat', id]
  omega
theorem toList_data (s : ByteArray) : s.toList = s.data.toList := by
  exact ByteArray.toList_eq s
theorem ev_true {g : Nat → Option Bool} (hm : ∀ k, LeO (g k) (g (k + 1))) (k : Nat) (h : g k = some true) : Ev g true := Ev.of hm h
theorem ev_same {α : Type} {g : Nat → Option α} {r r' : α} (h : Ev g r) (e : r = r') : Ev g r' := e ▸ h
theorem ev_id {α : Type} {g : Nat → Option α} {r : α} (h : Ev g r) : Ev (fun n => (g n).bind fun t => some t) r := Ev.bind (f := fun _ t => some t) h (Ev.now r)
theorem str_size (xs : List Int) : (strOfNums xs).size = xs.length := by
  unfold strOfNums
  simp [ByteArray.size]
def dep (c d : Int) : Prop := (c = 0 ∧ (d = 1 ∨ d = 2 ∨ d = 4 ∨ d = 8 ∨ d = 16)) ∨ (c = 3 ∧ (d = 1 ∨ d = 2 ∨ d = 4 ∨ d = 8)) ∨ ((c = 2 ∨ c = 4 ∨ c = 6) ∧ (d = 8 ∨ d = 16))
instance (c d : Int) : Decidable (dep c d) := by unfold dep; infer_instance
def rgt (W H D C L : Int) : Int := if 1 ≤ W ∧ W ≤ 2147483647 ∧ 1 ≤ H ∧ H ≤ 2147483647 ∧ dep C D ∧ (L = 0 ∨ L = 1) then (if W > 1024 ∨ H > 1024 ∨ W * H > 4096 then 5 else 0) else 24
theorem rgt_0 {W H D C L : Int} (h : rgt W H D C L = 0) : 1 ≤ W ∧ W ≤ 1024 ∧ 1 ≤ H ∧ H ≤ 1024 ∧ W * H ≤ 4096 ∧ dep C D ∧ (L = 0 ∨ L = 1) := by
  unfold rgt at h
  by_cases hc : 1 ≤ W ∧ W ≤ 2147483647 ∧ 1 ≤ H ∧ H ≤ 2147483647 ∧ dep C D ∧ (L = 0 ∨ L = 1)
  · rw [if_pos hc] at h
    by_cases h2 : W > 1024 ∨ H > 1024 ∨ W * H > 4096
    · rw [if_pos h2] at h; omega
    · obtain ⟨a, _, b, _, c, d⟩ := hc
      exact ⟨a, by omega, b, by omega, by omega, c, d⟩
  · rw [if_neg hc] at h; omega
theorem rgt_area {W H : Int} (h1 : 1 ≤ W) (h2 : W ≤ 2147483647) (h3 : 1 ≤ H) (h4 : H ≤ 2147483647) : wrap64 (W * H) = W * H := by
  have h5 : W * H ≤ 2147483647 * 2147483647 := Int.mul_le_mul h2 h4 (by omega) (by omega)
  have h6 : 0 ≤ W * H := Int.mul_nonneg (by omega) (by omega)
  exact w64 (by omega) (by omega)
theorem rRight_ev (W H D C L : Int) : Ev (fun k => vitrineref08_Right.f k W H D C L) (rgt W H D C L) := by
  have h4 : ∀ b : Bool, Ev (fun k => vitrineref08_Right.j4 k b) (if b = true then 5 else 0) := by
    intro b
    refine Ev.step (f := fun _ => some (if b = true then 5 else 0)) (fun k => ?_) (Ev.now _)
    simp only [vitrineref08_Right.j4]
    cases b <;> rfl
  have h3 : ∀ b : Bool, (b = false → 1 ≤ W ∧ W ≤ 2147483647 ∧ 1 ≤ H ∧ H ≤ 2147483647) → Ev (fun k => vitrineref08_Right.j3 k b W H D C L) (if b = true then 24 else if W > 1024 ∨ H > 1024 ∨ W * H > 4096 then 5 else 0) := by
    intro b hb
    cases b with
    | true =>
      refine Ev.step (f := fun _ => some 24) (fun k => ?_) (Ev.now _)
      simp only [vitrineref08_Right.j3, if_true]
    | false =>
      obtain ⟨a1, a2, a3, a4⟩ := hb rfl
      simp only [Bool.false_eq_true, if_false]
      by_cases hw : W > 1024
      · refine Ev.step (fun k => ?_) (ev_same (h4 true) (by rw [if_pos rfl, if_pos (.inl hw)]))
        simp only [vitrineref08_Right.j3]
        rw [if_neg (by decide), if_pos hw]
      · by_cases hh : H > 1024
        · refine Ev.step (fun k => ?_) (ev_same (h4 true) (by rw [if_pos rfl, if_pos (.inr (.inl hh))]))
          simp only [vitrineref08_Right.j3]
          rw [if_neg (by decide), if_neg hw, if_pos hh]
        · refine Ev.step (fun k => ?_) (ev_same (h4 (decide (W * H > 4096))) ?_)
          · simp only [vitrineref08_Right.j3]
            rw [if_neg (by decide), if_neg hw, if_neg hh, rgt_area a1 a2 a3 a4]
          · by_cases hz : W * H > 4096
            · rw [decide_eq_true hz, if_pos rfl, if_pos (.inr (.inr hz))]
            · rw [decide_eq_false hz, if_neg (by decide), if_neg (by omega)]
  have h2 : ∀ b : Bool, (b = true ↔ dep C D) → Ev (fun k => vitrineref08_Right.j2 k b W H D C L) (rgt W H D C L) := by
    intro b hb
    have bad : ¬ (1 ≤ W ∧ W ≤ 2147483647 ∧ 1 ≤ H ∧ H ≤ 2147483647 ∧ dep C D ∧ (L = 0 ∨ L = 1)) → Ev (fun k => vitrineref08_Right.j3 k true W H D C L) (rgt W H D C L) := fun hn =>
      ev_same (h3 true (fun e => by cases e)) (by unfold rgt; rw [if_neg hn, if_pos rfl])
    by_cases c1 : W < 1
    · refine Ev.step (fun k => ?_) (bad (by omega))
      simp only [vitrineref08_Right.j2]; rw [if_pos c1]
    · by_cases c2 : W > 2147483647
      · refine Ev.step (fun k => ?_) (bad (by omega))
        simp only [vitrineref08_Right.j2]; rw [if_neg c1, if_pos c2]
      · by_cases c3 : H < 1
        · refine Ev.step (fun k => ?_) (bad (by omega))
          simp only [vitrineref08_Right.j2]; rw [if_neg c1, if_neg c2, if_pos c3]
        · by_cases c4 : H > 2147483647
          · refine Ev.step (fun k => ?_) (bad (by omega))
            simp only [vitrineref08_Right.j2]; rw [if_neg c1, if_neg c2, if_neg c3, if_pos c4]
          · by_cases c5 : b = true
            · by_cases c6 : L = 0
              · refine Ev.step (fun k => ?_) (ev_same (h3 false (fun _ => by omega)) ?_)
                · simp only [vitrineref08_Right.j2]; rw [if_neg c1, if_neg c2, if_neg c3, if_neg c4, if_pos c5, if_pos c6]
                · unfold rgt; rw [if_neg (by decide), if_pos (show (1 ≤ W ∧ W ≤ 2147483647 ∧ 1 ≤ H ∧ H ≤ 2147483647 ∧ dep C D ∧ (L = 0 ∨ L = 1)) from ⟨by omega, by omega, by omega, by omega, hb.1 c5, .inl c6⟩)]
              · refine Ev.step (fun k => ?_) (ev_same (h3 (L != 1) (fun _ => by omega)) ?_)
                · simp only [vitrineref08_Right.j2]; rw [if_neg c1, if_neg c2, if_neg c3, if_neg c4, if_pos c5, if_neg c6]
                · unfold rgt
                  by_cases c7 : L = 1
                  · rw [if_neg (by simp [c7]), if_pos (show (1 ≤ W ∧ W ≤ 2147483647 ∧ 1 ≤ H ∧ H ≤ 2147483647 ∧ dep C D ∧ (L = 0 ∨ L = 1)) from ⟨by omega, by omega, by omega, by omega, hb.1 c5, .inr c7⟩)]
                  · rw [if_pos (by simpa using c7), if_neg (by omega)]
            · refine Ev.step (fun k => ?_) (bad (fun h => c5 (hb.2 h.2.2.2.2.1)))
              simp only [vitrineref08_Right.j2]; rw [if_neg c1, if_neg c2, if_neg c3, if_neg c4, if_neg c5]
  have h1 : ∀ b : Bool, C ≠ 0 → C ≠ 3 → (b = true ↔ (C = 2 ∨ C = 4 ∨ C = 6)) → Ev (fun k => vitrineref08_Right.j1 k D false b W H D C L) (rgt W H D C L) := by
    intro b n0 n3 hb
    by_cases c1 : b = true
    · have hc := hb.1 c1
      by_cases c2 : D = 8
      · refine Ev.step (fun k => ?_) (h2 true ⟨fun _ => Or.inr (Or.inr ⟨hc, Or.inl c2⟩), fun _ => rfl⟩)
        simp only [vitrineref08_Right.j1]; rw [if_pos c1, if_pos c2]
      · refine Ev.step (fun k => ?_) (h2 (D == 16) ?_)
        · simp only [vitrineref08_Right.j1]; rw [if_pos c1, if_neg c2]
        · unfold dep; rw [beq_iff_eq]; omega
    · refine Ev.step (fun k => ?_) (h2 false ?_)
      · simp only [vitrineref08_Right.j1]; rw [if_neg c1]
      · refine ⟨fun e => (by cases e), fun h => ?_⟩
        exact absurd (hb.2 (by unfold dep at h; omega)) c1
  have h0 : ∀ b : Bool, (b = true ↔ (D = 1 ∨ D = 2 ∨ D = 4)) → Ev (fun k => vitrineref08_Right.j0 k D b W H D C L) (rgt W H D C L) := by
    intro b hb
    by_cases c0 : C = 0
    · by_cases c1 : b = true
      · have := hb.1 c1
        refine Ev.step (fun k => ?_) (h2 true ⟨fun _ => .inl ⟨c0, by omega⟩, fun _ => rfl⟩)
        simp only [vitrineref08_Right.j0]; rw [if_pos c0, if_pos c1]
      · have hnb : ¬ (D = 1 ∨ D = 2 ∨ D = 4) := fun h => c1 (hb.2 h)
        by_cases c2 : D = 8
        · refine Ev.step (fun k => ?_) (h2 true ⟨fun _ => .inl ⟨c0, by omega⟩, fun _ => rfl⟩)
          simp only [vitrineref08_Right.j0]; rw [if_pos c0, if_neg c1, if_pos c2]
        · refine Ev.step (fun k => ?_) (h2 (D == 16) ?_)
          · simp only [vitrineref08_Right.j0]; rw [if_pos c0, if_neg c1, if_neg c2]
          · unfold dep; rw [beq_iff_eq]; omega
    · by_cases c3 : C = 3
      · by_cases c1 : b = true
        · have := hb.1 c1
          refine Ev.step (fun k => ?_) (h2 true ⟨fun _ => .inr (.inl ⟨c3, by omega⟩), fun _ => rfl⟩)
          simp only [vitrineref08_Right.j0]; rw [if_neg c0, if_pos c3, if_pos c1]
        · have hnb : ¬ (D = 1 ∨ D = 2 ∨ D = 4) := fun h => c1 (hb.2 h)
          refine Ev.step (fun k => ?_) (h2 (D == 8) ?_)
          · simp only [vitrineref08_Right.j0]; rw [if_neg c0, if_pos c3, if_neg c1]
          · unfold dep; rw [beq_iff_eq]; omega
      · by_cases c2 : C = 2
        · refine Ev.step (fun k => ?_) (h1 (C == 2) c0 c3 (by rw [beq_iff_eq]; omega))
          simp only [vitrineref08_Right.j0]; rw [if_neg c0, if_neg c3, if_pos c2]
        · by_cases c4 : C = 4
          · refine Ev.step (fun k => ?_) (h1 (C == 4) c0 c3 (by rw [beq_iff_eq]; omega))
            simp only [vitrineref08_Right.j0]; rw [if_neg c0, if_neg c3, if_neg c2, if_pos c4]
          · refine Ev.step (fun k => ?_) (h1 (C == 6) c0 c3 (by rw [beq_iff_eq]; omega))
            simp only [vitrineref08_Right.j0]; rw [if_neg c0, if_neg c3, if_neg c2, if_neg c4]
  unfold vitrineref08_Right.f
  by_cases d1 : D = 1
  · simp only [if_pos d1]; exact h0 true ⟨fun _ => .inl d1, fun _ => rfl⟩
  · simp only [if_neg d1]
    by_cases d2 : D = 2
    · simp only [if_pos d2]; exact h0 true ⟨fun _ => .inr (.inl d2), fun _ => rfl⟩
    · simp only [if_neg d2]; exact h0 (D == 4) (by rw [beq_iff_eq]; omega)
theorem wrapi64 {x : Int} (h1 : -9223372036854775808 ≤ x) (h2 : x ≤ 9223372036854775807) : IntKind.i64.wrap x = x := by
  rw [IntKind.wrap_i64]
  omega
theorem or_join {x y : Int} (i : Nat) (hx : x % 2 ^ i = 0) (hx0 : 0 ≤ x) (hx1 : x < 2 ^ 62) (hy0 : 0 ≤ y) (hy1 : y < 2 ^ i) (hy2 : y < 2 ^ 62) : Go.bits .or .i64 x y = x + y :=
  bits_join .i64 62 (by decide) (fun n h0 h1 => wrapi64 (by omega) (by omega)) i x y hx0 hx hx1 hy0 hy1 hy2
theorem w_succ {i : Nat} (h : i ≤ 4611686018427387904) : wrap64 ((i : Int) + 1) = ((i + 1 : Nat) : Int) := by rw [w64 (by omega) (by omega)]; omega
theorem toList_nil (s : ByteArray) : s.toList = [] ↔ s.size = 0 := by
  rw [toList_data, ← data_length, List.length_eq_zero_iff]
theorem toList_eq {s t : ByteArray} : s.toList = t.toList ↔ s = t := by
  rw [toList_data, toList_data]
  constructor
  · intro h
    cases s; cases t
    simp only [ByteArray.mk.injEq]
    exact Array.toList_inj.1 h
  · intro h; rw [h]
theorem bt_extract (s : ByteArray) (a b : Nat) (i : Nat) (h : a + i < b) (hb : b ≤ s.size) : bt (s.extract a b) (i : Int) = bt s ((a + i : Nat) : Int) := by
  have h1 : i < (s.extract a b).size := by rw [ByteArray.size_extract]; omega
  unfold bt
  rw [dif_pos (by simpa using h1), dif_pos (show ((a + i : Nat) : Int).toNat < s.size by simp; omega)]
  simp only [Int.toNat_natCast]
  rw [ByteArray.getElem_extract]
def num4 (s : ByteArray) : Int := bt s 0 * 16777216 + bt s 1 * 65536 + bt s 2 * 256 + bt s 3
theorem num4_range (s : ByteArray) : 0 ≤ num4 s ∧ num4 s < 4294967296 := by
  unfold num4
  have h0 := bt_range s 0; have h1 := bt_range s 1; have h2 := bt_range s 2; have h3 := bt_range s 3
  omega
theorem num4_extract (s : ByteArray) (a b : Nat) (h : a + 4 ≤ b) (hb : b ≤ s.size) : num4 (s.extract a b) = num4 (s.extract a (a + 4)) := by
  unfold num4
  rw [show (0 : Int) = ((0 : Nat) : Int) from rfl, show (1 : Int) = ((1 : Nat) : Int) from rfl, show (2 : Int) = ((2 : Nat) : Int) from rfl, show (3 : Int) = ((3 : Nat) : Int) from rfl,
    bt_extract _ _ _ _ (by omega) hb, bt_extract _ _ _ _ (by omega) hb, bt_extract _ _ _ _ (by omega) hb, bt_extract _ _ _ _ (by omega) hb, bt_extract _ _ _ _ (by omega) (by omega), bt_extract _ _ _ _ (by omega) (by omega), bt_extract _ _ _ _ (by omega) (by omega), bt_extract _ _ _ _ (by omega) (by omega)]
theorem or4 (s : ByteArray) : Go.bits .or .i64 (Go.bits .or .i64 (Go.bits .or .i64 (wrap64 ((wrap64 (bt s 0)) * 16777216)) (wrap64 ((wrap64 (bt s 1)) * 65536))) (wrap64 ((wrap64 (bt s 2)) * 256))) (wrap64 (bt s 3)) = num4 s := by
  have h0 := bt_range s 0; have h1 := bt_range s 1; have h2 := bt_range s 2; have h3 := bt_range s 3
  unfold num4
  rw [w64_bt, w64_bt, w64_bt, w64_bt]
  generalize bt s 0 = a at *
  generalize bt s 1 = b at *
  generalize bt s 2 = c at *
  generalize bt s 3 = d at *
  rw [w64 (x := a * 16777216) (by omega) (by omega), w64 (x := b * 65536) (by omega) (by omega), w64 (x := c * 256) (by omega) (by omega)]
  rw [or_join (x := a * 16777216) (y := b * 65536) 24 (by omega) (by omega) (by omega) (by omega) (by omega) (by omega), or_join (x := a * 16777216 + b * 65536) (y := c * 256) 16 (by omega) (by omega) (by omega) (by omega) (by omega) (by omega), or_join (x := a * 16777216 + b * 65536 + c * 256) (y := d) 8 (by omega) (by omega) (by omega) (by omega) (by omega) (by omega)]
theorem of_loop (s : ByteArray) (hs : s.size = 4) : Ev (fun k => vitrineref06_Of.l0 k s 0 0) (num4 s) := by
  have h0 := bt_range s 0; have h1 := bt_range s 1; have h2 := bt_range s 2; have h3 := bt_range s 3
  refine Ev.step (f := fun k => vitrineref06_Of.l0 k s (bt s 0) 1) (fun k => ?_) ?_
  · simp only [vitrineref06_Of.l0]
    rw [if_pos (by omega), if_pos (by omega), w64_bt, w64 (x := 256 * 0) (by omega) (by omega), w64 (x := 256 * 0 + bt s 0) (by omega) (by omega), w64 (x := 0 + 1) (by omega) (by omega)]
    congr 1 <;> omega
  refine Ev.step (f := fun k => vitrineref06_Of.l0 k s (256 * bt s 0 + bt s 1) 2) (fun k => ?_) ?_
  · simp only [vitrineref06_Of.l0]
    rw [if_pos (by omega), if_pos (by omega), w64_bt, w64 (x := 256 * bt s 0) (by omega) (by omega), w64 (x := 256 * bt s 0 + bt s 1) (by omega) (by omega), w64 (x := 1 + 1) (by omega) (by omega)]
    rfl
  refine Ev.step (f := fun k => vitrineref06_Of.l0 k s (256 * (256 * bt s 0 + bt s 1) + bt s 2) 3) (fun k => ?_) ?_
  · simp only [vitrineref06_Of.l0]
    rw [if_pos (by omega), if_pos (by omega), w64_bt, w64 (x := 256 * (256 * bt s 0 + bt s 1)) (by omega) (by omega), w64 (x := 256 * (256 * bt s 0 + bt s 1) + bt s 2) (by omega) (by omega), w64 (x := 2 + 1) (by omega) (by omega)]
    rfl
  refine Ev.step (f := fun k => vitrineref06_Of.l0 k s (256 * (256 * (256 * bt s 0 + bt s 1) + bt s 2) + bt s 3) 4) (fun k => ?_) ?_
  · simp only [vitrineref06_Of.l0]
    rw [if_pos (by omega), if_pos (by omega), w64_bt, w64 (x := 256 * (256 * (256 * bt s 0 + bt s 1) + bt s 2)) (by omega) (by omega), w64 (x := 256 * (256 * (256 * bt s 0 + bt s 1) + bt s 2) + bt s 3) (by omega) (by omega), w64 (x := 3 + 1) (by omega) (by omega)]
    rfl
  refine Ev.step (f := fun _ => some (num4 s)) (fun k => ?_) (Ev.now _)
  simp only [vitrineref06_Of.l0]
  rw [if_neg (by omega)]
  unfold num4
  congr 1
  omega
theorem Of_ev (s : ByteArray) (hs : s.size = 4) : Ev (fun k => vitrineref06_Of.f k s) (num4 s) := by
  unfold vitrineref06_Of.f
  exact of_loop s hs
theorem pad_l0 (s : ByteArray) (hs : s.size ≤ 1099511627776) (n3 : Int) (r : ByteArray) : ∀ (d : Nat) (xs : List Int), xs.length + d ≤ 1000 → d < 64 → (s.size + xs.length + d) % 64 = 56 → Ev (fun k => sha_pad.l1 k s n3 (xs ++ List.replicate d 0) 56) r → Ev (fun k => sha_pad.l0 k s n3 xs) r := by
  intro d
  induction d with
  | zero =>
    intro xs hx hd hm h
    refine Ev.step (f := fun k => sha_pad.l1 k s n3 xs 56) (fun k => ?_) (by simpa using h)
    simp only [sha_pad.l0]
    rw [w64 (by omega) (by omega), Int.tmod_eq_emod_of_nonneg (by omega), if_pos (by omega)]
  | succ d ih =>
    intro xs hx hd hm h
    refine Ev.step (f := fun k => sha_pad.l0 k s n3 (xs ++ [0])) (fun k => ?_) (ih (xs ++ [0]) (by simp; omega) (by omega) (by simp; omega) ?_)
    · simp only [sha_pad.l0]
      rw [w64 (by omega) (by omega), Int.tmod_eq_emod_of_nonneg (by omega), if_neg (by omega), if_pos (by omega)]
    · rw [List.append_assoc]
      exact h
def padT (n3 : Int) : Nat → List Int
  | 0 => []
  | j + 1 => (shr .u64 n3 (8 * (j : Int))) % 256 :: padT n3 j
theorem padT_len (n3 : Int) : ∀ j, (padT n3 j).length = j
  | 0 => rfl
  | j + 1 => by simp [padT, padT_len n3 j]
theorem pad_l1 (s : ByteArray) (hs : s.size ≤ 1099511627776) (n3 : Int) : ∀ (j : Nat) (xs : List Int), j ≤ 8 → xs.length + j ≤ 2000 → Ev (fun k => sha_pad.l1 k s n3 xs (8 * (j : Int) - 8)) (s ++ strOfNums (xs ++ padT n3 j)) := by
  intro j
  induction j with
  | zero =>
    intro xs hj hx
    refine ⟨1, fun k hk => ?_⟩
    obtain ⟨m, rfl⟩ : ∃ m, k = m + 1 := ⟨k - 1, by omega⟩
    simp only [sha_pad.l1]
    rw [if_neg (by omega), if_pos (by rw [str_size]; omega), padT, List.append_nil]
  | succ j ih =>
    intro xs hj hx
    refine Ev.step (f := fun k => sha_pad.l1 k s n3 (xs ++ [(shr .u64 n3 (8 * (j : Int))) % 256]) (8 * (j : Int) - 8)) (fun k => ?_) ?_
    · simp only [sha_pad.l1]
      rw [show (8 * ((j + 1 : Nat) : Int) - 8) = 8 * (j : Int) by omega, if_pos (by omega), if_pos (by omega), if_pos (by omega), w64 (by omega) (by omega)]
    · have := ih (xs ++ [(shr .u64 n3 (8 * (j : Int))) % 256]) (by omega) (by simp; omega)
      rw [List.append_assoc] at this
      exact this
def padZ (n : Nat) : Nat := (119 - n % 64) % 64
def padAll (s : ByteArray) : ByteArray := s ++ strOfNums ([128] ++ List.replicate (padZ s.size) 0 ++ padT (IntKind.u64.wrap ((IntKind.u64.wrap ((s.size : Int))) * 8)) 8)
theorem padAll_size (s : ByteArray) : (padAll s).size = s.size + 9 + padZ s.size := by
  unfold padAll
  rw [ByteArray.size_append, str_size]
  simp [padT_len]
  omega
theorem pad_ev (s : ByteArray) (hs : s.size ≤ 1099511627776) : Ev (fun k => sha_pad.f k s) (padAll s) := by
  refine pad_l0 s hs _ _ (padZ s.size) [128] (by simp; unfold padZ; omega) (by unfold padZ; omega) (by simp; unfold padZ; omega) ?_
  exact pad_l1 s hs _ 8 _ (by omega) (by simp; unfold padZ; omega)
def shaS (s : ByteArray) : ByteArray := strOfNums (sha_out (sha_run (padAll s) ((padAll s).size / 64)) 8)
theorem sum_ev (s : ByteArray) (hs : s.size ≤ 1099511627776) : Ev (fun k => sha_Sum.f k s) (shaS s) := by
  refine Ev.bind (f := fun _ all => if all.size % 64 = 0 ∧ all.size < 4611686018427387904 then some (strOfNums (sha_out (sha_run all (all.size / 64)) 8)) else none) (pad_ev s hs) ?_
  refine ⟨0, fun k _ => ?_⟩
  have h := padAll_size s
  rw [if_pos (by rw [h]; unfold padZ; omega)]
  rfl
def mb (h : Nat) : Nat := (h + 7) / 8
def be_ (h i : Nat) : Nat := min (8 * (i + 1)) h
theorem texts_loop (l : List ByteArray) (hl : l.length ≤ 4611686018427387904) : ∀ d i : Nat, i + d = l.length → Ev (fun k => vitrinelaw15_texts.l0 k l l (i : Int)) true := by
  intro d
  induction d with
  | zero =>
    intro i hi
    refine Ev.step (f := fun _ => some true) (fun k => ?_) (Ev.now _)
    simp only [vitrinelaw15_texts.l0]
    rw [if_neg (by omega)]
  | succ d ih =>
    intro i hi
    have w1 : wrap64 ((i : Int) + 1) = ((i + 1 : Nat) : Int) := by rw [w64 (by omega) (by omega)]; omega
    refine Ev.step (fun k => ?_) (ih (i + 1) (by omega))
    simp only [vitrinelaw15_texts.l0]
    rw [if_pos (by omega), if_pos (by omega), if_pos (by omega), w1]
    simp only [if_true]
theorem texts_ev (l : List ByteArray) (hl : l.length ≤ 4611686018427387904) : Ev (fun k => vitrinelaw15_texts.f k l l) true := by
  refine Ev.congr (f := fun k => vitrinelaw15_texts.l0 k l l 0) (fun k => ?_) (texts_loop l hl l.length 0 (by omega))
  unfold vitrinelaw15_texts.f
  rw [if_pos rfl]
theorem awake15 : Ev (fun k => vitrinelaw15_awake.f k) true := ev_true (fun k => vitrinelaw15_awake.mono k) 200 (by kernel_rfl)
theorem bits_u32 (a b : Nat) (ha : a < 4294967296) (hb : b < 4294967296) :
    Go.bits .or .u32 (a : Int) (b : Int) = ((a ||| b : Nat) : Int) ∧ Go.bits .xor .u32 (a : Int) (b : Int) = ((a ^^^ b : Nat) : Int) ∧ Go.bits .and .u32 (a : Int) (b : Int) = ((a &&& b : Nat) : Int) ∧ Go.bits .andNot .u32 (a : Int) (b : Int) = ((a &&& (4294967295 - b) : Nat) : Int) := by
  have w : ∀ n : Nat, n < 4294967296 → IntKind.u32.wrap ((n : Nat) : Int) = (n : Int) := fun n hn => by rw [IntKind.wrap_u32']; omega
  have e1 : Go.bits .or .u32 (a : Int) (b : Int) = IntKind.u32.wrap ((BitVec.ofInt 32 (a : Int) ||| BitVec.ofInt 32 (b : Int)).toNat : Int) := rfl
  have e2 : Go.bits .xor .u32 (a : Int) (b : Int) = IntKind.u32.wrap ((BitVec.ofInt 32 (a : Int) ^^^ BitVec.ofInt 32 (b : Int)).toNat : Int) := rfl
  have e3 : Go.bits .and .u32 (a : Int) (b : Int) = IntKind.u32.wrap ((BitVec.ofInt 32 (a : Int) &&& BitVec.ofInt 32 (b : Int)).toNat : Int) := rfl
  have e4 : Go.bits .andNot .u32 (a : Int) (b : Int) = IntKind.u32.wrap ((BitVec.ofInt 32 (a : Int) &&& ~~~ BitVec.ofInt 32 (b : Int)).toNat : Int) := rfl
  refine ⟨?_, ?_, ?_, ?_⟩
  · rw [e1, BitVec.ofInt_natCast, BitVec.ofInt_natCast, BitVec.toNat_or, BitVec.toNat_ofNat, BitVec.toNat_ofNat, Nat.mod_eq_of_lt (by omega), Nat.mod_eq_of_lt (by omega)]
    exact w _ (Nat.or_lt_two_pow (n := 32) ha hb)
  · rw [e2, BitVec.ofInt_natCast, BitVec.ofInt_natCast, BitVec.toNat_xor, BitVec.toNat_ofNat, BitVec.toNat_ofNat, Nat.mod_eq_of_lt (by omega), Nat.mod_eq_of_lt (by omega)]
    exact w _ (Nat.xor_lt_two_pow (n := 32) ha hb)
  · rw [e3, BitVec.ofInt_natCast, BitVec.ofInt_natCast, BitVec.toNat_and, BitVec.toNat_ofNat, BitVec.toNat_ofNat, Nat.mod_eq_of_lt (by omega), Nat.mod_eq_of_lt (by omega)]
    exact w _ (Nat.lt_of_le_of_lt Nat.and_le_left ha)
  · rw [e4, BitVec.ofInt_natCast, BitVec.ofInt_natCast, BitVec.toNat_and, BitVec.toNat_not, BitVec.toNat_ofNat, BitVec.toNat_ofNat, Nat.mod_eq_of_lt (by omega), Nat.mod_eq_of_lt (by omega)]
    exact w _ (Nat.lt_of_le_of_lt Nat.and_le_left ha)
theorem bits_i64 (a b : Nat) (ha : a < 2 ^ 62) (hb : b < 2 ^ 62) :
    Go.bits .or .i64 (a : Int) (b : Int) = ((a ||| b : Nat) : Int) ∧ Go.bits .xor .i64 (a : Int) (b : Int) = ((a ^^^ b : Nat) : Int) ∧ Go.bits .and .i64 (a : Int) (b : Int) = ((a &&& b : Nat) : Int) := by
  have e1 : Go.bits .or .i64 (a : Int) (b : Int) = IntKind.i64.wrap ((BitVec.ofInt 64 (a : Int) ||| BitVec.ofInt 64 (b : Int)).toNat : Int) := rfl
  have e2 : Go.bits .xor .i64 (a : Int) (b : Int) = IntKind.i64.wrap ((BitVec.ofInt 64 (a : Int) ^^^ BitVec.ofInt 64 (b : Int)).toNat : Int) := rfl
  have e3 : Go.bits .and .i64 (a : Int) (b : Int) = IntKind.i64.wrap ((BitVec.ofInt 64 (a : Int) &&& BitVec.ofInt 64 (b : Int)).toNat : Int) := rfl
  refine ⟨?_, ?_, ?_⟩
  · rw [e1, BitVec.ofInt_natCast, BitVec.ofInt_natCast, BitVec.toNat_or, BitVec.toNat_ofNat, BitVec.toNat_ofNat, Nat.mod_eq_of_lt (by omega), Nat.mod_eq_of_lt (by omega)]
    have := Nat.or_lt_two_pow ha hb
    exact wrapi64 (by omega) (by omega)
  · rw [e2, BitVec.ofInt_natCast, BitVec.ofInt_natCast, BitVec.toNat_xor, BitVec.toNat_ofNat, BitVec.toNat_ofNat, Nat.mod_eq_of_lt (by omega), Nat.mod_eq_of_lt (by omega)]
    have := Nat.xor_lt_two_pow ha hb
    exact wrapi64 (by omega) (by omega)
  · rw [e3, BitVec.ofInt_natCast, BitVec.ofInt_natCast, BitVec.toNat_and, BitVec.toNat_ofNat, BitVec.toNat_ofNat, Nat.mod_eq_of_lt (by omega), Nat.mod_eq_of_lt (by omega)]
    have : a &&& b ≤ a := Nat.and_le_left
    exact wrapi64 (by omega) (by omega)
def nrot (x n : Nat) : Nat := x / 2 ^ n ||| x * 2 ^ (32 - n) % 4294967296
theorem nrot_lt {x : Nat} (h : x < 4294967296) (n : Nat) : nrot x n < 4294967296 :=
  Nat.or_lt_two_pow (n := 32) (Nat.lt_of_le_of_lt (Nat.div_le_self _ _) h) (Nat.mod_lt _ (by decide))
theorem trn_eq (x n : Nat) (hx : x < 4294967296) (hn : n ≤ 32) : sha_trn (x : Int) (n : Int) = (nrot x n : Int) := by
  unfold sha_trn shr shl
  have h1 : wrap64 (32 - (n : Int)) = ((32 - n : Nat) : Int) := by unfold wrap64; omega
  have h2 : (IntKind.u32.bits : Nat) = 32 := rfl
  rw [h1, Int.toNat_natCast, Int.toNat_natCast, h2, Nat.min_eq_left hn, Nat.min_eq_left (by omega), IntKind.wrap_u32']
  have h3 : (x : Int) / 2 ^ n = ((x / 2 ^ n : Nat) : Int) := by push_cast; rfl
  have h4 : (x : Int) * 2 ^ (32 - n) % 4294967296 = ((x * 2 ^ (32 - n) % 4294967296 : Nat) : Int) := by rw [Int.natCast_emod, Int.natCast_mul, Int.natCast_pow]; rfl
  rw [h3, h4]
  exact (bits_u32 _ _ (Nat.lt_of_le_of_lt (Nat.div_le_self _ _) hx) (Nat.mod_lt _ (by decide))).1
theorem turned_ev (x n : Nat) (hx : x < 4294967296) (h2 : 2 ≤ n) (hn : n ≤ 32) : vitrineref14_turned.f (x : Int) (n : Int) = some (nrot x n : Int) := by
  have h1 : wrap64 (32 - (n : Int)) = ((32 - n : Nat) : Int) := by unfold wrap64; omega
  unfold vitrineref14_turned.f
  rw [if_pos (by omega), h1, if_pos (by omega)]
  unfold shr shl
  have h3 : (x : Int) / 2 ^ n = ((x / 2 ^ n : Nat) : Int) := by push_cast; rfl
  have h4 : (x : Int) * 2 ^ (32 - n) = ((x * 2 ^ (32 - n) : Nat) : Int) := by rw [Int.natCast_mul, Int.natCast_pow]; rfl
  have h5 : x * 2 ^ (32 - n) < 2 ^ 62 := by
    have a : 2 ^ (32 - n) ≤ 2 ^ 30 := Nat.pow_le_pow_right (by decide) (by omega)
    exact Nat.lt_of_le_of_lt (Nat.mul_le_mul (show x ≤ 4294967295 by omega) a) (by decide)
  have h6 : IntKind.i64.bits = 64 := rfl
  rw [Int.toNat_natCast, Int.toNat_natCast, h6, Nat.min_eq_left (by omega), Nat.min_eq_left (by omega), h3, h4, wrapi64 (by omega) (by omega), (bits_i64 _ _ (by have := Nat.div_le_self x (2 ^ n); omega) h5).1]
  congr 1
  rw [Int.tmod_eq_emod_of_nonneg (by omega)]
  have : ((4294967296 : Int)) = ((4294967296 : Nat) : Int) := rfl
  rw [this, ← Int.natCast_emod]
  congr 1
  unfold nrot
  rw [show (4294967296 : Nat) = 2 ^ 32 from rfl, Nat.or_mod_two_pow, Nat.mod_eq_of_lt (a := x / 2 ^ n) (Nat.lt_of_le_of_lt (Nat.div_le_self _ _) hx)]
def W32 (x : Int) : Prop := 0 ≤ x ∧ x < 4294967296
theorem W32.nat {x : Int} (h : W32 x) : ∃ n : Nat, x = (n : Int) ∧ n < 4294967296 := ⟨x.toNat, by have := h.1; omega, by have := h.1; have := h.2; omega⟩
theorem w32_of {n : Nat} (h : n < 4294967296) : W32 (n : Int) := ⟨by omega, by omega⟩
theorem w32_wrap (x : Int) : W32 (IntKind.u32.wrap x) := by rw [IntKind.wrap_u32']; exact ⟨by omega, by omega⟩
theorem or_both {x y : Int} (hx : W32 x) (hy : W32 y) : Go.bits .or .i64 x y = Go.bits .or .u32 x y ∧ W32 (Go.bits .or .u32 x y) := by
  obtain ⟨a, rfl, ha⟩ := hx.nat
  obtain ⟨b, rfl, hb⟩ := hy.nat
  rw [(bits_u32 a b ha hb).1, (bits_i64 a b (by omega) (by omega)).1]
  exact ⟨rfl, w32_of (Nat.or_lt_two_pow (n := 32) ha hb)⟩
theorem xor_both {x y : Int} (hx : W32 x) (hy : W32 y) : Go.bits .xor .i64 x y = Go.bits .xor .u32 x y ∧ W32 (Go.bits .xor .u32 x y) := by
  obtain ⟨a, rfl, ha⟩ := hx.nat
  obtain ⟨b, rfl, hb⟩ := hy.nat
  rw [(bits_u32 a b ha hb).2.1, (bits_i64 a b (by omega) (by omega)).2.1]
  exact ⟨rfl, w32_of (Nat.xor_lt_two_pow (n := 32) ha hb)⟩
theorem and_both {x y : Int} (hx : W32 x) (hy : W32 y) : Go.bits .and .i64 x y = Go.bits .and .u32 x y ∧ W32 (Go.bits .and .u32 x y) := by
  obtain ⟨a, rfl, ha⟩ := hx.nat
  obtain ⟨b, rfl, hb⟩ := hy.nat
  rw [(bits_u32 a b ha hb).2.2.1, (bits_i64 a b (by omega) (by omega)).2.2]
  exact ⟨rfl, w32_of (Nat.lt_of_le_of_lt Nat.and_le_left ha)⟩
theorem andNot_both {x y : Int} (hx : W32 x) (hy : W32 y) : Go.bits .and .i64 (wrap64 (4294967295 - x)) y = Go.bits .andNot .u32 y x ∧ W32 (Go.bits .andNot .u32 y x) := by
  obtain ⟨a, rfl, ha⟩ := hx.nat
  obtain ⟨b, rfl, hb⟩ := hy.nat
  rw [(bits_u32 b a hb ha).2.2.2, w64 (by omega) (by omega), show (4294967295 : Int) - (a : Int) = ((4294967295 - a : Nat) : Int) by omega, (bits_i64 (4294967295 - a) b (by omega) (by omega)).2.2, Nat.and_comm]
  exact ⟨rfl, w32_of (Nat.lt_of_le_of_lt Nat.and_le_left hb)⟩
theorem trn_w32 {x : Int} (hx : W32 x) (n : Nat) (hn : n ≤ 32) : W32 (sha_trn x (n : Int)) := by
  obtain ⟨a, rfl, ha⟩ := hx.nat
  rw [trn_eq a n ha hn]
  exact w32_of (nrot_lt ha n)
theorem turned_i {x : Int} (hx : W32 x) (n : Nat) (h2 : 2 ≤ n) (hn : n ≤ 32) : vitrineref14_turned.f x (n : Int) = some (sha_trn x (n : Int)) := by
  obtain ⟨a, rfl, ha⟩ := hx.nat
  rw [turned_ev a n ha h2 hn, trn_eq a n ha hn]
theorem div_w32 {x : Int} (hx : W32 x) (d : Int) (hd : 1 ≤ d) : W32 (x / d) := by
  have h1 := hx.1
  have h2 := hx.2
  refine ⟨Int.ediv_nonneg h1 (by omega), Int.lt_of_le_of_lt (Int.ediv_le_self d h1) h2⟩
def Wl (xs : List Int) : Prop := ∀ x ∈ xs, W32 x
theorem wl_rd {xs : List Int} (h : Wl xs) (i : Int) : W32 (rd xs i) := by
  unfold rd
  rw [List.getD_eq_getElem?_getD]
  cases e : xs[i.toNat]? with
  | none => exact ⟨by decide, by decide⟩
  | some x => exact h x (List.mem_of_getElem? e)
theorem wl_set {xs : List Int} (h : Wl xs) (i : Nat) {v : Int} (hv : W32 v) : Wl (xs.set i v) := by
  intro x hx
  rcases List.mem_or_eq_of_mem_set hx with h1 | h1
  · exact h x h1
  · exact h1 ▸ hv
theorem word_eq {a b c d : Int} (ha : 0 ≤ a ∧ a ≤ 255) (hb : 0 ≤ b ∧ b ≤ 255) (hc : 0 ≤ c ∧ c ≤ 255) (hd : 0 ≤ d ∧ d ≤ 255) :
    Go.bits .or .i64 (Go.bits .or .i64 (Go.bits .or .i64 (wrap64 ((wrap64 a) * 16777216)) (wrap64 ((wrap64 b) * 65536))) (wrap64 ((wrap64 c) * 256))) (wrap64 d) =
      Go.bits .or .u32 (Go.bits .or .u32 (Go.bits .or .u32 (IntKind.u32.wrap (IntKind.u32.wrap a * 16777216)) (IntKind.u32.wrap (IntKind.u32.wrap b * 65536))) (IntKind.u32.wrap (IntKind.u32.wrap c * 256))) (IntKind.u32.wrap d) ∧
    W32 (Go.bits .or .u32 (Go.bits .or .u32 (Go.bits .or .u32 (IntKind.u32.wrap (IntKind.u32.wrap a * 16777216)) (IntKind.u32.wrap (IntKind.u32.wrap b * 65536))) (IntKind.u32.wrap (IntKind.u32.wrap c * 256))) (IntKind.u32.wrap d)) := by
  have e : ∀ x m : Int, 0 ≤ x → x ≤ 255 → 0 ≤ m → m ≤ 16777216 → wrap64 ((wrap64 x) * m) = IntKind.u32.wrap (IntKind.u32.wrap x * m) := by
    intro x m h0 h1 h2 h3
    have p0 : 0 ≤ x * m := Int.mul_nonneg h0 h2
    have p1 : x * m ≤ 255 * 16777216 := Int.mul_le_mul h1 h3 h2 (by decide)
    have e1 : IntKind.u32.wrap x = x := by rw [IntKind.wrap_u32']; omega
    rw [w64 (x := x) (by omega) (by omega), e1, w64 (by omega) (by omega), IntKind.wrap_u32']
    omega
  have e0 : wrap64 d = IntKind.u32.wrap d := by rw [w64 (by omega) (by omega), IntKind.wrap_u32']; omega
  rw [e a _ ha.1 ha.2 (by decide) (by decide), e b _ hb.1 hb.2 (by decide) (by decide), e c _ hc.1 hc.2 (by decide) (by decide), e0]
  have o1 := or_both (w32_wrap (IntKind.u32.wrap a * 16777216)) (w32_wrap (IntKind.u32.wrap b * 65536))
  have o2 := or_both o1.2 (w32_wrap (IntKind.u32.wrap c * 256))
  have o3 := or_both o2.2 (w32_wrap d)
  rw [o1.1, o2.1, o3.1]
  exact ⟨rfl, o3.2⟩
theorem sha_word_w32 (b : ByteArray) (m : Nat) : W32 (sha_word b m) := (word_eq (bt_range b _) (bt_range b _) (bt_range b _) (bt_range b _)).2
theorem sum4 {a b c d : Int} (ha : W32 a) (hb : W32 b) (hc : W32 c) (hd : W32 d) : Int.tmod (wrap64 ((wrap64 ((wrap64 (a + b)) + c)) + d)) 4294967296 = IntKind.u32.wrap (IntKind.u32.wrap (IntKind.u32.wrap (a + b) + c) + d) := by
  have := ha.1; have := ha.2; have := hb.1; have := hb.2; have := hc.1; have := hc.2; have := hd.1; have := hd.2
  rw [w64 (x := a + b) (by omega) (by omega), w64 (x := a + b + c) (by omega) (by omega), w64 (x := a + b + c + d) (by omega) (by omega), Int.tmod_eq_emod_of_nonneg (by omega), IntKind.wrap_u32', IntKind.wrap_u32', IntKind.wrap_u32']
  omega
theorem sum5 {a b c d e : Int} (ha : W32 a) (hb : W32 b) (hc : W32 c) (hd : W32 d) (he : W32 e) : Int.tmod (wrap64 ((wrap64 ((wrap64 ((wrap64 (a + b)) + c)) + d)) + e)) 4294967296 = IntKind.u32.wrap (IntKind.u32.wrap (IntKind.u32.wrap (IntKind.u32.wrap (a + b) + c) + d) + e) := by
  have := ha.1; have := ha.2; have := hb.1; have := hb.2; have := hc.1; have := hc.2; have := hd.1; have := hd.2; have := he.1; have := he.2
  rw [w64 (x := a + b) (by omega) (by omega), w64 (x := a + b + c) (by omega) (by omega), w64 (x := a + b + c + d) (by omega) (by omega), w64 (x := a + b + c + d + e) (by omega) (by omega), Int.tmod_eq_emod_of_nonneg (by omega), IntKind.wrap_u32', IntKind.wrap_u32', IntKind.wrap_u32', IntKind.wrap_u32']
  omega
theorem sum2 {a b : Int} (ha : W32 a) (hb : W32 b) : Int.tmod (wrap64 (a + b)) 4294967296 = IntKind.u32.wrap (a + b) := by
  have := ha.1; have := ha.2; have := hb.1; have := hb.2
  rw [w64 (x := a + b) (by omega) (by omega), Int.tmod_eq_emod_of_nonneg (by omega), IntKind.wrap_u32']
theorem sha_s1_wl (b : ByteArray) : ∀ m, Wl (sha_s1 b m)
  | 0 => by
    intro x hx
    rw [List.eq_of_mem_replicate hx]
    exact ⟨by decide, by decide⟩
  | m + 1 => wl_set (sha_s1_wl b m) m (sha_word_w32 b m)
theorem sha_s2_wl {xs : List Int} (h : Wl xs) : ∀ m, Wl (sha_s2 xs m)
  | 0 => h
  | m + 1 => wl_set (sha_s2_wl h m) _ (w32_wrap _)
theorem sha_sched_wl (b : ByteArray) : Wl (sha_sched b) := sha_s2_wl (sha_s1_wl b 16) 48
theorem sha_rnd_wl {vs : List Int} (h : Wl vs) (a b : Int) : Wl (sha_rnd vs a b) := by
  intro x hx
  unfold sha_rnd at hx
  simp only [List.mem_cons, List.not_mem_nil, or_false] at hx
  rcases hx with rfl | rfl | rfl | rfl | rfl | rfl | rfl | rfl
  · exact w32_wrap _
  · exact wl_rd h _
  · exact wl_rd h _
  · exact wl_rd h _
  · exact w32_wrap _
  · exact wl_rd h _
  · exact wl_rd h _
  · exact wl_rd h _
theorem sha_rs_wl (kk ws : List Int) {vs : List Int} (h : Wl vs) : ∀ m, Wl (sha_rs kk ws vs m)
  | 0 => h
  | m + 1 => sha_rnd_wl (sha_rs_wl kk ws h m) _ _
theorem sha_ad_wl {s : List Int} (h : Wl s) (vs : List Int) : ∀ m, Wl (sha_ad s vs m)
  | 0 => h
  | m + 1 => wl_set (sha_ad_wl h vs m) m (w32_wrap _)
theorem sha_H0_wl : Wl sha_H0 := by
  intro x hx
  have : ∀ y ∈ sha_H0, 0 ≤ y ∧ y < 4294967296 := by decide
  exact this x hx
theorem sha_K_wl : Wl sha_K := by
  intro x hx
  have : (sha_K.all fun y => decide (0 ≤ y ∧ y < 4294967296)) = true := by kernel_rfl
  have h : 0 ≤ x ∧ x < 4294967296 := of_decide_eq_true (List.all_eq_true.1 this x hx)
  exact h
theorem sha_run_wl (all : ByteArray) : ∀ m, Wl (sha_run all m)
  | 0 => sha_H0_wl
  | m + 1 => sha_ad_wl (sha_run_wl all m) _ 8
theorem bytesOf_append (s t : ByteArray) : bytesOf (s ++ t) = bytesOf s ++ bytesOf t := by
  unfold bytesOf
  rw [ByteArray.data_append, Array.toList_append, List.map_append]
theorem rd_drop (xs : List Int) (d : Nat) (i : Int) (h : 0 ≤ i) : rd (xs.drop d) i = rd xs (d + i) := by
  unfold rd
  rw [List.getD_eq_getElem?_getD, List.getD_eq_getElem?_getD, List.getElem?_drop, show ((d : Int) + i).toNat = d + i.toNat by omega]
theorem bt_cut (s : ByteArray) (a b : Nat) (i : Int) (h0 : 0 ≤ i) (h1 : a + i < b) (h2 : b ≤ s.size) : bt (s.extract a b) i = bt s (a + i) := by
  have hs : (s.extract a b).size = b - a := by rw [ByteArray.size_extract]; omega
  unfold bt
  rw [dif_pos (by omega), dif_pos (by omega)]
  congr 2
  have : (s.extract a b)[i.toNat]'(by omega) = s[a + i.toNat]'(by omega) := by
    rw [ByteArray.getElem_extract]
  rw [this]
  congr 1
  omega
theorem shr_kinds (x : Int) (j : Nat) (h : j ≤ 64) : shr .u64 x (j : Int) = shr .i64 x (j : Int) := by
  unfold shr
  have h1 : (IntKind.u64.bits : Nat) = 64 := rfl
  have h2 : (IntKind.i64.bits : Nat) = 64 := rfl
  rw [h1, h2]
theorem fill_l1 (n4 : Int) : ∀ (j : Nat) (xs : List Int), j ≤ 8 → xs.length + j ≤ 2000000 → Ev (fun k => vitrineref14_Filled.l1 k xs n4 ((j : Int) - 1)) (xs ++ padT n4 j) := by
  intro j
  induction j with
  | zero =>
    intro xs hj hx
    refine ⟨1, fun k hk => ?_⟩
    obtain ⟨m, rfl⟩ : ∃ m, k = m + 1 := ⟨k - 1, by omega⟩
    simp only [vitrineref14_Filled.l1]
    rw [if_neg (by omega), padT, List.append_nil]
  | succ j ih =>
    intro xs hj hx
    refine Ev.step (f := fun k => vitrineref14_Filled.l1 k (xs ++ [(shr .u64 n4 (8 * (j : Int))) % 256]) n4 ((j : Int) - 1)) (fun k => ?_) ?_
    · simp only [vitrineref14_Filled.l1]
      rw [show ((j + 1 : Nat) : Int) - 1 = (j : Int) by omega, w64 (x := 8 * (j : Int)) (by omega) (by omega), w64 (x := (j : Int) - 1) (by omega) (by omega), if_pos (by omega), if_pos (by omega), if_pos (by omega), show (8 * (j : Int)) = ((8 * j : Nat) : Int) by omega, shr_kinds n4 (8 * j) (by omega)]
    · have := ih (xs ++ [(shr .u64 n4 (8 * (j : Int))) % 256]) (by omega) (by simp; omega)
      rw [List.append_assoc] at this
      exact this
theorem fill_l0 (s : ByteArray) (hs : s.size ≤ 100000) {r : List Int} : ∀ (d : Nat) (xs : List Int), xs.length + d ≤ 1000000 → d < 64 → (xs.length + d) % 64 = 56 → Ev (fun k => vitrineref14_Filled.l1 k (xs ++ List.replicate d 0) (8 * (s.size : Int)) 7) r → Ev (fun k => vitrineref14_Filled.l0 k s xs) r := by
  intro d
  induction d with
  | zero =>
    intro xs hx hd hm h
    refine Ev.step (f := fun k => vitrineref14_Filled.l1 k xs (8 * (s.size : Int)) 7) (fun k => ?_) (by simpa using h)
    simp only [vitrineref14_Filled.l0]
    rw [w64 (by omega) (by omega), if_pos (by omega)]
  | succ d ih =>
    intro xs hx hd hm h
    refine Ev.step (f := fun k => vitrineref14_Filled.l0 k s (xs ++ [0])) (fun k => ?_) (ih (xs ++ [0]) (by simp; omega) (by omega) (by simp; omega) ?_)
    · simp only [vitrineref14_Filled.l0]
      rw [if_neg (by omega), if_pos (by omega)]
    · rw [List.append_assoc]
      exact h
theorem padT_byt (n : Int) : ∀ j, Byt (padT n j)
  | 0 => by intro x hx; cases hx
  | j + 1 => by
    intro x hx
    rcases List.mem_cons.1 hx with rfl | hx
    · exact ⟨by omega, by omega⟩
    · exact padT_byt n j x hx
theorem byt_append {a b : List Int} (ha : Byt a) (hb : Byt b) : Byt (a ++ b) := fun x hx => (List.mem_append.1 hx).elim (ha x) (hb x)
theorem padAll_bytes (s : ByteArray) (hs : s.size ≤ 100000) : bytesOf (padAll s) = bytesOf s ++ [128] ++ List.replicate (padZ s.size) 0 ++ padT (8 * (s.size : Int)) 8 := by
  have e : IntKind.u64.wrap ((IntKind.u64.wrap ((s.size : Int))) * 8) = 8 * (s.size : Int) := by
    have w : ∀ x : Int, 0 ≤ x → x ≤ 9223372036854775807 → IntKind.u64.wrap x = x := by
      intro x h0 h1
      rw [IntKind.wrap_u64]
      omega
    rw [w (s.size : Int) (by omega) (by omega), w _ (by omega) (by omega)]
    omega
  unfold padAll
  rw [bytesOf_append, e, bytesOf_str]
  · simp only [List.append_assoc]
  · refine byt_append (byt_append ?_ ?_) (padT_byt _ _)
    · intro x hx
      rw [List.mem_singleton.1 hx]
      exact ⟨by decide, by decide⟩
    · intro x hx
      rw [List.eq_of_mem_replicate hx]
      exact ⟨by decide, by decide⟩
theorem filled_ev (s : ByteArray) (hs : s.size ≤ 100000) : Ev (fun k => vitrineref14_Filled.f k s) (bytesOf (padAll s)) := by
  have hl := bytesOf_length s
  refine Ev.congr (f := fun k => vitrineref14_Filled.l0 k s (bytesOf s ++ [128])) (fun k => ?_) ?_
  · unfold vitrineref14_Filled.f
    rw [if_pos (by omega), Option.bind_some, if_pos (by omega)]
  · have hz : padZ s.size < 64 := by unfold padZ; omega
    refine fill_l0 s hs (padZ s.size) _ (by simp; omega) hz (by simp; unfold padZ; omega) ?_
    rw [padAll_bytes s hs]
    exact fill_l1 _ 8 _ (by omega) (by simp; omega)
theorem r_l1 (H K F : List Int) (b : ByteArray) (hF : 64 ≤ F.length) (hF2 : F.length ≤ 1000000) (hb : ∀ i : Int, 0 ≤ i → i < 64 → rd F i = bt b i) {r : ByteArray} (h : Ev (fun k => vitrineref14_Sum.l2 k H K F (sha_s1 b 16) 16) r) :
    ∀ (d t : Nat), t + d = 16 → Ev (fun k => vitrineref14_Sum.l1 k H K F (sha_s1 b t) (t : Int)) r := by
  intro d
  induction d with
  | zero =>
    intro t ht
    obtain rfl : t = 16 := by omega
    refine Ev.step (fun k => ?_) h
    simp only [vitrineref14_Sum.l1]
    rw [if_neg (by omega)]
  | succ d ih =>
    intro t ht
    refine Ev.step (f := fun k => vitrineref14_Sum.l1 k H K F (sha_s1 b (t + 1)) ((t + 1 : Nat) : Int)) (fun k => ?_) (ih (t + 1) (by omega))
    have hl := sha_s1_len b t
    have e0 : wrap64 (4 * (t : Int)) = 4 * (t : Int) := w64 (by omega) (by omega)
    have e1 : wrap64 (4 * (t : Int) + 1) = 4 * (t : Int) + 1 := w64 (by omega) (by omega)
    have e2 : wrap64 (4 * (t : Int) + 2) = 4 * (t : Int) + 2 := w64 (by omega) (by omega)
    have e3 : wrap64 (4 * (t : Int) + 3) = 4 * (t : Int) + 3 := w64 (by omega) (by omega)
    have e4 : wrap64 ((t : Int) + 1) = ((t + 1 : Nat) : Int) := by rw [w64 (by omega) (by omega)]; omega
    simp only [vitrineref14_Sum.l1]
    rw [e0, e1, e2, e3, e4, if_pos (by omega), if_pos (by omega), if_pos (by omega), if_pos (by omega), if_pos (by omega), if_pos (by omega), if_pos (by omega), if_pos (by omega), if_pos (by omega), if_pos (by omega), if_pos (by omega)]
    rw [hb _ (by omega) (by omega), hb _ (by omega) (by omega), hb _ (by omega) (by omega), hb _ (by omega) (by omega), (word_eq (bt_range b _) (bt_range b _) (bt_range b _) (bt_range b _)).1]
    rfl
theorem r_l2 (H K F : List Int) {xs : List Int} (hx : Wl xs) (hxl : xs.length = 64) (hH : H.length = 8) {r : ByteArray} (h : Ev (fun k => vitrineref14_Sum.l3 k H K F (sha_s2 xs 48) H 0) r) :
    ∀ (d m : Nat), m + d = 48 → Ev (fun k => vitrineref14_Sum.l2 k H K F (sha_s2 xs m) ((16 + m : Nat) : Int)) r := by
  intro d
  induction d with
  | zero =>
    intro m hm
    obtain rfl : m = 48 := by omega
    refine Ev.step (fun k => ?_) h
    simp only [vitrineref14_Sum.l2]
    rw [if_neg (by omega), Option.bind_some, if_pos (by simp only [List.length_nil]; omega), List.nil_append]
  | succ d ih =>
    intro m hm
    refine Ev.step (f := fun k => vitrineref14_Sum.l2 k H K F (sha_s2 xs (m + 1)) ((16 + (m + 1) : Nat) : Int)) (fun k => ?_) (ih (m + 1) (by omega))
    have hl : (sha_s2 xs m).length = 64 := by rw [sha_s2_len, hxl]
    have hw := sha_s2_wl hx m
    have e0 : wrap64 (((16 + m : Nat) : Int) - 15) = ((16 + m : Nat) : Int) - 15 := w64 (by omega) (by omega)
    have e1 : wrap64 (((16 + m : Nat) : Int) - 2) = ((16 + m : Nat) : Int) - 2 := w64 (by omega) (by omega)
    have e2 : wrap64 (((16 + m : Nat) : Int) - 16) = ((16 + m : Nat) : Int) - 16 := w64 (by omega) (by omega)
    have e3 : wrap64 (((16 + m : Nat) : Int) - 7) = ((16 + m : Nat) : Int) - 7 := w64 (by omega) (by omega)
    have e4 : wrap64 (((16 + m : Nat) : Int) + 1) = ((16 + (m + 1) : Nat) : Int) := by rw [w64 (by omega) (by omega)]; omega
    have ra := wl_rd hw (((16 + m : Nat) : Int) - 15)
    have rb := wl_rd hw (((16 + m : Nat) : Int) - 2)
    have rc := wl_rd hw (((16 + m : Nat) : Int) - 16)
    have rdd := wl_rd hw (((16 + m : Nat) : Int) - 7)
    have t1 : vitrineref14_turned.f (rd (sha_s2 xs m) (((16 + m : Nat) : Int) - 15)) 7 = _ := turned_i ra 7 (by omega) (by omega)
    have t2 : vitrineref14_turned.f (rd (sha_s2 xs m) (((16 + m : Nat) : Int) - 15)) 18 = _ := turned_i ra 18 (by omega) (by omega)
    have t3 : vitrineref14_turned.f (rd (sha_s2 xs m) (((16 + m : Nat) : Int) - 2)) 17 = _ := turned_i rb 17 (by omega) (by omega)
    have t4 : vitrineref14_turned.f (rd (sha_s2 xs m) (((16 + m : Nat) : Int) - 2)) 19 = _ := turned_i rb 19 (by omega) (by omega)
    have x1 := xor_both (trn_w32 ra 7 (by omega)) (trn_w32 ra 18 (by omega))
    have x2 := xor_both x1.2 (div_w32 ra 8 (by decide))
    have y1 := xor_both (trn_w32 rb 17 (by omega)) (trn_w32 rb 19 (by omega))
    have y2 := xor_both y1.2 (div_w32 rb 1024 (by decide))
    simp only [vitrineref14_Sum.l2]
    rw [e0, e1, e2, e3, e4, if_pos (by omega), if_pos (by omega), if_pos (by omega), if_pos (by omega), if_pos (by omega), if_pos (by omega), if_pos (by omega), t1, t2]
    simp only [Option.bind_some]
    rw [if_pos (by omega), if_pos (by omega), t3, t4]
    simp only [Option.bind_some]
    rw [if_pos (by omega), if_pos (by omega), x1.1, x2.1, y1.1, y2.1, sum4 rc x2.2 rdd y2.2]
    rfl
theorem r_l3 (H F W : List Int) (hW : Wl W) (hWl : W.length = 64) {vs : List Int} (hv : Wl vs) (hvl : vs.length = 8) {r : ByteArray} (h : Ev (fun k => vitrineref14_Sum.l4 k H sha_K F (sha_rs sha_K W vs 64) 0) r) :
    ∀ (d m : Nat), m + d = 64 → Ev (fun k => vitrineref14_Sum.l3 k H sha_K F W (sha_rs sha_K W vs m) (m : Int)) r := by
  intro d
  induction d with
  | zero =>
    intro m hm
    obtain rfl : m = 64 := by omega
    refine Ev.step (fun k => ?_) h
    simp only [vitrineref14_Sum.l3]
    rw [if_neg (by omega)]
  | succ d ih =>
    intro m hm
    refine Ev.step (f := fun k => vitrineref14_Sum.l3 k H sha_K F W (sha_rs sha_K W vs (m + 1)) ((m + 1 : Nat) : Int)) (fun k => ?_) (ih (m + 1) (by omega))
    have hl : (sha_rs sha_K W vs m).length = 8 := sha_rs_len _ _ _ hvl m
    have hw := sha_rs_wl sha_K W hv m
    have hkl : sha_K.length = 64 := by kernel_rfl
    have e4 : wrap64 ((m : Int) + 1) = ((m + 1 : Nat) : Int) := by rw [w64 (by omega) (by omega)]; omega
    obtain ⟨v, hvv⟩ : ∃ v, sha_rs sha_K W vs m = v := ⟨_, rfl⟩
    have hsucc : sha_rs sha_K W vs (m + 1) = sha_rnd v (rd sha_K (m : Int)) (rd W (m : Int)) := by rw [← hvv]; rfl
    rw [hsucc]
    rw [hvv] at hl hw
    rw [hvv]
    have r0 := wl_rd hw 0
    have r1 := wl_rd hw 1
    have r2 := wl_rd hw 2
    have r3 := wl_rd hw 3
    have r4 := wl_rd hw 4
    have r5 := wl_rd hw 5
    have r6 := wl_rd hw 6
    have r7 := wl_rd hw 7
    have t1 : vitrineref14_turned.f (rd v 4) 6 = _ := turned_i r4 6 (by omega) (by omega)
    have t2 : vitrineref14_turned.f (rd v 4) 11 = _ := turned_i r4 11 (by omega) (by omega)
    have t3 : vitrineref14_turned.f (rd v 4) 25 = _ := turned_i r4 25 (by omega) (by omega)
    have t4 : vitrineref14_turned.f (rd v 0) 2 = _ := turned_i r0 2 (by omega) (by omega)
    have t5 : vitrineref14_turned.f (rd v 0) 13 = _ := turned_i r0 13 (by omega) (by omega)
    have t6 : vitrineref14_turned.f (rd v 0) 22 = _ := turned_i r0 22 (by omega) (by omega)
    have a1 := xor_both (trn_w32 r4 6 (by omega)) (trn_w32 r4 11 (by omega))
    have a2 := xor_both a1.2 (trn_w32 r4 25 (by omega))
    have b1 := and_both r4 r5
    have b2 := andNot_both r4 r6
    have b3 := xor_both b1.2 b2.2
    have c1 := xor_both (trn_w32 r0 2 (by omega)) (trn_w32 r0 13 (by omega))
    have c2 := xor_both c1.2 (trn_w32 r0 22 (by omega))
    have d1 := and_both r0 r1
    have d2 := and_both r0 r2
    have d3 := and_both r1 r2
    have d4 := xor_both d1.2 d2.2
    have d5 := xor_both d4.2 d3.2
    have rk := wl_rd sha_K_wl (m : Int)
    have rw_ := wl_rd hW (m : Int)
    have sx := sum5 r7 a2.2 b3.2 rk rw_
    have sy := sum2 c2.2 d5.2
    simp only [vitrineref14_Sum.l3]
    rw [if_pos (by omega), if_pos (by omega), if_pos (by omega), if_pos (by omega), t1, t2, t3]
    simp only [Option.bind_some]
    rw [if_pos (by omega), if_pos (by omega), if_pos (by omega), if_pos (by omega), if_pos (by omega), t4, t5, t6]
    simp only [Option.bind_some]
    rw [if_pos (by omega), if_pos (by omega), if_pos (by omega), e4, a1.1, a2.1, b1.1, b2.1, b3.1, c1.1, c2.1, d1.1, d2.1, d3.1, d4.1, d5.1, sx, sy, sum2 (w32_wrap _) (w32_wrap _), sum2 r3 (w32_wrap _)]
    rfl
theorem r_l4 (K F : List Int) {s vs : List Int} (hs : Wl s) (hsl : s.length = 8) (hv : Wl vs) (hvl : vs.length = 8) (hF : 64 ≤ F.length) {r : ByteArray} (h : Ev (fun k => vitrineref14_Sum.l0 k (sha_ad s vs 8) K (F.drop 64)) r) :
    ∀ (d m : Nat), m + d = 8 → Ev (fun k => vitrineref14_Sum.l4 k (sha_ad s vs m) K F vs (m : Int)) r := by
  intro d
  induction d with
  | zero =>
    intro m hm
    obtain rfl : m = 8 := by omega
    refine Ev.step (fun k => ?_) h
    simp only [vitrineref14_Sum.l4]
    rw [if_neg (by omega), if_pos (by omega)]
    rfl
  | succ d ih =>
    intro m hm
    refine Ev.step (f := fun k => vitrineref14_Sum.l4 k (sha_ad s vs (m + 1)) K F vs ((m + 1 : Nat) : Int)) (fun k => ?_) (ih (m + 1) (by omega))
    have hl : (sha_ad s vs m).length = 8 := by rw [sha_ad_len, hsl]
    have e4 : wrap64 ((m : Int) + 1) = ((m + 1 : Nat) : Int) := by rw [w64 (by omega) (by omega)]; omega
    simp only [vitrineref14_Sum.l4]
    rw [if_pos (by omega), if_pos (by omega), if_pos (by omega), if_pos (by omega), e4, sum2 (wl_rd (sha_ad_wl hs vs m) _) (wl_rd hv _)]
    rfl
theorem r_l5 (H : List Int) (hl : H.length = 8) : ∀ (d m : Nat), m + d = 8 → Ev (fun k => vitrineref14_Sum.l5 k H (sha_out H m) (m : Int)) (strOfNums (sha_out H 8)) := by
  intro d
  induction d with
  | zero =>
    intro m hm
    obtain rfl : m = 8 := by omega
    refine ⟨1, fun k hk => ?_⟩
    obtain ⟨j, rfl⟩ : ∃ j, k = j + 1 := ⟨k - 1, by omega⟩
    simp only [vitrineref14_Sum.l5]
    rw [if_neg (by omega)]
  | succ d ih =>
    intro m hm
    refine Ev.step (f := fun k => vitrineref14_Sum.l5 k H (sha_out H (m + 1)) ((m + 1 : Nat) : Int)) (fun k => ?_) (ih (m + 1) (by omega))
    have e4 : wrap64 ((m : Int) + 1) = ((m + 1 : Nat) : Int) := by rw [w64 (by omega) (by omega)]; omega
    have ho := sha_out_len H m
    simp only [vitrineref14_Sum.l5]
    rw [if_pos (by omega), if_pos (by omega), if_pos (by omega), Option.bind_some, if_pos (by simp only [List.length_cons, List.length_nil]; omega), e4]
    rfl
theorem r_l0 (S : ByteArray) (N : Nat) (hS : S.size = 64 * N) (hS2 : S.size ≤ 1000000) : ∀ (d m : Nat), m + d = N → Ev (fun k => vitrineref14_Sum.l0 k (sha_run S m) sha_K ((bytesOf S).drop (64 * m))) (strOfNums (sha_out (sha_run S N) 8)) := by
  intro d
  have hbl := bytesOf_length S
  induction d with
  | zero =>
    intro m hm
    obtain rfl : m = N := by omega
    refine Ev.step (f := fun k => vitrineref14_Sum.l5 k (sha_run S m) (sha_out (sha_run S m) 0) ((0 : Nat) : Int)) (fun k => ?_) (r_l5 _ (sha_run_len S m) 8 0 rfl)
    simp only [vitrineref14_Sum.l0]
    rw [if_neg (by rw [List.length_drop]; omega)]
    rfl
  | succ d ih =>
    intro m hm
    have hFl : 64 ≤ ((bytesOf S).drop (64 * m)).length := by rw [List.length_drop]; omega
    have hFl2 : ((bytesOf S).drop (64 * m)).length ≤ 1000000 := by rw [List.length_drop]; omega
    have h0 := ih (m + 1) (by omega)
    have hb : ∀ i : Int, 0 ≤ i → i < 64 → rd ((bytesOf S).drop (64 * m)) i = bt (S.extract (64 * m) (64 * m + 64)) i := by
      intro i h0 h1
      rw [rd_drop _ _ _ h0, rd_bytesOf, bt_cut S _ _ i h0 (by omega) (by omega)]
    have hrl := sha_run_len S m
    have hrw := sha_run_wl S m
    have hd : ((bytesOf S).drop (64 * m)).drop 64 = (bytesOf S).drop (64 * (m + 1)) := by rw [List.drop_drop]; congr 1
    obtain ⟨b, hbb⟩ : ∃ b, S.extract (64 * m) (64 * m + 64) = b := ⟨_, rfl⟩
    have hrun : sha_run S (m + 1) = sha_ad (sha_run S m) (sha_rs sha_K (sha_sched b) (sha_run S m) 64) 8 := by rw [← hbb]; rfl
    rw [hrun, ← hd] at h0
    rw [hbb] at hb
    have h4 := r_l4 sha_K ((bytesOf S).drop (64 * m)) hrw hrl (sha_rs_wl sha_K (sha_sched b) hrw 64) (sha_rs_len _ _ _ hrl 64) hFl h0 8 0 rfl
    have h3 := r_l3 (sha_run S m) ((bytesOf S).drop (64 * m)) (sha_sched b) (sha_sched_wl b) (sha_sched_len b) hrw hrl h4 64 0 rfl
    have h2 := r_l2 (sha_run S m) sha_K ((bytesOf S).drop (64 * m)) (sha_s1_wl b 16) (sha_s1_len b 16) hrl h3 48 0 rfl
    have h1 := r_l1 (sha_run S m) sha_K ((bytesOf S).drop (64 * m)) b hFl hFl2 hb h2 16 0 rfl
    refine Ev.step (fun k => ?_) h1
    simp only [vitrineref14_Sum.l0]
    rw [if_pos (by omega), if_pos (by decide)]
    rfl
theorem rsum_ev (s : ByteArray) (hs : s.size ≤ 100000) : Ev (fun k => vitrineref14_Sum.f k s) (shaS s) := by
  have hp := padAll_size s
  have h := r_l0 (padAll s) ((padAll s).size / 64) (by rw [hp]; unfold padZ; omega) (by rw [hp]; unfold padZ; omega) ((padAll s).size / 64) 0 (by omega)
  refine Ev.congr (f := fun k => (vitrineref14_Filled.f k s).bind fun t123 => (vitrineref14_Sum.l0 k sha_H0 sha_K t123)) (fun k => ?_) ?_
  · unfold vitrineref14_Sum.f
    rfl
  · refine Ev.bind (f := fun k t123 => vitrineref14_Sum.l0 k sha_H0 sha_K t123) (filled_ev s hs) ?_
    exact h
theorem number15 (s : ByteArray) (h : 4 ≤ s.size) : bands_number.f s = some (num4 s) := by
  unfold bands_number.f
  rw [if_pos (by omega), if_pos (by omega), if_pos (by omega), if_pos (by omega), or4]
theorem rgt_iff (W H : Int) : rgt W H 16 6 0 = 0 ↔ (1 ≤ W ∧ W ≤ 1024 ∧ 1 ≤ H ∧ H ≤ 1024 ∧ W * H ≤ 4096) := by
  constructor
  · intro h
    obtain ⟨a, b, c, d, e, _⟩ := rgt_0 h
    exact ⟨a, b, c, d, e⟩
  · rintro ⟨a, b, c, d, e⟩
    unfold rgt
    rw [if_pos ⟨a, by omega, c, by omega, by decide, .inl rfl⟩, if_neg (by omega)]
def hashL (m : ByteArray) (n : Nat) : List ByteArray := (List.range n).map fun i => m.extract (8 + 32 * i) (40 + 32 * i)
theorem hashL_succ (m : ByteArray) (n : Nat) : hashL m (n + 1) = hashL m n ++ [m.extract (8 + 32 * n) (40 + 32 * n)] := by
  unfold hashL
  rw [List.range_succ, List.map_append]
  rfl
theorem hashL_len (m : ByteArray) (n : Nat) : (hashL m n).length = n := by unfold hashL; simp
def redOk (m : ByteArray) : Prop := 8 ≤ m.size ∧ rgt (num4 m) (num4 (m.extract 4 8)) 16 6 0 = 0 ∧ m.size = 8 + 32 * mb (num4 (m.extract 4 8)).toNat
instance (m : ByteArray) : Decidable (redOk m) := by unfold redOk; infer_instance
def redV (m : ByteArray) : Int × Int × List ByteArray × Int := if redOk m then (num4 m, num4 (m.extract 4 8), hashL m (mb (num4 (m.extract 4 8)).toNat), 0) else (0, 0, [], 42)
theorem redV_bad {m : ByteArray} (h : ¬ redOk m) : redV m = (0, 0, [], 42) := by unfold redV; rw [if_neg h]
theorem Read_loop {m : ByteArray} {M : Nat} (w h : Int) (hm : m.size = 8 + 32 * M) (hM : M ≤ 1000) : ∀ d i : Nat, i + d = M → Ev (fun k => bands_Read.l0 k w h (m.extract (8 + 32 * i) m.size) (hashL m i)) (w, h, hashL m M, 0) := by
  intro d
  induction d with
  | zero =>
    intro i hi
    obtain rfl : i = M := by omega
    refine Ev.step (f := fun _ => some (w, h, hashL m i, 0)) (fun k => ?_) (Ev.now _)
    simp only [bands_Read.l0]
    rw [if_pos ((toList_nil _).2 (by rw [ByteArray.size_extract]; omega))]
  | succ d ih =>
    intro i hi
    have hz : (m.extract (8 + 32 * i) m.size).size = m.size - (8 + 32 * i) := by rw [ByteArray.size_extract]; omega
    have hne : ¬ (m.extract (8 + 32 * i) m.size).toList = [] := fun e => by have := (toList_nil _).1 e; omega
    have e1 : (m.extract (8 + 32 * i) m.size).extract 32 (m.extract (8 + 32 * i) m.size).size = m.extract (8 + 32 * (i + 1)) m.size := by
      rw [ByteArray.extract_extract, hz]
      congr 1
      omega
    have e2 : (m.extract (8 + 32 * i) m.size).extract 0 32 = m.extract (8 + 32 * i) (40 + 32 * i) := by
      rw [ByteArray.extract_extract]
      congr 1
      omega
    refine Ev.step (fun k => ?_) (ih (i + 1) (by omega))
    simp only [bands_Read.l0]
    rw [if_neg hne, if_pos (by decide), if_pos (by omega), if_pos (by rw [hashL_len]; omega), e1, e2, ← hashL_succ]
theorem many15 {h : Int} (h0 : 1 ≤ h) (h1 : h ≤ 1024) : wrap64 (Int.tdiv (wrap64 ((wrap64 (h + 8)) - 1)) 8) = ((mb h.toNat : Nat) : Int) := by
  unfold mb
  rw [w64 (x := h + 8) (by omega) (by omega), w64 (x := h + 8 - 1) (by omega) (by omega), Int.tdiv_eq_ediv_of_nonneg (by omega), w64 (by omega) (by omega)]
  omega
theorem mb_1000 {h : Int} (h1 : h ≤ 1024) : mb h.toNat ≤ 1000 := by unfold mb; omega
theorem Read_ev (m : ByteArray) (hs : m.size ≤ 4611686018427387904) : Ev (fun k => bands_Read.f k m) (redV m) := by
  have jt : ∀ a b r, ¬ redOk m → Ev (fun k => bands_Read.j0 k a b r true) (redV m) := by
    intro a b r hn
    refine Ev.step (f := fun _ => some (0, 0, ([] : List ByteArray), 42)) (fun k => ?_) (ev_same (Ev.now _) (redV_bad hn).symm)
    simp only [bands_Read.j0, if_true]
  by_cases h8 : (m.size : Int) < 8
  · refine Ev.congr (f := fun _ => some (0, 0, ([] : List ByteArray), 42)) (fun k => ?_) (ev_same (Ev.now _) (redV_bad (fun h => by have := h.1; omega)).symm)
    unfold bands_Read.f
    rw [if_pos h8]
  · have n2 : bands_number.f (m.extract 4 m.size) = some (num4 (m.extract 4 8)) := by
      rw [number15 _ (by rw [ByteArray.size_extract]; omega), num4_extract m 4 m.size (by omega) (by omega)]
    obtain ⟨w, hw⟩ : ∃ w, num4 m = w := ⟨_, rfl⟩
    obtain ⟨h, hh⟩ : ∃ h, num4 (m.extract 4 8) = h := ⟨_, rfl⟩
    have rw_ := num4_range m
    have rh_ := num4_range (m.extract 4 8)
    have hzr : (m.extract 8 m.size).size = m.size - 8 := by rw [ByteArray.size_extract]; omega
    refine Ev.congr (f := fun k => (if w < 1 then (bands_Read.j0 k w h (m.extract 8 m.size) true) else (if h < 1 then (bands_Read.j0 k w h (m.extract 8 m.size) true) else (if (mx w h) > 1024 then (bands_Read.j0 k w h (m.extract 8 m.size) true) else (if (wrap64 (w * h)) > 4096 then (bands_Read.j0 k w h (m.extract 8 m.size) true) else (bands_Read.j0 k w h (m.extract 8 m.size) (((m.extract 8 m.size).size : Int) != (wrap64 (32 * (wrap64 (Int.tdiv (wrap64 ((wrap64 (h + 8)) - 1)) 8))))))))))) (fun k => ?_) ?_
    · unfold bands_Read.f
      rw [if_neg h8, number15 m (by omega), Option.bind_some, if_pos (by omega), n2, Option.bind_some, if_pos (by omega), hw, hh]
    · have bad : ¬ (1 ≤ w ∧ w ≤ 1024 ∧ 1 ≤ h ∧ h ≤ 1024 ∧ w * h ≤ 4096) → ¬ redOk m := by
        intro hn hr
        have := (rgt_iff _ _).1 hr.2.1
        rw [hw, hh] at this
        exact hn this
      by_cases c1 : w < 1
      · simp only [if_pos c1]
        exact jt _ _ _ (bad (by omega))
      · simp only [if_neg c1]
        by_cases c2 : h < 1
        · simp only [if_pos c2]
          exact jt _ _ _ (bad (by omega))
        · simp only [if_neg c2]
          by_cases c3 : mx w h > 1024
          · simp only [if_pos c3]
            exact jt _ _ _ (bad (by unfold mx at c3; omega))
          · simp only [if_neg c3]
            have c3' : w ≤ 1024 ∧ h ≤ 1024 := by unfold mx at c3; split at c3 <;> omega
            have p0 : 0 ≤ w * h := Int.mul_nonneg (by omega) (by omega)
            have p1 : w * h ≤ 1024 * 1024 := Int.mul_le_mul c3'.1 c3'.2 (by omega) (by omega)
            rw [w64 (x := w * h) (by omega) (by omega)]
            by_cases c4 : w * h > 4096
            · simp only [if_pos c4]
              exact jt _ _ _ (bad (by omega))
            · simp only [if_neg c4]
              have hM := mb_1000 c3'.2
              rw [many15 (by omega) c3'.2, w64 (x := 32 * ((mb h.toNat : Nat) : Int)) (by omega) (by omega), hzr]
              by_cases c5 : m.size = 8 + 32 * mb h.toNat
              · have hok : redOk m := ⟨by omega, by rw [rgt_iff, hw, hh]; exact ⟨by omega, c3'.1, by omega, c3'.2, by omega⟩, by rw [hh]; exact c5⟩
                have e : ((((m.size - 8 : Nat)) : Int) != 32 * ((mb h.toNat : Nat) : Int)) = false := bne_eq_false_iff_eq.mpr (by omega)
                rw [e]
                have := Read_loop w h c5 hM (mb h.toNat) 0 (by omega)
                refine Ev.step (fun k => ?_) (ev_same this ?_)
                · simp only [bands_Read.j0]
                  rw [if_neg (by decide)]
                  rfl
                · unfold redV
                  rw [if_pos hok, hw, hh]
              · have e : ((((m.size - 8 : Nat)) : Int) != 32 * ((mb h.toNat : Nat) : Int)) = true := bne_iff_ne.mpr (by omega)
                rw [e]
                exact jt _ _ _ (fun hr => c5 (by have := hr.2.2; rw [hh] at this; exact this))
theorem rRead_loop {m : ByteArray} (w h : Int) (h0 : 1 ≤ h) (h1 : h ≤ 1024) (hm : m.size = 8 + 32 * mb h.toNat) : ∀ d i : Nat, i + d = mb h.toNat → Ev (fun k => vitrineref15_Read.l0 k m w h (hashL m i) (i : Int)) (w, h, hashL m (mb h.toNat), 0) := by
  have hM := mb_1000 h1
  have hmany : vitrineref15_Many.f h = some ((mb h.toNat : Nat) : Int) := by
    unfold vitrineref15_Many.f
    rw [many15 h0 h1]
  generalize mb h.toNat = M at *
  intro d
  induction d with
  | zero =>
    intro i hi
    obtain rfl : i = M := by omega
    refine Ev.step (f := fun _ => some (w, h, hashL m i, 0)) (fun k => ?_) (Ev.now _)
    simp only [vitrineref15_Read.l0, hmany, Option.bind_some]
    rw [if_neg (by omega)]
  | succ d ih =>
    intro i hi
    have e0 : wrap64 (32 * (i : Int)) = ((32 * i : Nat) : Int) := by rw [w64 (by omega) (by omega)]; omega
    have e1 : wrap64 (8 + ((32 * i : Nat) : Int)) = ((8 + 32 * i : Nat) : Int) := by rw [w64 (by omega) (by omega)]; omega
    have e2 : wrap64 (40 + ((32 * i : Nat) : Int)) = ((40 + 32 * i : Nat) : Int) := by rw [w64 (by omega) (by omega)]; omega
    have w1 : wrap64 ((i : Int) + 1) = ((i + 1 : Nat) : Int) := w_succ (by omega)
    refine Ev.step (fun k => ?_) (ih (i + 1) (by omega))
    simp only [vitrineref15_Read.l0, hmany, Option.bind_some]
    rw [if_pos (by omega), e0, e1, e2, if_pos (by omega), if_pos (by omega), if_pos (by omega), if_pos (by rw [hashL_len]; omega), Int.toNat_natCast, Int.toNat_natCast, ← hashL_succ, w1]
theorem rRead_ev (m : ByteArray) (hs : m.size ≤ 4611686018427387904) : Ev (fun k => vitrineref15_Read.f k m) (redV m) := by
  have jt : ∀ a b, ¬ redOk m → Ev (fun k => vitrineref15_Read.j0 k m a b true) (redV m) := by
    intro a b hn
    refine Ev.step (f := fun _ => some (0, 0, ([] : List ByteArray), 42)) (fun k => ?_) (ev_same (Ev.now _) (redV_bad hn).symm)
    simp only [vitrineref15_Read.j0, if_true]
  by_cases h8 : (m.size : Int) < 8
  · refine Ev.congr (f := fun _ => some (0, 0, ([] : List ByteArray), 42)) (fun k => ?_) (ev_same (Ev.now _) (redV_bad (fun h => by have := h.1; omega)).symm)
    unfold vitrineref15_Read.f
    rw [if_pos h8]
  · have n1 : num4 (m.extract 0 4) = num4 m := by
      have := num4_extract m 0 m.size (by omega) (by omega)
      rw [ByteArray.extract_zero_size] at this
      rw [this]
    refine Ev.congr (f := fun k => (vitrineref06_Of.f k (m.extract 0 4)).bind fun t336 => ((vitrineref06_Of.f k (m.extract 4 8)).bind fun t337 => ((vitrineref08_Right.f k t336 t337 16 6 0).bind fun t338 => (if t338 = 0 then ((vitrineref15_Many.f t337).bind fun t339 => (vitrineref15_Read.j0 k m t336 t337 ((m.size : Int) != (wrap64 (8 + (wrap64 (32 * t339))))))) else (vitrineref15_Read.j0 k m t336 t337 true))))) (fun k => ?_) ?_
    · unfold vitrineref15_Read.f
      rw [if_neg h8, if_pos (by decide), if_pos (by omega)]
      simp only [if_pos (show (4 : Nat) ≤ 8 by decide), if_pos (show (8 : Int) ≤ (m.size : Int) by omega)]
    · refine Ev.bind (f := fun k t336 => ((vitrineref06_Of.f k (m.extract 4 8)).bind fun t337 => ((vitrineref08_Right.f k t336 t337 16 6 0).bind fun t338 => (if t338 = 0 then ((vitrineref15_Many.f t337).bind fun t339 => (vitrineref15_Read.j0 k m t336 t337 ((m.size : Int) != (wrap64 (8 + (wrap64 (32 * t339))))))) else (vitrineref15_Read.j0 k m t336 t337 true))))) (Of_ev _ (by rw [ByteArray.size_extract]; omega)) ?_
      rw [n1]
      refine Ev.bind (f := fun k t337 => ((vitrineref08_Right.f k (num4 m) t337 16 6 0).bind fun t338 => (if t338 = 0 then ((vitrineref15_Many.f t337).bind fun t339 => (vitrineref15_Read.j0 k m (num4 m) t337 ((m.size : Int) != (wrap64 (8 + (wrap64 (32 * t339))))))) else (vitrineref15_Read.j0 k m (num4 m) t337 true)))) (Of_ev _ (by rw [ByteArray.size_extract]; omega)) ?_
      obtain ⟨w, hw⟩ : ∃ w, num4 m = w := ⟨_, rfl⟩
      obtain ⟨h, hh⟩ : ∃ h, num4 (m.extract 4 8) = h := ⟨_, rfl⟩
      rw [hw, hh]
      refine Ev.bind (f := fun k t338 => (if t338 = 0 then ((vitrineref15_Many.f h).bind fun t339 => (vitrineref15_Read.j0 k m w h ((m.size : Int) != (wrap64 (8 + (wrap64 (32 * t339))))))) else (vitrineref15_Read.j0 k m w h true))) (rRight_ev w h 16 6 0) ?_
      by_cases hr : rgt w h 16 6 0 = 0
      · simp only [if_pos hr]
        obtain ⟨a, b, c, d, e⟩ := (rgt_iff _ _).1 hr
        have hM := mb_1000 d
        have hmany : vitrineref15_Many.f h = some ((mb h.toNat : Nat) : Int) := by
          unfold vitrineref15_Many.f
          rw [many15 c d]
        rw [hmany]
        simp only [Option.bind_some]
        rw [w64 (x := 32 * ((mb h.toNat : Nat) : Int)) (by omega) (by omega), w64 (x := 8 + 32 * ((mb h.toNat : Nat) : Int)) (by omega) (by omega)]
        by_cases c5 : m.size = 8 + 32 * mb h.toNat
        · have hok : redOk m := ⟨by omega, by rw [hw, hh]; exact hr, by rw [hh]; exact c5⟩
          have e5 : ((m.size : Int) != 8 + 32 * ((mb h.toNat : Nat) : Int)) = false := bne_eq_false_iff_eq.mpr (by omega)
          rw [e5]
          refine Ev.step (fun k => ?_) (ev_same (rRead_loop w h c d c5 (mb h.toNat) 0 (by omega)) ?_)
          · simp only [vitrineref15_Read.j0]
            rw [if_neg (by decide)]
            rfl
          · unfold redV
            rw [if_pos hok, hw, hh]
        · have e5 : ((m.size : Int) != 8 + 32 * ((mb h.toNat : Nat) : Int)) = true := bne_iff_ne.mpr (by omega)
          rw [e5]
          exact jt _ _ (fun hr => c5 (by have := hr.2.2; rw [hh] at this; exact this))
      · simp only [if_neg hr]
        exact jt _ _ (fun ho => hr (by have := ho.2.1; rw [hw, hh] at this; exact this))
theorem ev_if {α : Type} {c : Prop} [Decidable c] {g e : Nat → Option α} {r : α} (h : c) (hg : Ev g r) : Ev (fun k => if c then g k else e k) r := Ev.congr (fun k => if_pos h) hg
theorem ev_no {α : Type} {c : Prop} [Decidable c] {g e : Nat → Option α} {r : α} (h : ¬ c) (hg : Ev e r) : Ev (fun k => if c then g k else e k) r := Ev.congr (fun k => if_neg h) hg
def row_ (h i : Nat) : Nat := min (8 * i) h
theorem hg_ {a b w r q : Nat} (h0 : 8 * w ≤ 8192) (h1 : a = 8 * w * r) (h2 : b = 8 * w * q) (h3 : r ≤ 1024) (h4 : q ≤ 8) : a + b ≤ 9223372036854775807 := by
  have x1 : 8 * w * r ≤ 8192 * 1024 := Nat.mul_le_mul h0 h3
  have x2 : 8 * w * q ≤ 8192 * 8 := Nat.mul_le_mul h0 h4
  rw [h1, h2]
  exact Nat.le_trans (Nat.add_le_add x1 x2) (by decide)
theorem join_loops {w h : Nat} (h1 : 1 ≤ w) (h2 : w ≤ 1024) (h3 : 1 ≤ h) (h4 : h ≤ 1024) (h5 : w * h ≤ 4096) (l hs : List ByteArray) (hl : l.length = mb h) (hh : hs.length = mb h) : ∀ d i : Nat, i + d = mb h → (joinN l i).size = 8 * w * row_ h i →
    ∃ v : Int × Int × ByteArray × Int, Ev (fun k => bands_Join.l0 k l (w : Int) (h : Int) hs ((8 * w * (h - row_ h i) : Nat) : Int) l (l.length : Int) (i : Int)) v ∧ Ev (fun k => vitrineref15_Join.l0 k l (w : Int) (h : Int) hs (joinN l i) (i : Int)) v := by
  have hmb : mb h ≤ 1000 := by unfold mb; omega
  have hR : 8 * w ≤ 8192 := by omega
  intro d
  induction d with
  | zero =>
    intro i hi hsz
    obtain rfl : i = mb h := by omega
    have hr : row_ h (mb h) = h := by unfold row_ mb; omega
    have hz : 8 * w * h ≤ 32768 := by rw [Nat.mul_assoc]; omega
    rw [hr] at hsz
    refine ⟨((w : Int), (h : Int), joinN l (mb h), 0), ?_, ?_⟩
    · refine Ev.step (f := fun _ => some _) (fun k => ?_) (Ev.now _)
      simp only [bands_Join.l0]
      rw [if_neg (by omega)]
      unfold strings_Join.f
      rw [hl, if_pos ⟨rfl, by omega, by omega⟩]
      rfl
    · refine Ev.step (f := fun _ => some _) (fun k => ?_) (Ev.now _)
      simp only [vitrineref15_Join.l0]
      rw [if_neg (by omega)]
  | succ d ih =>
    intro i hi hsz
    have hlt : i < mb h := by omega
    have h8 : 8 * i < h := by unfold mb at hlt; omega
    have hri : row_ h i = 8 * i := by unfold row_; omega
    obtain ⟨q, hq⟩ : ∃ q, be_ h i - 8 * i = q := ⟨_, rfl⟩
    have hq1 : 1 ≤ q ∧ q ≤ 8 ∧ q ≤ h - 8 * i ∧ row_ h (i + 1) = 8 * i + q := by unfold be_ at hq; unfold row_; omega
    have hband : bands_band.f (w : Int) = some ((8 * (8 * w) : Nat) : Int) := by
      unfold bands_band.f
      rw [w64 (x := 8 * (w : Int)) (by omega) (by omega), w64 (by omega) (by omega)]
      congr 1
      omega
    have hmn : mn ((8 * (8 * w) : Nat) : Int) ((8 * w * (h - row_ h i) : Nat) : Int) = ((8 * w * q : Nat) : Int) := by
      rw [hri]
      by_cases hc : 8 ≤ h - 8 * i
      · have := Nat.mul_le_mul_left (8 * w) hc
        rw [show q = 8 by unfold be_ at hq; omega]
        unfold mn
        split <;> omega
      · have := Nat.mul_le_mul_left (8 * w) (show h - 8 * i ≤ 8 by omega)
        rw [show q = h - 8 * i by unfold be_ at hq; omega]
        unfold mn
        split <;> omega
    have hsize : vitrineref15_size.f (w : Int) (h : Int) (i : Int) = some ((8 * w * q : Nat) : Int) := by
      unfold vitrineref15_size.f
      have e1 : mn 8 (wrap64 ((h : Int) - wrap64 ((i : Int) * 8))) = (q : Int) := by
        rw [w64 (x := (i : Int) * 8) (by omega) (by omega), w64 (by omega) (by omega)]
        unfold be_ at hq
        unfold mn
        split <;> omega
      rw [e1, w64 (x := 8 * (w : Int)) (by omega) (by omega), show 8 * (w : Int) * (q : Int) = ((8 * w * q : Nat) : Int) by rw [Int.natCast_mul, Int.natCast_mul]; rfl]
      have hx : 8 * w * q ≤ 8192 * 8 := Nat.mul_le_mul hR hq1.2.1
      rw [w64 (by omega) (by omega)]
    obtain ⟨s, hse⟩ : ∃ s, rdOf ByteArray.empty l (i : Int) = s := ⟨_, rfl⟩
    have c1 : (i : Int) < (l.length : Int) := by omega
    have c2 : 0 ≤ (i : Int) := by omega
    have c3 : (i : Int) < (hs.length : Int) := by omega
    have hx : 8 * w * q ≤ 8192 * 8 := Nat.mul_le_mul hR hq1.2.1
    by_cases e1 : s.size = 8 * w * q
    · have hS := sum_ev s (by omega)
      have hS2 := rsum_ev s (by omega)
      by_cases e2 : (shaS s).toList = (rdOf ByteArray.empty hs (i : Int)).toList
      · have hnext : (joinN l (i + 1)).size = 8 * w * row_ h (i + 1) := by
          show (joinN l i ++ rdOf ByteArray.empty l (i : Int)).size = _
          rw [ByteArray.size_append, hse, hsz, e1, hri, hq1.2.2.2, Nat.mul_add]
        obtain ⟨v, v1, v2⟩ := ih (i + 1) (by omega) hnext
        have hleft : wrap64 (((8 * w * (h - row_ h i) : Nat) : Int) - (s.size : Int)) = ((8 * w * (h - row_ h (i + 1)) : Nat) : Int) := by
          have hm : 8 * w * (h - row_ h i) = 8 * w * (h - row_ h (i + 1)) + 8 * w * q := by
            rw [← Nat.mul_add]
            congr 1
            rw [hri, hq1.2.2.2]
            omega
          have hb : 8 * w * (h - row_ h i) ≤ 8192 * 1024 := Nat.mul_le_mul hR (by omega)
          rw [w64 (by omega) (by omega), e1]
          omega
        have hi1 : wrap64 ((i : Int) + 1) = ((i + 1 : Nat) : Int) := w_succ (by omega)
        refine ⟨v, ?_, ?_⟩
        · refine Ev.step (f := fun k => (sha_Sum.f k s).bind fun t368 => (if (i : Int) < (hs.length : Int) then (if t368.toList = (rdOf ByteArray.empty hs (i : Int)).toList then (bands_Join.l0 k l (w : Int) (h : Int) hs (wrap64 (((8 * w * (h - row_ h i) : Nat) : Int) - (s.size : Int))) l (l.length : Int) (wrap64 ((i : Int) + 1))) else (some (0, 0, (⟨#[]⟩ : ByteArray), 43))) else (none))) (fun k => ?_) ?_
          · simp only [bands_Join.l0]
            rw [if_pos c1, if_pos c2, if_pos c1, hband, Option.bind_some, hmn, hse, if_pos (by omega)]
          · refine Ev.bind hS ?_
            refine ev_if c3 (ev_if e2 ?_)
            rw [hleft, hi1]
            exact v1
        · have hg : (joinN l i).size + s.size ≤ 9223372036854775807 := hg_ hR hsz e1 (Nat.le_trans (Nat.min_le_right _ _) h4) hq1.2.1
          refine Ev.step (f := fun k => (vitrineref14_Sum.f k s).bind fun t380 => (if (i : Int) < (hs.length : Int) then (if t380.toList = (rdOf ByteArray.empty hs (i : Int)).toList then (if (joinN l i).size + s.size ≤ 9223372036854775807 then (vitrineref15_Join.l0 k l (w : Int) (h : Int) hs (joinN l i ++ s) (wrap64 ((i : Int) + 1))) else (none)) else (some (0, 0, (⟨#[]⟩ : ByteArray), 43))) else (none))) (fun k => ?_) ?_
          · simp only [vitrineref15_Join.l0]
            rw [if_pos c1, if_pos c2, hsize, Option.bind_some, hse, if_pos (by omega)]
          · refine Ev.bind hS2 ?_
            refine ev_if c3 (ev_if e2 (ev_if hg ?_))
            rw [hi1]
            have : joinN l (i + 1) = joinN l i ++ s := by show joinN l i ++ rdOf ByteArray.empty l (i : Int) = _; rw [hse]
            rw [this] at v2
            exact v2
      · refine ⟨(0, 0, (⟨#[]⟩ : ByteArray), 43), ?_, ?_⟩
        · refine Ev.step (f := fun k => (sha_Sum.f k s).bind fun t368 => (if (i : Int) < (hs.length : Int) then (if t368.toList = (rdOf ByteArray.empty hs (i : Int)).toList then (bands_Join.l0 k l (w : Int) (h : Int) hs (wrap64 (((8 * w * (h - row_ h i) : Nat) : Int) - (s.size : Int))) l (l.length : Int) (wrap64 ((i : Int) + 1))) else (some (0, 0, (⟨#[]⟩ : ByteArray), 43))) else (none))) (fun k => ?_) ?_
          · simp only [bands_Join.l0]
            rw [if_pos c1, if_pos c2, if_pos c1, hband, Option.bind_some, hmn, hse, if_pos (by omega)]
          · refine Ev.bind hS ?_
            exact ev_if c3 (ev_no e2 (Ev.now _))
        · refine Ev.step (f := fun k => (vitrineref14_Sum.f k s).bind fun t380 => (if (i : Int) < (hs.length : Int) then (if t380.toList = (rdOf ByteArray.empty hs (i : Int)).toList then (if (joinN l i).size + s.size ≤ 9223372036854775807 then (vitrineref15_Join.l0 k l (w : Int) (h : Int) hs (joinN l i ++ s) (wrap64 ((i : Int) + 1))) else (none)) else (some (0, 0, (⟨#[]⟩ : ByteArray), 43))) else (none))) (fun k => ?_) ?_
          · simp only [vitrineref15_Join.l0]
            rw [if_pos c1, if_pos c2, hsize, Option.bind_some, hse, if_pos (by omega)]
          · refine Ev.bind hS2 ?_
            exact ev_if c3 (ev_no e2 (Ev.now _))
    · refine ⟨(0, 0, (⟨#[]⟩ : ByteArray), 43), ?_, ?_⟩
      · refine Ev.step (f := fun _ => some _) (fun k => ?_) (Ev.now _)
        simp only [bands_Join.l0]
        rw [if_pos c1, if_pos c2, if_pos c1, hband, Option.bind_some, hmn, hse, if_neg (by omega)]
      · refine Ev.step (f := fun _ => some _) (fun k => ?_) (Ev.now _)
        simp only [vitrineref15_Join.l0]
        rw [if_pos c1, if_pos c2, hsize, Option.bind_some, hse, if_neg (by omega)]
theorem join_both (m : ByteArray) (l : List ByteArray) (hm : m.size ≤ 4611686018427387904) : ∃ v : Int × Int × ByteArray × Int, Ev (fun k => bands_Join.f k m l) v ∧ Ev (fun k => vitrineref15_Join.f k m l) v := by
  have r1 := Read_ev m hm
  have r2 := rRead_ev m hm
  by_cases c0 : (redV m).2.2.2 = 0
  · by_cases c1 : (l.length : Int) = ((redV m).2.2.1.length : Int)
    · have hok : redOk m := Classical.byContradiction (fun h => by rw [redV_bad h] at c0; exact absurd c0 (by decide))
      obtain ⟨a, b, c, d, e, _⟩ := rgt_0 hok.2.1
      have hv : redV m = (num4 m, num4 (m.extract 4 8), hashL m (mb (num4 (m.extract 4 8)).toNat), 0) := by unfold redV; rw [if_pos hok]
      obtain ⟨w, hw⟩ : ∃ w : Nat, num4 m = (w : Int) := ⟨(num4 m).toNat, by omega⟩
      obtain ⟨h, hh⟩ : ∃ h : Nat, num4 (m.extract 4 8) = (h : Int) := ⟨(num4 (m.extract 4 8)).toNat, by omega⟩
      rw [hw, hh, Int.toNat_natCast] at hv
      rw [hw, hh] at e
      have e' : w * h ≤ 4096 := by
        have : ((w * h : Nat) : Int) ≤ 4096 := by rw [Int.natCast_mul]; exact e
        omega
      rw [hv] at c0 c1
      have hlen := hashL_len m (mb h)
      have hlm : l.length = mb h := by have c1 : (l.length : Int) = ((hashL m (mb h)).length : Int) := c1; omega
      obtain ⟨v, v1, v2⟩ := join_loops (w := w) (h := h) (by omega) (by omega) (by omega) (by omega) e' l (hashL m (mb h)) hlm hlen (mb h) 0 (by omega) (by show 0 = 8 * w * row_ h 0; unfold row_; rw [Nat.mul_zero, Nat.zero_min, Nat.mul_zero])
      have hleft : wrap64 (wrap64 (8 * (w : Int)) * (h : Int)) = ((8 * w * (h - row_ h 0) : Nat) : Int) := by
        have hb : 8 * w * h ≤ 32768 := by rw [Nat.mul_assoc]; omega
        have e3 : 8 * (w : Int) * (h : Int) = ((8 * w * h : Nat) : Int) := by rw [Int.natCast_mul, Int.natCast_mul]; rfl
        rw [w64 (x := 8 * (w : Int)) (by omega) (by omega), e3, w64 (by omega) (by omega), show row_ h 0 = 0 by unfold row_; omega, Nat.sub_zero]
      refine ⟨v, ?_, ?_⟩
      · unfold bands_Join.f
        refine Ev.bind r1 ?_
        rw [hv]
        refine ev_if rfl (ev_if c1 ?_)
        show Ev (fun k => bands_Join.l0 k l (w : Int) (h : Int) (hashL m (mb h)) (wrap64 (wrap64 (8 * (w : Int)) * (h : Int))) l (l.length : Int) 0) v
        rw [hleft]
        exact v1
      · unfold vitrineref15_Join.f
        refine Ev.bind r2 ?_
        rw [hv]
        exact ev_if rfl (ev_if c1 v2)
    · refine ⟨(0, 0, (⟨#[]⟩ : ByteArray), 43), ?_, ?_⟩
      · unfold bands_Join.f
        refine Ev.bind r1 ?_
        exact ev_if c0 (ev_no c1 (Ev.now _))
      · unfold vitrineref15_Join.f
        refine Ev.bind r2 ?_
        exact ev_if c0 (ev_no c1 (Ev.now _))
  · refine ⟨(0, 0, (⟨#[]⟩ : ByteArray), (redV m).2.2.2), ?_, ?_⟩
    · unfold bands_Join.f
      refine Ev.bind r1 ?_
      exact ev_no c0 (Ev.now _)
    · unfold vitrineref15_Join.f
      refine Ev.bind r2 ?_
      exact ev_no c0 (Ev.now _)
theorem BandsJoins : ∀ (a0 : ByteArray) (l1 : List ByteArray), (a0.size ≤ 140737488351232) → (l1.length ≤ maxLen ∧ l1.length * 16 ≤ 140737488351232 ∧ ∀ y_ ∈ l1, (fun s_ : ByteArray => s_.size ≤ 140737488351232) y_) → ∃ k, vitrinelaw15_BandsJoins.f k a0 l1 = some true := by
  intro m l hm hl
  refine Ev.rounds ?_
  obtain ⟨v, v1, v2⟩ := join_both m l (by omega)
  have hl2 := hl.2.1
  refine Ev.congr (f := fun k => (bands_Join.f k m l).bind fun bt389 => ((vitrineref15_Join.f k m l).bind fun bt394 => (if (bt389.1 == bt394.1 && (bt389.2.1 == bt394.2.1 && (bt389.2.2.1.toList == bt394.2.2.1.toList))) = true then (if bt389.2.2.2 = bt394.2.2.2 then ((vitrinelaw15_texts.f k l l).bind fun t399 => (if t399 = true then ((vitrinelaw15_awake.f k).bind fun t400 => (some t400)) else (some false))) else (some false)) else (some false)))) (fun k => ?_) ?_
  · unfold vitrinelaw15_BandsJoins.f
    rw [Option.bind_some, if_pos (by simp only [List.length_nil]; omega), Option.bind_some, List.nil_append]
  · refine Ev.bind v1 ?_
    refine Ev.bind v2 ?_
    refine ev_if (by simp) (ev_if rfl ?_)
    refine Ev.bind (texts_ev l (by omega)) ?_
    exact ev_if rfl (ev_id awake15)

end Go.Proofs.Ytbonmhgihedjpaa.Pure
