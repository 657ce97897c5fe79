/- Printed for this claim by a program of this session over the kit's print program: the Go functions as Lean functions, and proofs that the calls come to these answers. No conditions. -/
import Derived.Test.YtbpnkgidlmjkkaaZD
import Derived.LoopTactic
import Derived.StillTailTactics
import Derived.Laws.Rows
import Derived.Laws.Tables
import Derived.Laws.CopyOwn
import Derived.Test.YtbpnkgidlmjkkaaZPL08x0
import Derived.Test.YtbpnkgidlmjkkaaZPL08x3
import Derived.Test.YtbpnkgidlmjkkaaZPL08x4
import Derived.Test.YtbpnkgidlmjkkaaZPL08x6
import Derived.Test.YtbpnkgidlmjkkaaZPL08x13
namespace Go.Proofs.Ytbpnkgidlmjkkaa.PL08
open Go.RowKit Go.Proofs.YtbpnkgidlmjkkaaW.PrintWords Go.Proofs.YtbpnkgidlmjkkaaW.PrintLast Go.Proofs.YtbpnkgidlmjkkaaW.PrintMore
attribute [local go_sem] max2_int min2_int max_two min_two max_three min_three max_four min_four   -- for this text's walks alone
set_option linter.unusedVariables false
set_option linter.unusedSimpArgs false

/-! ### head_Read: function 17 -/
/-- What was met till now. -/
structure HSt where
  W : Int
  H : Int
  D : Int
  C : Int
  L : Int
  pal : ByteArray
  tr : ByteArray
  ht : Bool
  plt : Bool
  data : ByteArray
  idat : Bool
  gap : Bool
def HSt.cells (s : HSt) (p v : Value) : Array Value := #[.int .i64 s.W, .int .i64 s.H, .int .i64 s.D, .int .i64 s.C, .int .i64 s.L, .string s.pal, .string s.tr, .bool s.ht, .bool s.plt, p, v, .bool s.idat, .bool s.gap]
/-- It lies at block g. -/
def Rd (g : Nat) (s : HSt) (w : World) : Prop := ∃ p v, Go.Proofs.YtbpnkgidlmjkkaaD.BAt g g 9 62 (s.cells p v) (Lib.strCells s.data) w
theorem Rd.lt {g : Nat} {s : HSt} {w : World} (h : Rd g s w) : g < w.heap.size := by
  obtain ⟨p, v, h⟩ := h
  exact h.lt
theorem Rd.below {g : Nat} {s : HSt} {w w' : World} (h : Rd g s w) (hb : Below w.heap.size w w') : Rd g s w' := by
  obtain ⟨p, v, h⟩ := h
  exact ⟨p, v, h.below hb⟩
theorem Rd.drew {g : Nat} {s : HSt} {w : World} (h : Rd g s w) : Rd g s w.drew := h
theorem rd_lies : Go.Proofs.YtbpnkgidlmjkkaaD.Lies 62 13 9 := ⟨by decide, by decide, by kernel_rfl⟩
theorem Rd.cell {g : Nat} {s : HSt} {w : World} (h : Rd g s w) : w.cell? ⟨g, 0, none⟩ = some (.int .i64 s.W) ∧ w.cell? ⟨g, 1, none⟩ = some (.int .i64 s.H) ∧ w.cell? ⟨g, 2, none⟩ = some (.int .i64 s.D) ∧ w.cell? ⟨g, 3, none⟩ = some (.int .i64 s.C) ∧ w.cell? ⟨g, 4, none⟩ = some (.int .i64 s.L) ∧ w.cell? ⟨g, 5, none⟩ = some (.string s.pal) ∧ w.cell? ⟨g, 6, none⟩ = some (.string s.tr) ∧ w.cell? ⟨g, 7, none⟩ = some (.bool s.ht) ∧ w.cell? ⟨g, 8, none⟩ = some (.bool s.plt) ∧ w.cell? ⟨g, 11, none⟩ = some (.bool s.idat) ∧ w.cell? ⟨g, 12, none⟩ = some (.bool s.gap) := by
  obtain ⟨p, v, hb, _⟩ := h
  exact ⟨(Lib.cell_of_heap hb 0).trans rfl, (Lib.cell_of_heap hb 1).trans rfl, (Lib.cell_of_heap hb 2).trans rfl, (Lib.cell_of_heap hb 3).trans rfl, (Lib.cell_of_heap hb 4).trans rfl, (Lib.cell_of_heap hb 5).trans rfl, (Lib.cell_of_heap hb 6).trans rfl, (Lib.cell_of_heap hb 7).trans rfl, (Lib.cell_of_heap hb 8).trans rfl, (Lib.cell_of_heap hb 11).trans rfl, (Lib.cell_of_heap hb 12).trans rfl⟩
theorem Rd.fz {g : Nat} {s : HSt} {w : World} (h : Rd g s w) (i : Nat) : w.frozen? ⟨g, i, none⟩ = false := by
  obtain ⟨p, v, hb, _⟩ := h
  exact Lib.frozen_of_heap hb i
/-- Two cells are written. -/
theorem Rd.two {g : Nat} {s t : HSt} {w : World} (h : Rd g s w) (i j : Nat) (x y : Value) (hi : i ≠ 9 ∧ i ≠ 10) (hj : j ≠ 9 ∧ j ≠ 10) (he : ∀ p v, ((s.cells p v).setIfInBounds i x).setIfInBounds j y = t.cells p v) (hd : t.data = s.data) : Rd g t ((w.setCell ⟨g, i, none⟩ x).setCell ⟨g, j, none⟩ y) := by
  obtain ⟨p, v, h⟩ := h
  have h2 := (h.other i x hi.1 hi.2).other j y hj.1 hj.2
  rw [he p v, ← hd] at h2
  exact ⟨p, v, h2⟩
theorem Rd.one {g : Nat} {s t : HSt} {w : World} (h : Rd g s w) (i : Nat) (x : Value) (hi : i ≠ 9 ∧ i ≠ 10) (he : ∀ p v, (s.cells p v).setIfInBounds i x = t.cells p v) (hd : t.data = s.data) : Rd g t (w.setCell ⟨g, i, none⟩ x) := by
  obtain ⟨p, v, h⟩ := h
  have h2 := h.other i x hi.1 hi.2
  rw [he p v, ← hd] at h2
  exact ⟨p, v, h2⟩
/-! ### plte -/
def plteV (s : HSt) (d : ByteArray) : Int × HSt :=
  if s.plt = true then (23, s) else if s.ht = true then (23, s) else if s.idat = true then (23, s)
  else if s.C = 0 then (25, s) else if s.C = 4 then (25, s) else if ¬ (d.size : Int) % 3 = 0 then (25, s) else if d.toList = ([] : List UInt8) then (25, s) else if 768 < (d.size : Int) then (25, s)
  else if s.C = 3 then (if shl .i64 1 s.D < (d.size : Int) / 3 then (25, s) else (0, { s with plt := true, pal := d }))
  else (0, { s with plt := true, pal := d })
set_option maxHeartbeats 8000000 in
set_option maxRecDepth 100000 in
theorem plte_calls (g : Nat) (s : HSt) (d : ByteArray) (w : World) (hD : 0 ≤ s.D) (hD2 : s.D ≤ 16) (h : Rd g s w) (hd : d.size ≤ 140737488355328) :
    Calls Try.prog 36 #[.pointer (some ⟨g, 0, none⟩), .string d] w fun e w' => e = .returned (.int .i64 (plteV s d).1) ∧ Rd g (plteV s d).2 w' ∧ Below g w w' := by
  obtain ⟨c0, c1, c2, c3, c4, c5, c6, c7, c8, c11, c12⟩ := h.cell
  have f8 := h.fz 8
  have f5 := h.fz 5
  have HR := Aside0.mk h
  have HD := Aside0.mk hD
  have HD2 := Aside0.mk hD2
  clear h
  unfold plteV
  by_cases t1 : s.plt = true
  · rw [if_pos t1]
    rw [t1] at c8
    clear t1
    go_enter Try.func36, Try.ntmps36
    go_wp2
    go_ret
    exact ⟨rfl, HR.out, Below.refl _ _⟩
  rw [if_neg t1]
  rw [Bool.eq_false_iff.mpr t1] at c8
  by_cases t2 : s.ht = true
  · rw [if_pos t2]
    rw [t2] at c7
    clear t1 t2
    go_enter Try.func36, Try.ntmps36
    go_wp2
    go_ret
    exact ⟨rfl, HR.out, Below.refl _ _⟩
  rw [if_neg t2]
  rw [Bool.eq_false_iff.mpr t2] at c7
  by_cases t3 : s.idat = true
  · rw [if_pos t3]
    rw [t3] at c11
    clear t1 t2 t3
    go_enter Try.func36, Try.ntmps36
    go_wp2
    go_ret
    exact ⟨rfl, HR.out, Below.refl _ _⟩
  rw [if_neg t3]
  rw [Bool.eq_false_iff.mpr t3] at c11
  clear t1 t2 t3
  by_cases t : s.C = 0
  · rw [if_pos t]
    have u0a : (s.C == 0) = true := beq_iff_eq.mpr t
    have u0b : (s.C != 0) = false := bne_eq_false_iff_eq.mpr t
    clear t
    go_enter Try.func36, Try.ntmps36
    go_wp2
    go_ret
    exact ⟨rfl, HR.out, Below.refl _ _⟩
  rw [if_neg t]
  have u0a : (s.C == 0) = false := beq_eq_false_iff_ne.mpr t
  have u0b : (s.C != 0) = true := bne_iff_ne.mpr t
  clear t
  by_cases t : s.C = 4
  · rw [if_pos t]
    have u4a : (s.C == 4) = true := beq_iff_eq.mpr t
    have u4b : (s.C != 4) = false := bne_eq_false_iff_eq.mpr t
    clear t
    go_enter Try.func36, Try.ntmps36
    go_wp2
    go_ret
    exact ⟨rfl, HR.out, Below.refl _ _⟩
  rw [if_neg t]
  have u4a : (s.C == 4) = false := beq_eq_false_iff_ne.mpr t
  have u4b : (s.C != 4) = true := bne_iff_ne.mpr t
  clear t
  by_cases t : ¬ (d.size : Int) % 3 = 0
  · rw [if_pos t]
    have m0 : (((d.size : Int) % 3) == 0) = false := beq_eq_false_iff_ne.mpr t
    have m1 : (((d.size : Int) % 3) != 0) = true := bne_iff_ne.mpr t
    clear t
    go_enter Try.func36, Try.ntmps36
    go_wp2
    go_ret
    exact ⟨rfl, HR.out, Below.refl _ _⟩
  rw [if_neg t]
  have m0 : (((d.size : Int) % 3) == 0) = true := beq_iff_eq.mpr (Decidable.not_not.1 t)
  have m1 : (((d.size : Int) % 3) != 0) = false := bne_eq_false_iff_eq.mpr (Decidable.not_not.1 t)
  clear t
  by_cases t : d.toList = ([] : List UInt8)
  · rw [if_pos t]
    have n0 : (d.toList == ([] : List UInt8)) = true := beq_iff_eq.mpr t
    have n1 : (d.toList != ([] : List UInt8)) = false := bne_eq_false_iff_eq.mpr t
    clear t
    go_enter Try.func36, Try.ntmps36
    go_wp2
    go_ret
    exact ⟨rfl, HR.out, Below.refl _ _⟩
  rw [if_neg t]
  have n0 : (d.toList == ([] : List UInt8)) = false := beq_eq_false_iff_ne.mpr t
  have n1 : (d.toList != ([] : List UInt8)) = true := bne_iff_ne.mpr t
  clear t
  by_cases t : 768 < (d.size : Int)
  · rw [if_pos t]
    have z0 : decide (768 < (d.size : Int)) = true := decide_eq_true t
    have z1 : decide (768 < d.size) = true := decide_eq_true (by omega)
    clear t
    go_enter Try.func36, Try.ntmps36
    go_wp2
    go_ret
    exact ⟨rfl, HR.out, Below.refl _ _⟩
  rw [if_neg t]
  have z0 : decide (768 < (d.size : Int)) = false := decide_eq_false t
  have z1 : decide (768 < d.size) = false := decide_eq_false (by omega)
  have z2 : d.size ≤ 768 := by omega
  clear t
  by_cases t : s.C = 3
  · rw [if_pos t]
    have u3a : (s.C == 3) = true := beq_iff_eq.mpr t
    have u3b : (s.C != 3) = false := bne_eq_false_iff_eq.mpr t
    clear t
    have g0 := eq_true HD.out
    have g1 : decide (0 ≤ s.D) = true := decide_eq_true HD.out
    obtain ⟨J, hJ⟩ : ∃ j_ : Int, (shl .i64 1 s.D) = j_ := ⟨_, rfl⟩
    rw [hJ]
    have hJ_ : (IntKind.i64.wrap (1 * 2 ^ min s.D.toNat 64)) = J := hJ
    have hJz : s.D ≤ 64 → (IntKind.i64.wrap (1 * 2 ^ s.D.toNat)) = J := shl_small hJ
    have hJu : (IntKind.i64.wrap (2 ^ min s.D.toNat 64)) = J := by have h_ := hJ_; rw [Int.one_mul] at h_; exact h_
    have hJv : s.D ≤ 64 → (IntKind.i64.wrap (2 ^ s.D.toNat)) = J := fun hle_ => by have h_ := hJz hle_; rw [Int.one_mul] at h_; exact h_
    have hJy : (wrap64 (1 * 2 ^ min s.D.toNat 64)) = J := (i64_w _).symm.trans hJ_
    have hJx : s.D ≤ 64 → (wrap64 (1 * 2 ^ s.D.toNat)) = J := fun h_ => (i64_w _).symm.trans (hJz h_)
    have hJw : wrap64 (2 ^ s.D.toNat) = J := (i64_w _).symm.trans (hJv (by have := HD2.out; omega))
    clear hJ
    by_cases t : J < (d.size : Int) / 3
    · rw [if_pos t]
      have y0 : decide (J < (d.size : Int) / 3) = true := decide_eq_true t
      clear t
      go_enter Try.func36, Try.ntmps36
      go_wp2
      go_ret
      exact ⟨rfl, HR.out, Below.refl _ _⟩
    · rw [if_neg t]
      have y0 : decide (J < (d.size : Int) / 3) = false := decide_eq_false t
      clear t
      go_enter Try.func36, Try.ntmps36
      go_wp2
      go_ret
      exact ⟨rfl, HR.out.two 8 5 (.bool true) (.string d) (by decide) (by decide) (fun _ _ => rfl) rfl, ((Below.refl g w).setCell (p := ⟨g, 8, none⟩) (Nat.le_refl g) _).setCell (p := ⟨g, 5, none⟩) (Nat.le_refl g) _⟩
  · rw [if_neg t]
    have u3a : (s.C == 3) = false := beq_eq_false_iff_ne.mpr t
    have u3b : (s.C != 3) = true := bne_iff_ne.mpr t
    clear t
    go_enter Try.func36, Try.ntmps36
    go_wp2
    go_ret
    exact ⟨rfl, HR.out.two 8 5 (.bool true) (.string d) (by decide) (by decide) (fun _ _ => rfl) rfl, ((Below.refl g w).setCell (p := ⟨g, 8, none⟩) (Nat.le_refl g) _).setCell (p := ⟨g, 5, none⟩) (Nat.le_refl g) _⟩
/-! ### trns -/
def smpV (c : Int) : Int := if c = 3 then 1 else if c = 0 then 1 else if c = 4 then 2 else if c = 2 then 3 else if c = 6 then 4 else 0
theorem smp_is (c : Int) : head_Samples.f 9 c = some (smpV c) := by
  by_cases h0 : c = 0
  · subst h0; kernel_rfl
  by_cases h4 : c = 4
  · subst h4; kernel_rfl
  by_cases h2 : c = 2
  · subst h2; kernel_rfl
  by_cases h6 : c = 6
  · subst h6; kernel_rfl
  by_cases h3 : c = 3
  · subst h3; kernel_rfl
  unfold head_Samples.f smpV
  rw [if_neg h3, if_neg h0, if_neg h4, if_neg h2, if_neg h6]
  have e : slices_Index_int_int.f 9 [0, 4, 2, 6] c = some (-1) := by
    simp [slices_Index_int_int.f, slices_Index_int_int.l0, rd, h0, h4, h2, h6, wrap64]
  rw [e, Option.bind_some, if_neg h3]
  simp [wrap64]
def trnsV (s : HSt) (d : ByteArray) : Int × HSt :=
  if s.ht = true then (23, s) else if s.idat = true then (23, s)
  else if s.C = 3 then (if s.plt = true then (if (d.size : Int) ≤ (s.pal.size : Int) / 3 then (0, { s with ht := true, tr := d }) else (26, s)) else (23, s))
  else if s.C = 0 then (if (d.size : Int) = 2 then (0, { s with ht := true, tr := d }) else (26, s))
  else if s.C = 2 then (if (d.size : Int) = 6 then (0, { s with ht := true, tr := d }) else (26, s))
  else (26, s)
set_option maxHeartbeats 8000000 in
set_option maxRecDepth 100000 in
theorem trns_calls (g : Nat) (s : HSt) (d : ByteArray) (w : World) (h : Rd g s w) (hd : d.size ≤ 140737488355328) (hp : s.pal.size ≤ 768) :
    Calls Try.prog 37 #[.pointer (some ⟨g, 0, none⟩), .string d] w fun e w' => e = .returned (.int .i64 (trnsV s d).1) ∧ Rd g (trnsV s d).2 w' ∧ Below g w w' := by
  obtain ⟨c0, c1, c2, c3, c4, c5, c6, c7, c8, c11, c12⟩ := h.cell
  have f7 := h.fz 7
  have f6 := h.fz 6
  have HR := Aside0.mk h
  have HG := Aside0.mk h.lt
  clear h
  unfold trnsV
  by_cases t1 : s.ht = true
  · rw [if_pos t1]
    rw [t1] at c7
    clear t1
    go_enter Try.func37, Try.ntmps37
    go_wp2
    go_ret
    exact ⟨rfl, HR.out, Below.refl _ _⟩
  rw [if_neg t1]
  rw [Bool.eq_false_iff.mpr t1] at c7
  by_cases t2 : s.idat = true
  · rw [if_pos t2]
    rw [t2] at c11
    clear t1 t2
    go_enter Try.func37, Try.ntmps37
    go_wp2
    go_ret
    exact ⟨rfl, HR.out, Below.refl _ _⟩
  rw [if_neg t2]
  rw [Bool.eq_false_iff.mpr t2] at c11
  clear t1 t2
  by_cases t3 : s.C = 3
  · rw [if_pos t3]
    rw [t3] at c3
    clear t3
    by_cases t4 : s.plt = true
    · rw [if_pos t4]
      rw [t4] at c8
      clear t4
      by_cases t5 : (d.size : Int) ≤ (s.pal.size : Int) / 3
      · rw [if_pos t5]
        have y0 : decide ((d.size : Int) ≤ (s.pal.size : Int) / 3) = true := decide_eq_true t5
        clear t5
        go_enter Try.func37, Try.ntmps37
        go_wp2
        go_ret
        exact ⟨rfl, HR.out.two 7 6 (.bool true) (.string d) (by decide) (by decide) (fun _ _ => rfl) rfl, ((Below.refl g w).setCell (p := ⟨g, 7, none⟩) (Nat.le_refl g) _).setCell (p := ⟨g, 6, none⟩) (Nat.le_refl g) _⟩
      · rw [if_neg t5]
        have y0 : decide ((d.size : Int) ≤ (s.pal.size : Int) / 3) = false := decide_eq_false t5
        clear t5
        go_enter Try.func37, Try.ntmps37
        go_wp2
        go_ret
        exact ⟨rfl, HR.out, Below.refl _ _⟩
    · rw [if_neg t4]
      rw [Bool.eq_false_iff.mpr t4] at c8
      clear t4
      go_enter Try.func37, Try.ntmps37
      go_wp2
      go_ret
      exact ⟨rfl, HR.out, Below.refl _ _⟩
  rw [if_neg t3]
  by_cases t4 : s.C = 0
  · rw [if_pos t4]
    rw [t4] at c3
    clear t3 t4
    have SM := Aside0.mk (show head_Samples.f 9 0 = some 1 from smp_is 0)
    by_cases t5 : (d.size : Int) = 2
    · rw [if_pos t5]
      have y0 : ((d.size : Int) == 2) = true := beq_iff_eq.mpr t5
      clear t5
      go_enter Try.func37, Try.ntmps37
      go_wp2_with (go_at_call 11; (with_reducible refine (head_Samples.calls 9 _ _ _ SM.out).mono ?_); rintro e w2 ⟨rfl, hb⟩; have hb_ := Aside0.mk hb; have HR2 := Aside0.mk (HR.out.below hb); have f7_ := HR2.out.fz 7; have f6_ := HR2.out.fz 6; have c6_ := HR2.out.cell.2.2.2.2.2.2.1; have c7_ := HR2.out.cell.2.2.2.2.2.2.2.1; clear hb)
      go_ret
      exact ⟨rfl, HR2.out.two 7 6 (.bool true) (.string d) (by decide) (by decide) (fun _ _ => rfl) rfl, ((hb_.out.mono (Nat.le_of_lt HG.out)).setCell (p := ⟨g, 7, none⟩) (Nat.le_refl g) _).setCell (p := ⟨g, 6, none⟩) (Nat.le_refl g) _⟩
    · rw [if_neg t5]
      have y0 : ((d.size : Int) == 2) = false := beq_eq_false_iff_ne.mpr t5
      clear t5
      go_enter Try.func37, Try.ntmps37
      go_wp2_with (go_at_call 11; (with_reducible refine (head_Samples.calls 9 _ _ _ SM.out).mono ?_); rintro e w2 ⟨rfl, hb⟩; have hb_ := Aside0.mk hb; have HR2 := Aside0.mk (HR.out.below hb); clear hb)
      go_ret
      exact ⟨rfl, HR2.out, hb_.out.mono (Nat.le_of_lt HG.out)⟩
  rw [if_neg t4]
  by_cases t5 : s.C = 2
  · rw [if_pos t5]
    rw [t5] at c3
    clear t3 t4 t5
    have SM := Aside0.mk (show head_Samples.f 9 2 = some 3 from smp_is 2)
    by_cases t5 : (d.size : Int) = 6
    · rw [if_pos t5]
      have y0 : ((d.size : Int) == 6) = true := beq_iff_eq.mpr t5
      clear t5
      go_enter Try.func37, Try.ntmps37
      go_wp2_with (go_at_call 11; (with_reducible refine (head_Samples.calls 9 _ _ _ SM.out).mono ?_); rintro e w2 ⟨rfl, hb⟩; have hb_ := Aside0.mk hb; have HR2 := Aside0.mk (HR.out.below hb); have f7_ := HR2.out.fz 7; have f6_ := HR2.out.fz 6; have c6_ := HR2.out.cell.2.2.2.2.2.2.1; have c7_ := HR2.out.cell.2.2.2.2.2.2.2.1; clear hb)
      go_ret
      exact ⟨rfl, HR2.out.two 7 6 (.bool true) (.string d) (by decide) (by decide) (fun _ _ => rfl) rfl, ((hb_.out.mono (Nat.le_of_lt HG.out)).setCell (p := ⟨g, 7, none⟩) (Nat.le_refl g) _).setCell (p := ⟨g, 6, none⟩) (Nat.le_refl g) _⟩
    · rw [if_neg t5]
      have y0 : ((d.size : Int) == 6) = false := beq_eq_false_iff_ne.mpr t5
      clear t5
      go_enter Try.func37, Try.ntmps37
      go_wp2_with (go_at_call 11; (with_reducible refine (head_Samples.calls 9 _ _ _ SM.out).mono ?_); rintro e w2 ⟨rfl, hb⟩; have hb_ := Aside0.mk hb; have HR2 := Aside0.mk (HR.out.below hb); clear hb)
      go_ret
      exact ⟨rfl, HR2.out, hb_.out.mono (Nat.le_of_lt HG.out)⟩
  rw [if_neg t5]
  have u0a : (s.C == 0) = false := beq_eq_false_iff_ne.mpr t4
  have u2a : (s.C == 2) = false := beq_eq_false_iff_ne.mpr t5
  have u3a : (s.C == 3) = false := beq_eq_false_iff_ne.mpr t3
  clear t3 t4 t5
  go_enter Try.func37, Try.ntmps37
  go_wp2
  go_ret
  exact ⟨rfl, HR.out, Below.refl _ _⟩
/-! ### ends -/
def endsV (s : HSt) (d : ByteArray) (b : Int) : Int := if d.toList = ([] : List UInt8) then (if s.idat = true then (if 0 < b then 4 else 0) else 23) else 21
set_option maxHeartbeats 8000000 in
set_option maxRecDepth 100000 in
theorem ends_calls (g : Nat) (s : HSt) (ty d : ByteArray) (b : Int) (w : World) (h : Rd g s w) :
    Calls Try.prog 30 #[.pointer (some ⟨g, 0, none⟩), .agg #[.string ty, .string d], .int .i64 b] w fun e w' => e = .returned (.int .i64 (endsV s d b)) ∧ Rd g s w' ∧ Below g w w' := by
  have HR := Aside0.mk h
  have HG := Aside0.mk h.lt
  clear h
  unfold endsV
  by_cases t : d.toList = ([] : List UInt8)
  · rw [if_pos t]
    have n0 : (d.toList == ([] : List UInt8)) = true := beq_iff_eq.mpr t
    have n1 : (d.toList != ([] : List UInt8)) = false := bne_eq_false_iff_eq.mpr t
    clear t
    by_cases t : s.idat = true
    · rw [if_pos t]
      have HT := Aside0.mk t
      clear t
      by_cases t : 0 < b
      · rw [if_pos t]
        have y0 : decide (0 < b) = true := decide_eq_true t
        clear t
        go_enter Try.func30, Try.ntmps30
        go_wp2_with (((with_reducible refine gate_dst (N := 4) rfl ?_); refine box_event ?hg (N := 4) ?hd (cs := #[.string ty, .string d]) (t := 30) ?hr ?_; (case hd => rfl); (case hg => rfl); (case hr => first | (go_simp; done) | (go_simp; rfl)); intro gh hg w1 hbox hb; have HB1 := Aside0.mk (hb.mono (Nat.le_of_lt HG.out)); have HR1 := Aside0.mk (HR.out.below hb); have HGH := Aside0.mk (show g < gh by have := HG.out; omega); have b0 : w1.cell? ⟨gh, 0, none⟩ = some (.string ty) := (blk_cell hbox 0).trans rfl; have b1 : w1.cell? ⟨gh, 1, none⟩ = some (.string d) := (blk_cell hbox 1).trans rfl; have BX := Aside0.mk hbox; have q11 := HR1.out.cell.2.2.2.2.2.2.2.2.2.1; rw [HT.out] at q11; clear hb hbox hg))
        go_ret
        exact ⟨rfl, HR1.out, HB1.out⟩
      · rw [if_neg t]
        have y0 : decide (0 < b) = false := decide_eq_false t
        clear t
        go_enter Try.func30, Try.ntmps30
        go_wp2_with (((with_reducible refine gate_dst (N := 4) rfl ?_); refine box_event ?hg (N := 4) ?hd (cs := #[.string ty, .string d]) (t := 30) ?hr ?_; (case hd => rfl); (case hg => rfl); (case hr => first | (go_simp; done) | (go_simp; rfl)); intro gh hg w1 hbox hb; have HB1 := Aside0.mk (hb.mono (Nat.le_of_lt HG.out)); have HR1 := Aside0.mk (HR.out.below hb); have HGH := Aside0.mk (show g < gh by have := HG.out; omega); have b0 : w1.cell? ⟨gh, 0, none⟩ = some (.string ty) := (blk_cell hbox 0).trans rfl; have b1 : w1.cell? ⟨gh, 1, none⟩ = some (.string d) := (blk_cell hbox 1).trans rfl; have BX := Aside0.mk hbox; have q11 := HR1.out.cell.2.2.2.2.2.2.2.2.2.1; rw [HT.out] at q11; clear hb hbox hg))
        go_ret
        exact ⟨rfl, HR1.out, HB1.out⟩
    · rw [if_neg t]
      have HT := Aside0.mk (Bool.eq_false_iff.mpr t)
      clear t
      go_enter Try.func30, Try.ntmps30
      go_wp2_with (((with_reducible refine gate_dst (N := 4) rfl ?_); refine box_event ?hg (N := 4) ?hd (cs := #[.string ty, .string d]) (t := 30) ?hr ?_; (case hd => rfl); (case hg => rfl); (case hr => first | (go_simp; done) | (go_simp; rfl)); intro gh hg w1 hbox hb; have HB1 := Aside0.mk (hb.mono (Nat.le_of_lt HG.out)); have HR1 := Aside0.mk (HR.out.below hb); have HGH := Aside0.mk (show g < gh by have := HG.out; omega); have b0 : w1.cell? ⟨gh, 0, none⟩ = some (.string ty) := (blk_cell hbox 0).trans rfl; have b1 : w1.cell? ⟨gh, 1, none⟩ = some (.string d) := (blk_cell hbox 1).trans rfl; have BX := Aside0.mk hbox; have q11 := HR1.out.cell.2.2.2.2.2.2.2.2.2.1; rw [HT.out] at q11; clear hb hbox hg))
      go_ret
      exact ⟨rfl, HR1.out, HB1.out⟩
  · rw [if_neg t]
    have n0 : (d.toList == ([] : List UInt8)) = false := beq_eq_false_iff_ne.mpr t
    have n1 : (d.toList != ([] : List UInt8)) = true := bne_iff_ne.mpr t
    clear t
    go_enter Try.func30, Try.ntmps30
    go_wp2_with (((with_reducible refine gate_dst (N := 4) rfl ?_); refine box_event ?hg (N := 4) ?hd (cs := #[.string ty, .string d]) (t := 30) ?hr ?_; (case hd => rfl); (case hg => rfl); (case hr => first | (go_simp; done) | (go_simp; rfl)); intro gh hg w1 hbox hb; have HB1 := Aside0.mk (hb.mono (Nat.le_of_lt HG.out)); have HR1 := Aside0.mk (HR.out.below hb); have HGH := Aside0.mk (show g < gh by have := HG.out; omega); have b0 : w1.cell? ⟨gh, 0, none⟩ = some (.string ty) := (blk_cell hbox 0).trans rfl; have b1 : w1.cell? ⟨gh, 1, none⟩ = some (.string d) := (blk_cell hbox 1).trans rfl; have BX := Aside0.mk hbox; clear hb hbox hg))
    go_ret
    exact ⟨rfl, HR1.out, HB1.out⟩
/-! ### takes -/
theorem str_app (a b : ByteArray) : Lib.strCells (a ++ b) = Lib.strCells a ++ Lib.strCells b := by
  rw [Lib.strCells_eq, Lib.strCells_eq, Lib.strCells_eq]
  simp [Lib.byteCells]
theorem rd_lies_ (s : HSt) (p v : Value) : Go.Proofs.YtbpnkgidlmjkkaaD.Lies 62 (s.cells p v).size 9 := rd_lies
theorem setc_ne {w : World} {g i b : Nat} {x : Value} {o : Obj} (h : w.heap[b]? = some o) (hne : b ≠ g) : (w.setCell ⟨g, i, none⟩ x).heap[b]? = some o := (Below.heap_setCell w ⟨g, i, none⟩ x b (fun e => hne e)).trans h
def HSt.late (s : HSt) : HSt := { s with gap := s.idat }
theorem Rd.late {g : Nat} {s : HSt} {w : World} (h : Rd g s w) : Rd g s.late (w.setCell ⟨g, 12, none⟩ (.bool s.idat)) := h.one 12 (.bool s.idat) (by decide) (fun _ _ => rfl) rfl
def datV (s : HSt) (d : ByteArray) : HSt := { s with idat := true, data := s.data ++ d }
def takesV (s : HSt) (cr : Bool) (ty d : ByteArray) : Int × HSt :=
  if ty.toList = [73, 72, 68, 82] then (23, s.late)
  else if ty.toList = [80, 76, 84, 69] then ((plteV s d).1, (plteV s d).2.late)
  else if ty.toList = [116, 82, 78, 83] then ((trnsV s d).1, (trnsV s d).2.late)
  else if ty.toList = [73, 68, 65, 84] then (if s.gap = true then (23, s) else if s.C = 3 then (if s.plt = true then (0, datV s d) else (23, s)) else (0, datV s d))
  else if cr = true then (27, s.late) else (0, s.late)
set_option maxHeartbeats 8000000 in
set_option maxRecDepth 100000 in
theorem takes_calls (g : Nat) (s : HSt) (ty d : ByteArray) (cr : Bool) (w : World) (h : Rd g s w) (hcr : chunk_Critical.f ty = some cr) (hD : 0 ≤ s.D) (hD2 : s.D ≤ 16) (hd : d.size ≤ 140737488355328) (hp : s.pal.size ≤ 768) (hs : s.data.size + d.size ≤ 140737488355328) :
    Calls Try.prog 32 #[.pointer (some ⟨g, 0, none⟩), .agg #[.string ty, .string d]] w fun e w' => e = .returned (.int .i64 (takesV s cr ty d).1) ∧ Rd g (takesV s cr ty d).2 w' ∧ Below g w w' := by
  have HR := Aside0.mk h
  have HG := Aside0.mk h.lt
  have HC := Aside0.mk hcr
  have HD := Aside0.mk hD
  have HD2 := Aside0.mk hD2
  have HZ := Aside0.mk hd
  have HP := Aside0.mk hp
  have HS := Aside0.mk hs
  clear h hcr hD hD2 hd hp hs
  unfold takesV
  by_cases t : ty.toList = [73, 72, 68, 82]
  · rw [if_pos t]
    have eI : (ty.toList == [73, 72, 68, 82]) = true := beq_iff_eq.mpr t
    clear t
    go_enter Try.func32, Try.ntmps32
    go_wp2_with (((with_reducible refine gate_dst (N := 3) rfl ?_); refine box_event ?hg (N := 3) ?hd (cs := #[.string ty, .string d]) (t := 30) ?hr ?_; (case hd => rfl); (case hg => rfl); (case hr => first | (go_simp; done) | (go_simp; rfl)); intro gh hg w1 hbox hb; have HB1 := Aside0.mk (hb.mono (Nat.le_of_lt HG.out)); have HR1 := Aside0.mk (HR.out.below hb); have HGH := Aside0.mk (show g < gh by have := HG.out; omega); have b0 : w1.cell? ⟨gh, 0, none⟩ = some (.string ty) := (blk_cell hbox 0).trans rfl; have b1 : w1.cell? ⟨gh, 1, none⟩ = some (.string d) := (blk_cell hbox 1).trans rfl; have BX := Aside0.mk hbox; have q11 := HR1.out.cell.2.2.2.2.2.2.2.2.2.1; have f12 := HR1.out.fz 12; have q12 := HR1.out.cell.2.2.2.2.2.2.2.2.2.2; clear hb hbox hg))
    go_ret
    exact ⟨rfl, HR1.out.late, HB1.out.setCell (p := ⟨g, 12, none⟩) (Nat.le_refl g) _⟩
  rw [if_neg t]
  have eI : (ty.toList == [73, 72, 68, 82]) = false := beq_eq_false_iff_ne.mpr t
  clear t
  by_cases t : ty.toList = [80, 76, 84, 69]
  · rw [if_pos t]
    have eP : (ty.toList == [80, 76, 84, 69]) = true := beq_iff_eq.mpr t
    clear t
    go_enter Try.func32, Try.ntmps32
    go_wp2_with (first | ((with_reducible refine gate_dst (N := 3) rfl ?_); refine box_event ?hg (N := 3) ?hd (cs := #[.string ty, .string d]) (t := 30) ?hr ?_; (case hd => rfl); (case hg => rfl); (case hr => first | (go_simp; done) | (go_simp; rfl)); intro gh hg w1 hbox hb; have HB1 := Aside0.mk (hb.mono (Nat.le_of_lt HG.out)); have HR1 := Aside0.mk (HR.out.below hb); have HGH := Aside0.mk (show g < gh by have := HG.out; omega); have b0 : w1.cell? ⟨gh, 0, none⟩ = some (.string ty) := (blk_cell hbox 0).trans rfl; have b1 : w1.cell? ⟨gh, 1, none⟩ = some (.string d) := (blk_cell hbox 1).trans rfl; have BX := Aside0.mk hbox; clear hb hbox hg) | (go_at_call 36; (with_reducible refine (plte_calls g s d _ HD.out HD2.out HR1.out HZ.out).mono ?_); rintro e w2 ⟨rfl, hr, hb⟩; have HR2 := Aside0.mk hr; have HB2 := Aside0.mk (HB1.out.trans hb); clear hr hb b0 b1; have r11 := HR2.out.cell.2.2.2.2.2.2.2.2.2.1; have g12 := HR2.out.fz 12; have r12 := HR2.out.cell.2.2.2.2.2.2.2.2.2.2))
    go_ret
    exact ⟨rfl, HR2.out.late, HB2.out.setCell (p := ⟨g, 12, none⟩) (Nat.le_refl g) _⟩
  rw [if_neg t]
  have eP : (ty.toList == [80, 76, 84, 69]) = false := beq_eq_false_iff_ne.mpr t
  clear t
  by_cases t : ty.toList = [116, 82, 78, 83]
  · rw [if_pos t]
    have eT : (ty.toList == [116, 82, 78, 83]) = true := beq_iff_eq.mpr t
    clear t
    go_enter Try.func32, Try.ntmps32
    go_wp2_with (first | ((with_reducible refine gate_dst (N := 3) rfl ?_); refine box_event ?hg (N := 3) ?hd (cs := #[.string ty, .string d]) (t := 30) ?hr ?_; (case hd => rfl); (case hg => rfl); (case hr => first | (go_simp; done) | (go_simp; rfl)); intro gh hg w1 hbox hb; have HB1 := Aside0.mk (hb.mono (Nat.le_of_lt HG.out)); have HR1 := Aside0.mk (HR.out.below hb); have HGH := Aside0.mk (show g < gh by have := HG.out; omega); have b0 : w1.cell? ⟨gh, 0, none⟩ = some (.string ty) := (blk_cell hbox 0).trans rfl; have b1 : w1.cell? ⟨gh, 1, none⟩ = some (.string d) := (blk_cell hbox 1).trans rfl; have BX := Aside0.mk hbox; clear hb hbox hg) | (go_at_call 37; (with_reducible refine (trns_calls g s d _ HR1.out HZ.out HP.out).mono ?_); rintro e w2 ⟨rfl, hr, hb⟩; have HR2 := Aside0.mk hr; have HB2 := Aside0.mk (HB1.out.trans hb); clear hr hb b0 b1; have r11 := HR2.out.cell.2.2.2.2.2.2.2.2.2.1; have g12 := HR2.out.fz 12; have r12 := HR2.out.cell.2.2.2.2.2.2.2.2.2.2))
    go_ret
    exact ⟨rfl, HR2.out.late, HB2.out.setCell (p := ⟨g, 12, none⟩) (Nat.le_refl g) _⟩
  rw [if_neg t]
  have eT : (ty.toList == [116, 82, 78, 83]) = false := beq_eq_false_iff_ne.mpr t
  clear t
  by_cases t : ty.toList = [73, 68, 65, 84]
  · rw [if_pos t]
    have eD : (ty.toList == [73, 68, 65, 84]) = true := beq_iff_eq.mpr t
    clear t
    by_cases t : s.gap = true
    · rw [if_pos t]
      have HT := Aside0.mk t
      clear t
      go_enter Try.func32, Try.ntmps32
      go_wp2_with (((with_reducible refine gate_dst (N := 3) rfl ?_); refine box_event ?hg (N := 3) ?hd (cs := #[.string ty, .string d]) (t := 30) ?hr ?_; (case hd => rfl); (case hg => rfl); (case hr => first | (go_simp; done) | (go_simp; rfl)); intro gh hg w1 hbox hb; have HB1 := Aside0.mk (hb.mono (Nat.le_of_lt HG.out)); have HR1 := Aside0.mk (HR.out.below hb); have HGH := Aside0.mk (show g < gh by have := HG.out; omega); have b0 : w1.cell? ⟨gh, 0, none⟩ = some (.string ty) := (blk_cell hbox 0).trans rfl; have b1 : w1.cell? ⟨gh, 1, none⟩ = some (.string d) := (blk_cell hbox 1).trans rfl; have BX := Aside0.mk hbox; have q12 := HR1.out.cell.2.2.2.2.2.2.2.2.2.2; rw [HT.out] at q12; clear hb hbox hg))
      go_ret
      exact ⟨rfl, HR1.out, HB1.out⟩
    rw [if_neg t]
    have HT := Aside0.mk (Bool.eq_false_iff.mpr t)
    clear t
    by_cases t : s.C = 3
    · rw [if_pos t]
      have H3 := Aside0.mk t
      clear t
      by_cases t : s.plt = true
      · rw [if_pos t]
        have H8 := Aside0.mk t
        clear t
        go_enter Try.func32, Try.ntmps32
        go_wp2_with (first | ((with_reducible refine gate_dst (N := 3) rfl ?_); refine box_event ?hg (N := 3) ?hd (cs := #[.string ty, .string d]) (t := 30) ?hr ?_; (case hd => rfl); (case hg => rfl); (case hr => first | (go_simp; done) | (go_simp; rfl)); intro gh hg w1 hbox hb; have HB1 := Aside0.mk (hb.mono (Nat.le_of_lt HG.out)); have HR1 := Aside0.mk (HR.out.below hb); have HGH := Aside0.mk (show g < gh by have := HG.out; omega); have b0 : w1.cell? ⟨gh, 0, none⟩ = some (.string ty) := (blk_cell hbox 0).trans rfl; have b1 : w1.cell? ⟨gh, 1, none⟩ = some (.string d) := (blk_cell hbox 1).trans rfl; have BX := Aside0.mk hbox; have q12 := HR1.out.cell.2.2.2.2.2.2.2.2.2.2; rw [HT.out] at q12; have q11 := HR1.out.cell.2.2.2.2.2.2.2.2.2.1; have f11 := HR1.out.fz 11; have q3 := HR1.out.cell.2.2.2.1; rw [H3.out] at q3; have q8 := HR1.out.cell.2.2.2.2.2.2.2.2.1; rw [H8.out] at q8; clear hb hbox hg))
        have HRs := Aside0.mk (show Rd g { s with idat := true } (World.drew _) from (HR1.out.one (t := { s with idat := true }) 11 (.bool true) (by decide) (fun _ _ => rfl) rfl).drew)
        have HBs := Aside0.mk (below_drew1 (HB1.out.setCell (p := ⟨g, 11, none⟩) (Nat.le_refl g) (.bool true)))
        have BXs := Aside0.mk (blk_drew (setc_ne (g := g) (i := 11) (x := .bool true) BX.out (fun e => by have := HGH.out; omega)))
        clear b0 b1 HR1 HB1 BX q11 q12 q3 f11
        refine start_ (n := 6) (S := fun w' => w'.cell? ⟨gh, 1, none⟩ = some (.string d)) (ds := []) #[false, false, false, false, false, false] (by kernel_rfl) rfl rfl ((blk_cell BXs.out 1).trans rfl) (fun hHeld => ?_)
        generalize World.drew _ = w4 at HRs HBs BXs hHeld ⊢
        refine pure_ (i := 0) (N := some 50) (v := ?_) (a' := ?_) #[true, false, false, false, false, false] rfl rfl (by kernel_rfl) (fun _ _ _ h => h) (Or.inl ⟨by rfl, ?_⟩) ?_ ?_
        rotate_left
        · intro w'
          go_simp
          with_reducible rfl
        rotate_left
        · simp only [Act.put, List.setIfInBounds_toArray, List.set_cons_zero, List.set_cons_succ, i64_w, i32_w]
          rfl
        refine pure_ (i := 1) (N := some 51) (v := ?_) (a' := ?_) #[true, true, false, false, false, false] rfl rfl (by kernel_rfl) (fun _ _ _ h => h) (Or.inl ⟨by rfl, ?_⟩) ?_ ?_
        rotate_left
        · intro w'
          go_simp
          with_reducible rfl
        rotate_left
        · simp only [Act.put, List.setIfInBounds_toArray, List.set_cons_zero, List.set_cons_succ, i64_w, i32_w]
          rfl
        refine pure_ (i := 2) (N := some 52) (v := ?_) (a' := ?_) #[true, true, true, false, false, false] rfl rfl (by kernel_rfl) (fun _ _ _ h => h) (Or.inl ⟨by rfl, ?_⟩) ?_ ?_
        rotate_left
        · intro w'
          go_simp
          with_reducible rfl
        rotate_left
        · simp only [Act.put, List.setIfInBounds_toArray, List.set_cons_zero, List.set_cons_succ, i64_w, i32_w]
          rfl
        refine pure_ (i := 3) (N := some 53) (v := ?_) (a' := ?_) #[true, true, true, true, false, false] rfl rfl (by kernel_rfl) (fun _ _ _ h => h) (Or.inl ⟨by rfl, ?_⟩) ?_ ?_
        rotate_left
        · intro w'
          go_simp
          with_reducible rfl
        rotate_left
        · simp only [Act.put, List.setIfInBounds_toArray, List.set_cons_zero, List.set_cons_succ, i64_w, i32_w]
          rfl
        refine take_ (i := 4) (N := some 54) (v := ?_) (a' := ?_) #[true, true, true, true, true, false] rfl rfl (by kernel_rfl) (fun _ _ _ h => h) (Or.inl ⟨by rfl, ?_⟩) hHeld ?_ ?_
        rotate_left
        · intro w' s1
          go_simp
          with_reducible rfl
        rotate_left
        · simp only [Act.put, List.setIfInBounds_toArray, List.set_cons_zero, List.set_cons_succ, i64_w, i32_w]
          rfl
        obtain ⟨p_, v_, HA⟩ := HRs.out
        have HA_ := Aside0.mk HA
        clear HA
        refine one_ (i := 5) (N := some 55) #[true, true, true, true, true, true] rfl rfl (by kernel_rfl) (by decide) (fun K hK => ?_)
        refine goes_ Try.func38 (by kernel_rfl) rfl #[.pointer (some ⟨g, 9, none⟩), .string d] (by rfl) rfl rfl (by (try simp only [List.map_toArray, List.map_cons, List.map_nil]); rfl) ?_
        with_reducible refine (Go.Proofs.YtbpnkgidlmjkkaaD.WriteString_at g g 9 62 (HSt.cells { s with idat := true } p_ v_) _ d _ (rd_lies_ _ _ _) HA_.out (by rw [Lib.strCells_length]; exact HS.out) (Nat.le_of_lt HA_.out.lt)).mono ?_
        rintro e w5 ⟨rfl, ⟨v5, hA5⟩, hbl, hsz, hk5, hoth⟩
        refine ⟨_, rfl, ?_⟩
        have BX5 := Aside0.mk (hoth gh _ BXs.out (fun e => by have := Option.some.inj e; have := HGH.out; omega) (fun _ _ e => by injection e with _ e2 _; exact absurd e2 (by decide)))
        have HR5 := Aside0.mk (show Rd g (datV s d) w5 from ⟨_, v5, by rw [show Lib.strCells (datV s d).data = Lib.strCells s.data ++ Lib.strCells d from str_app _ _]; exact hA5⟩)
        have HB5 := Aside0.mk (HBs.out.trans (hbl g (Nat.le_refl g) (Nat.le_refl g)))
        clear hA5 hoth hk5 hsz hbl HA_ HRs HBs BXs
        refine hK.out _ _ ((blk_cell BX5.out 1).trans rfl) (fun hHeld => ?_)
        clear hK K
        refine norm_ (a' := ?_) ?_ ?_
        rotate_left
        · show Act.put _ (some 55) _ = _
          simp only [Act.put, List.setIfInBounds_toArray, List.set_cons_zero, List.set_cons_succ, i64_w, i32_w]
          rfl
        refine done_ (by kernel_rfl) ?_
        try go_wp2
        go_ret
        exact ⟨rfl, HR5.out, HB5.out⟩
      · rw [if_neg t]
        have H8 := Aside0.mk (Bool.eq_false_iff.mpr t)
        clear t
        go_enter Try.func32, Try.ntmps32
        go_wp2_with (((with_reducible refine gate_dst (N := 3) rfl ?_); refine box_event ?hg (N := 3) ?hd (cs := #[.string ty, .string d]) (t := 30) ?hr ?_; (case hd => rfl); (case hg => rfl); (case hr => first | (go_simp; done) | (go_simp; rfl)); intro gh hg w1 hbox hb; have HB1 := Aside0.mk (hb.mono (Nat.le_of_lt HG.out)); have HR1 := Aside0.mk (HR.out.below hb); have HGH := Aside0.mk (show g < gh by have := HG.out; omega); have b0 : w1.cell? ⟨gh, 0, none⟩ = some (.string ty) := (blk_cell hbox 0).trans rfl; have b1 : w1.cell? ⟨gh, 1, none⟩ = some (.string d) := (blk_cell hbox 1).trans rfl; have BX := Aside0.mk hbox; have q12 := HR1.out.cell.2.2.2.2.2.2.2.2.2.2; rw [HT.out] at q12; have q11 := HR1.out.cell.2.2.2.2.2.2.2.2.2.1; have f11 := HR1.out.fz 11; have q3 := HR1.out.cell.2.2.2.1; rw [H3.out] at q3; have q8 := HR1.out.cell.2.2.2.2.2.2.2.2.1; rw [H8.out] at q8; clear hb hbox hg))
        go_ret
        exact ⟨rfl, HR1.out, HB1.out⟩
    · rw [if_neg t]
      have u3 : (s.C == 3) = false := beq_eq_false_iff_ne.mpr t
      clear t
      go_enter Try.func32, Try.ntmps32
      go_wp2_with (first | ((with_reducible refine gate_dst (N := 3) rfl ?_); refine box_event ?hg (N := 3) ?hd (cs := #[.string ty, .string d]) (t := 30) ?hr ?_; (case hd => rfl); (case hg => rfl); (case hr => first | (go_simp; done) | (go_simp; rfl)); intro gh hg w1 hbox hb; have HB1 := Aside0.mk (hb.mono (Nat.le_of_lt HG.out)); have HR1 := Aside0.mk (HR.out.below hb); have HGH := Aside0.mk (show g < gh by have := HG.out; omega); have b0 : w1.cell? ⟨gh, 0, none⟩ = some (.string ty) := (blk_cell hbox 0).trans rfl; have b1 : w1.cell? ⟨gh, 1, none⟩ = some (.string d) := (blk_cell hbox 1).trans rfl; have BX := Aside0.mk hbox; have q12 := HR1.out.cell.2.2.2.2.2.2.2.2.2.2; rw [HT.out] at q12; have q11 := HR1.out.cell.2.2.2.2.2.2.2.2.2.1; have f11 := HR1.out.fz 11; have q3 := HR1.out.cell.2.2.2.1; clear hb hbox hg))
      have HRs := Aside0.mk (show Rd g { s with idat := true } (World.drew _) from (HR1.out.one (t := { s with idat := true }) 11 (.bool true) (by decide) (fun _ _ => rfl) rfl).drew)
      have HBs := Aside0.mk (below_drew1 (HB1.out.setCell (p := ⟨g, 11, none⟩) (Nat.le_refl g) (.bool true)))
      have BXs := Aside0.mk (blk_drew (setc_ne (g := g) (i := 11) (x := .bool true) BX.out (fun e => by have := HGH.out; omega)))
      clear b0 b1 HR1 HB1 BX q11 q12 q3 f11
      refine start_ (n := 6) (S := fun w' => w'.cell? ⟨gh, 1, none⟩ = some (.string d)) (ds := []) #[false, false, false, false, false, false] (by kernel_rfl) rfl rfl ((blk_cell BXs.out 1).trans rfl) (fun hHeld => ?_)
      generalize World.drew _ = w4 at HRs HBs BXs hHeld ⊢
      refine pure_ (i := 0) (N := some 50) (v := ?_) (a' := ?_) #[true, false, false, false, false, false] rfl rfl (by kernel_rfl) (fun _ _ _ h => h) (Or.inl ⟨by rfl, ?_⟩) ?_ ?_
      rotate_left
      · intro w'
        go_simp
        with_reducible rfl
      rotate_left
      · simp only [Act.put, List.setIfInBounds_toArray, List.set_cons_zero, List.set_cons_succ, i64_w, i32_w]
        rfl
      refine pure_ (i := 1) (N := some 51) (v := ?_) (a' := ?_) #[true, true, false, false, false, false] rfl rfl (by kernel_rfl) (fun _ _ _ h => h) (Or.inl ⟨by rfl, ?_⟩) ?_ ?_
      rotate_left
      · intro w'
        go_simp
        with_reducible rfl
      rotate_left
      · simp only [Act.put, List.setIfInBounds_toArray, List.set_cons_zero, List.set_cons_succ, i64_w, i32_w]
        rfl
      refine pure_ (i := 2) (N := some 52) (v := ?_) (a' := ?_) #[true, true, true, false, false, false] rfl rfl (by kernel_rfl) (fun _ _ _ h => h) (Or.inl ⟨by rfl, ?_⟩) ?_ ?_
      rotate_left
      · intro w'
        go_simp
        with_reducible rfl
      rotate_left
      · simp only [Act.put, List.setIfInBounds_toArray, List.set_cons_zero, List.set_cons_succ, i64_w, i32_w]
        rfl
      refine pure_ (i := 3) (N := some 53) (v := ?_) (a' := ?_) #[true, true, true, true, false, false] rfl rfl (by kernel_rfl) (fun _ _ _ h => h) (Or.inl ⟨by rfl, ?_⟩) ?_ ?_
      rotate_left
      · intro w'
        go_simp
        with_reducible rfl
      rotate_left
      · simp only [Act.put, List.setIfInBounds_toArray, List.set_cons_zero, List.set_cons_succ, i64_w, i32_w]
        rfl
      refine take_ (i := 4) (N := some 54) (v := ?_) (a' := ?_) #[true, true, true, true, true, false] rfl rfl (by kernel_rfl) (fun _ _ _ h => h) (Or.inl ⟨by rfl, ?_⟩) hHeld ?_ ?_
      rotate_left
      · intro w' s1
        go_simp
        with_reducible rfl
      rotate_left
      · simp only [Act.put, List.setIfInBounds_toArray, List.set_cons_zero, List.set_cons_succ, i64_w, i32_w]
        rfl
      obtain ⟨p_, v_, HA⟩ := HRs.out
      have HA_ := Aside0.mk HA
      clear HA
      refine one_ (i := 5) (N := some 55) #[true, true, true, true, true, true] rfl rfl (by kernel_rfl) (by decide) (fun K hK => ?_)
      refine goes_ Try.func38 (by kernel_rfl) rfl #[.pointer (some ⟨g, 9, none⟩), .string d] (by rfl) rfl rfl (by (try simp only [List.map_toArray, List.map_cons, List.map_nil]); rfl) ?_
      with_reducible refine (Go.Proofs.YtbpnkgidlmjkkaaD.WriteString_at g g 9 62 (HSt.cells { s with idat := true } p_ v_) _ d _ (rd_lies_ _ _ _) HA_.out (by rw [Lib.strCells_length]; exact HS.out) (Nat.le_of_lt HA_.out.lt)).mono ?_
      rintro e w5 ⟨rfl, ⟨v5, hA5⟩, hbl, hsz, hk5, hoth⟩
      refine ⟨_, rfl, ?_⟩
      have BX5 := Aside0.mk (hoth gh _ BXs.out (fun e => by have := Option.some.inj e; have := HGH.out; omega) (fun _ _ e => by injection e with _ e2 _; exact absurd e2 (by decide)))
      have HR5 := Aside0.mk (show Rd g (datV s d) w5 from ⟨_, v5, by rw [show Lib.strCells (datV s d).data = Lib.strCells s.data ++ Lib.strCells d from str_app _ _]; exact hA5⟩)
      have HB5 := Aside0.mk (HBs.out.trans (hbl g (Nat.le_refl g) (Nat.le_refl g)))
      clear hA5 hoth hk5 hsz hbl HA_ HRs HBs BXs
      refine hK.out _ _ ((blk_cell BX5.out 1).trans rfl) (fun hHeld => ?_)
      clear hK K
      refine norm_ (a' := ?_) ?_ ?_
      rotate_left
      · show Act.put _ (some 55) _ = _
        simp only [Act.put, List.setIfInBounds_toArray, List.set_cons_zero, List.set_cons_succ, i64_w, i32_w]
        rfl
      refine done_ (by kernel_rfl) ?_
      try go_wp2
      go_ret
      exact ⟨rfl, HR5.out, HB5.out⟩
  rw [if_neg t]
  have eD : (ty.toList == [73, 68, 65, 84]) = false := beq_eq_false_iff_ne.mpr t
  clear t
  by_cases t : cr = true
  · rw [if_pos t]
    subst t
    go_enter Try.func32, Try.ntmps32
    go_wp2_with (first | ((with_reducible refine gate_dst (N := 3) rfl ?_); refine box_event ?hg (N := 3) ?hd (cs := #[.string ty, .string d]) (t := 30) ?hr ?_; (case hd => rfl); (case hg => rfl); (case hr => first | (go_simp; done) | (go_simp; rfl)); intro gh hg w1 hbox hb; have HB1 := Aside0.mk (hb.mono (Nat.le_of_lt HG.out)); have HR1 := Aside0.mk (HR.out.below hb); have HGH := Aside0.mk (show g < gh by have := HG.out; omega); have b0 : w1.cell? ⟨gh, 0, none⟩ = some (.string ty) := (blk_cell hbox 0).trans rfl; have b1 : w1.cell? ⟨gh, 1, none⟩ = some (.string d) := (blk_cell hbox 1).trans rfl; have BX := Aside0.mk hbox; have q11 := HR1.out.cell.2.2.2.2.2.2.2.2.2.1; have f12 := HR1.out.fz 12; have q12 := HR1.out.cell.2.2.2.2.2.2.2.2.2.2; clear hb hbox hg) | (go_at_call 39; (with_reducible refine (chunk_Critical.calls ty _ _ HC.out).mono ?_); rintro e w2 ⟨rfl, hdr⟩; have hb := hdr.below; have HR2 := Aside0.mk (HR1.out.below hb); have HB2 := Aside0.mk (HB1.out.trans (hb.mono (Nat.le_of_lt HR1.out.lt))); clear hdr hb b0 b1; have r11 := HR2.out.cell.2.2.2.2.2.2.2.2.2.1; have g12 := HR2.out.fz 12; have r12 := HR2.out.cell.2.2.2.2.2.2.2.2.2.2))
    go_ret
    exact ⟨rfl, HR2.out.late, HB2.out.setCell (p := ⟨g, 12, none⟩) (Nat.le_refl g) _⟩
  · rw [if_neg t]
    obtain rfl : cr = false := Bool.eq_false_iff.mpr t
    clear t
    go_enter Try.func32, Try.ntmps32
    go_wp2_with (first | ((with_reducible refine gate_dst (N := 3) rfl ?_); refine box_event ?hg (N := 3) ?hd (cs := #[.string ty, .string d]) (t := 30) ?hr ?_; (case hd => rfl); (case hg => rfl); (case hr => first | (go_simp; done) | (go_simp; rfl)); intro gh hg w1 hbox hb; have HB1 := Aside0.mk (hb.mono (Nat.le_of_lt HG.out)); have HR1 := Aside0.mk (HR.out.below hb); have HGH := Aside0.mk (show g < gh by have := HG.out; omega); have b0 : w1.cell? ⟨gh, 0, none⟩ = some (.string ty) := (blk_cell hbox 0).trans rfl; have b1 : w1.cell? ⟨gh, 1, none⟩ = some (.string d) := (blk_cell hbox 1).trans rfl; have BX := Aside0.mk hbox; have q11 := HR1.out.cell.2.2.2.2.2.2.2.2.2.1; have f12 := HR1.out.fz 12; have q12 := HR1.out.cell.2.2.2.2.2.2.2.2.2.2; clear hb hbox hg) | (go_at_call 39; (with_reducible refine (chunk_Critical.calls ty _ _ HC.out).mono ?_); rintro e w2 ⟨rfl, hdr⟩; have hb := hdr.below; have HR2 := Aside0.mk (HR1.out.below hb); have HB2 := Aside0.mk (HB1.out.trans (hb.mono (Nat.le_of_lt HR1.out.lt))); clear hdr hb b0 b1; have r11 := HR2.out.cell.2.2.2.2.2.2.2.2.2.1; have g12 := HR2.out.fz 12; have r12 := HR2.out.cell.2.2.2.2.2.2.2.2.2.2))
    go_ret
    exact ⟨rfl, HR2.out.late, HB2.out.setCell (p := ⟨g, 12, none⟩) (Nat.le_refl g) _⟩
/-! ### first -/
def head_num.f (a0 : ByteArray) : Option (Int) := if 0 < (a0.size : Int) then (if 1 < (a0.size : Int) then (if 2 < (a0.size : Int) then (if 3 < (a0.size : Int) then (some (Go.bits .or .i64 (Go.bits .or .i64 (Go.bits .or .i64 (wrap64 ((wrap64 (bt a0 0)) * 16777216)) (wrap64 ((wrap64 (bt a0 1)) * 65536))) (wrap64 ((wrap64 (bt a0 2)) * 256))) (wrap64 (bt a0 3)))) else (none)) else (none)) else (none)) else (none)
set_option maxHeartbeats 40000000 in
set_option maxRecDepth 100000 in
theorem head_num.calls (a0 : ByteArray) (r : Int) (w : World) (h : head_num.f a0 = some r) :
    Calls Try.prog 35 #[.string a0] w fun e w' => e = .returned (.int .i64 r) ∧ Drawn0 w w' := by
  have H : (if 0 < (a0.size : Int) then (if 1 < (a0.size : Int) then (if 2 < (a0.size : Int) then (if 3 < (a0.size : Int) then (some (Go.bits .or .i64 (Go.bits .or .i64 (Go.bits .or .i64 (wrap64 ((wrap64 (bt a0 0)) * 16777216)) (wrap64 ((wrap64 (bt a0 1)) * 65536))) (wrap64 ((wrap64 (bt a0 2)) * 256))) (wrap64 (bt a0 3)))) else (none)) else (none)) else (none)) else (none)) = some r := h
  clear h
  by_cases c2 : 0 < (a0.size : Int)
  · rw [if_pos c2] at H
    have c2b0 : decide (0 < (a0.size : Int)) = true := decide_eq_true c2
    have c2b1 : decide (0 < a0.size) = true := decide_eq_true (by omega)
    clear c2
    by_cases c4 : 1 < (a0.size : Int)
    · rw [if_pos c4] at H
      have c4b0 : decide (1 < (a0.size : Int)) = true := decide_eq_true c4
      have c4b1 : decide (1 < a0.size) = true := decide_eq_true (by omega)
      clear c4
      by_cases c6 : 2 < (a0.size : Int)
      · rw [if_pos c6] at H
        have c6b0 : decide (2 < (a0.size : Int)) = true := decide_eq_true c6
        have c6b1 : decide (2 < a0.size) = true := decide_eq_true (by omega)
        clear c6
        by_cases c8 : 3 < (a0.size : Int)
        · rw [if_pos c8] at H
          have c8b0 : decide (3 < (a0.size : Int)) = true := decide_eq_true c8
          have c8b1 : decide (3 < a0.size) = true := decide_eq_true (by omega)
          clear c8
          obtain rfl := Option.some.inj H
          have p3 : 0 ≤ (0 : Int) := (by omega)
          have q3 : 0 < a0.size := (by have : (0 : Int) < (a0.size : Int) := of_decide_eq_true (by first | (with_reducible assumption) | assumption); omega)
          have hx3 : ∀ h : 0 < a0.size, ((a0[0]'h).toNat : Int) = bt a0 0 := bt_at a0 0
          clear p3
          have qi3 : (0 < (a0.size : Int)) = True := eq_true (of_decide_eq_true (by first | (with_reducible assumption) | assumption))
          replace q3 := eq_true q3
          have p5 : 0 ≤ (1 : Int) := (by omega)
          have q5 : 1 < a0.size := (by have : (1 : Int) < (a0.size : Int) := of_decide_eq_true (by first | (with_reducible assumption) | assumption); omega)
          have hx5 : ∀ h : 1 < a0.size, ((a0[1]'h).toNat : Int) = bt a0 1 := bt_at a0 1
          clear p5
          have qi5 : (1 < (a0.size : Int)) = True := eq_true (of_decide_eq_true (by first | (with_reducible assumption) | assumption))
          replace q5 := eq_true q5
          have p7 : 0 ≤ (2 : Int) := (by omega)
          have q7 : 2 < a0.size := (by have : (2 : Int) < (a0.size : Int) := of_decide_eq_true (by first | (with_reducible assumption) | assumption); omega)
          have hx7 : ∀ h : 2 < a0.size, ((a0[2]'h).toNat : Int) = bt a0 2 := bt_at a0 2
          clear p7
          have qi7 : (2 < (a0.size : Int)) = True := eq_true (of_decide_eq_true (by first | (with_reducible assumption) | assumption))
          replace q7 := eq_true q7
          have p9 : 0 ≤ (3 : Int) := (by omega)
          have q9 : 3 < a0.size := (by have : (3 : Int) < (a0.size : Int) := of_decide_eq_true (by first | (with_reducible assumption) | assumption); omega)
          have hx9 : ∀ h : 3 < a0.size, ((a0[3]'h).toNat : Int) = bt a0 3 := bt_at a0 3
          clear p9
          have qi9 : (3 < (a0.size : Int)) = True := eq_true (of_decide_eq_true (by first | (with_reducible assumption) | assumption))
          replace q9 := eq_true q9
          go_enter Try.func35, Try.ntmps35
          go_wp2
          repeat (go_quiet (fail); try go_wp2)
          go_ret
          exact ⟨by first | rfl | (simp; done) | (simp [*]; done), by repeat (first | exact Drawn0.refl _ | apply Drawn0.step)⟩
        · rw [if_neg c8] at H
          exact absurd H (by simp)
      · rw [if_neg c6] at H
        exact absurd H (by simp)
    · rw [if_neg c4] at H
      exact absurd H (by simp)
  · rw [if_neg c2] at H
    exact absurd H (by simp)

def numV (s : ByteArray) : Int := Go.bits .or .i64 (Go.bits .or .i64 (Go.bits .or .i64 (wrap64 ((wrap64 (bt s 0)) * 16777216)) (wrap64 ((wrap64 (bt s 1)) * 65536))) (wrap64 ((wrap64 (bt s 2)) * 256))) (wrap64 (bt s 3))
theorem num_is (s : ByteArray) (h : 3 < s.size) : head_num.f s = some (numV s) := by
  unfold head_num.f
  rw [if_pos (by omega), if_pos (by omega), if_pos (by omega), if_pos (by omega)]
  rfl
/-! ### first's walk -/
set_option maxHeartbeats 8000000 in
set_option maxRecDepth 100000 in
theorem first_not (ty d : ByteArray) (w : World) (t : ¬ ty.toList = [73, 72, 68, 82]) :
    Calls Try.prog 29 #[.agg #[.string ty, .string d]] w fun e w' => e = .returned (.tuple #[.agg #[.int .i64 0, .int .i64 0, .int .i64 0, .int .i64 0, .int .i64 0], .int .i64 23]) ∧ Below w.heap.size w w' := by
  have e0 : (ty.toList == [73, 72, 68, 82]) = false := beq_eq_false_iff_ne.mpr t
  have e1 : (ty.toList != [73, 72, 68, 82]) = true := bne_iff_ne.mpr t
  clear t
  go_enter Try.func29, Try.ntmps29
  go_wp2_with (first | ((with_reducible refine gate_dst (N := 1) rfl ?_); refine box_event ?hg (N := 1) ?hd (cs := #[.string ty, .string d]) (t := 30) ?hr ?_; (case hd => rfl); (case hg => rfl); (case hr => first | (go_simp; done) | (go_simp; rfl)); intro gh hg w1 hbox hb; have HB1 := Aside0.mk hb; have BX1 := Aside0.mk hbox; clear hb hbox hg) | ((with_reducible refine gate_dst (N := 2) rfl ?_); refine box_event ?hg (N := 2) ?hd (cs := #[.int .i64 0, .int .i64 0, .int .i64 0, .int .i64 0, .int .i64 0]) (t := 23) ?hr ?_; (case hd => rfl); (case hg => rfl); (case hr => first | (go_simp; done) | (go_simp; rfl)); intro gr hg w2 hbox hb; have HB2 := Aside0.mk (below_step HB1.out hb); have BX2 := Aside0.mk (blk_below BX1.out hb); have GR := Aside0.mk (show w.heap.size ≤ gr from by rw [hg]; exact below_size HB1.out); have b0 : w2.cell? ⟨gh, 0, none⟩ = some (.string ty) := (blk_cell BX2.out 0).trans rfl; have b1 : w2.cell? ⟨gh, 1, none⟩ = some (.string d) := (blk_cell BX2.out 1).trans rfl; have z0 : w2.cell? ⟨gr, 0, none⟩ = some (.int .i64 0) := (blk_cell hbox 0).trans rfl; have f0 := blk_frozen hbox 0; have z1 : w2.cell? ⟨gr, 1, none⟩ = some (.int .i64 0) := (blk_cell hbox 1).trans rfl; have f1 := blk_frozen hbox 1; have z2 : w2.cell? ⟨gr, 2, none⟩ = some (.int .i64 0) := (blk_cell hbox 2).trans rfl; have f2 := blk_frozen hbox 2; have z3 : w2.cell? ⟨gr, 3, none⟩ = some (.int .i64 0) := (blk_cell hbox 3).trans rfl; have f3 := blk_frozen hbox 3; have z4 : w2.cell? ⟨gr, 4, none⟩ = some (.int .i64 0) := (blk_cell hbox 4).trans rfl; have f4 := blk_frozen hbox 4; have BK := Aside0.mk hbox; clear hb hbox hg HB1 BX1))
  refine bodyPost_ret (results_ct rfl _ _ gr 23 #[.int .i64 0, .int .i64 0, .int .i64 0, .int .i64 0, .int .i64 0] (0, 0) _ rfl (by (with_reducible repeat (first | refine blk_drewN ?_ _ | refine blk_drew ?_ | refine blk_alloc ?_ _)); refine blk_put (cs := #[.int .i64 0, .int .i64 0, .int .i64 0, .int .i64 0, .int .i64 0]) ?_ 4 _ rfl; (with_reducible repeat (first | refine blk_drewN ?_ _ | refine blk_drew ?_ | refine blk_alloc ?_ _)); refine blk_put (cs := #[.int .i64 0, .int .i64 0, .int .i64 0, .int .i64 0, .int .i64 0]) ?_ 3 _ rfl; (with_reducible repeat (first | refine blk_drewN ?_ _ | refine blk_drew ?_ | refine blk_alloc ?_ _)); refine blk_put (cs := #[.int .i64 0, .int .i64 0, .int .i64 0, .int .i64 0, .int .i64 0]) ?_ 2 _ rfl; (with_reducible repeat (first | refine blk_drewN ?_ _ | refine blk_drew ?_ | refine blk_alloc ?_ _)); refine blk_put (cs := #[.int .i64 0, .int .i64 0, .int .i64 0, .int .i64 0, .int .i64 0]) ?_ 1 _ rfl; (with_reducible repeat (first | refine blk_drewN ?_ _ | refine blk_drew ?_ | refine blk_alloc ?_ _)); refine blk_put (cs := #[.int .i64 0, .int .i64 0, .int .i64 0, .int .i64 0, .int .i64 0]) ?_ 0 _ rfl; (with_reducible repeat (first | refine blk_drewN ?_ _ | refine blk_drew ?_ | refine blk_alloc ?_ _)); exact BK.out) Try.underlying23 rfl (by kernel_rfl)) rfl ?_
  exact ⟨rfl, by repeat (first | (with_reducible first | exact HB2.out | apply below_alloc | apply pw_below_drewN | apply below_drew1 | refine below_set ?_ GR.out) | exact HB2.out)⟩
set_option maxHeartbeats 8000000 in
set_option maxRecDepth 100000 in
theorem first_bad1 (ty d : ByteArray) (w : World) (t : ty.toList = [73, 72, 68, 82]) (u : ¬ (d.size : Int) = 13) :
    Calls Try.prog 29 #[.agg #[.string ty, .string d]] w fun e w' => e = .returned (.tuple #[.agg #[.int .i64 0, .int .i64 0, .int .i64 0, .int .i64 0, .int .i64 0], .int .i64 24]) ∧ Below w.heap.size w w' := by
  have e0 : (ty.toList == [73, 72, 68, 82]) = true := beq_iff_eq.mpr t
  have e1 : (ty.toList != [73, 72, 68, 82]) = false := bne_eq_false_iff_eq.mpr t
  clear t
  have v0 : ((d.size : Int) == 13) = false := beq_eq_false_iff_ne.mpr u
  have v1 : ((d.size : Int) != 13) = true := bne_iff_ne.mpr u
  clear u
  go_enter Try.func29, Try.ntmps29
  go_wp2_with (first | ((with_reducible refine gate_dst (N := 1) rfl ?_); refine box_event ?hg (N := 1) ?hd (cs := #[.string ty, .string d]) (t := 30) ?hr ?_; (case hd => rfl); (case hg => rfl); (case hr => first | (go_simp; done) | (go_simp; rfl)); intro gh hg w1 hbox hb; have HB1 := Aside0.mk hb; have BX1 := Aside0.mk hbox; clear hb hbox hg) | ((with_reducible refine gate_dst (N := 2) rfl ?_); refine box_event ?hg (N := 2) ?hd (cs := #[.int .i64 0, .int .i64 0, .int .i64 0, .int .i64 0, .int .i64 0]) (t := 23) ?hr ?_; (case hd => rfl); (case hg => rfl); (case hr => first | (go_simp; done) | (go_simp; rfl)); intro gr hg w2 hbox hb; have HB2 := Aside0.mk (below_step HB1.out hb); have BX2 := Aside0.mk (blk_below BX1.out hb); have GR := Aside0.mk (show w.heap.size ≤ gr from by rw [hg]; exact below_size HB1.out); have b0 : w2.cell? ⟨gh, 0, none⟩ = some (.string ty) := (blk_cell BX2.out 0).trans rfl; have b1 : w2.cell? ⟨gh, 1, none⟩ = some (.string d) := (blk_cell BX2.out 1).trans rfl; have z0 : w2.cell? ⟨gr, 0, none⟩ = some (.int .i64 0) := (blk_cell hbox 0).trans rfl; have f0 := blk_frozen hbox 0; have z1 : w2.cell? ⟨gr, 1, none⟩ = some (.int .i64 0) := (blk_cell hbox 1).trans rfl; have f1 := blk_frozen hbox 1; have z2 : w2.cell? ⟨gr, 2, none⟩ = some (.int .i64 0) := (blk_cell hbox 2).trans rfl; have f2 := blk_frozen hbox 2; have z3 : w2.cell? ⟨gr, 3, none⟩ = some (.int .i64 0) := (blk_cell hbox 3).trans rfl; have f3 := blk_frozen hbox 3; have z4 : w2.cell? ⟨gr, 4, none⟩ = some (.int .i64 0) := (blk_cell hbox 4).trans rfl; have f4 := blk_frozen hbox 4; have BK := Aside0.mk hbox; clear hb hbox hg HB1 BX1))
  refine bodyPost_ret (results_ct rfl _ _ gr 23 #[.int .i64 0, .int .i64 0, .int .i64 0, .int .i64 0, .int .i64 0] (0, 0) _ rfl (by (with_reducible repeat (first | refine blk_drewN ?_ _ | refine blk_drew ?_ | refine blk_alloc ?_ _)); refine blk_put (cs := #[.int .i64 0, .int .i64 0, .int .i64 0, .int .i64 0, .int .i64 0]) ?_ 4 _ rfl; (with_reducible repeat (first | refine blk_drewN ?_ _ | refine blk_drew ?_ | refine blk_alloc ?_ _)); refine blk_put (cs := #[.int .i64 0, .int .i64 0, .int .i64 0, .int .i64 0, .int .i64 0]) ?_ 3 _ rfl; (with_reducible repeat (first | refine blk_drewN ?_ _ | refine blk_drew ?_ | refine blk_alloc ?_ _)); refine blk_put (cs := #[.int .i64 0, .int .i64 0, .int .i64 0, .int .i64 0, .int .i64 0]) ?_ 2 _ rfl; (with_reducible repeat (first | refine blk_drewN ?_ _ | refine blk_drew ?_ | refine blk_alloc ?_ _)); refine blk_put (cs := #[.int .i64 0, .int .i64 0, .int .i64 0, .int .i64 0, .int .i64 0]) ?_ 1 _ rfl; (with_reducible repeat (first | refine blk_drewN ?_ _ | refine blk_drew ?_ | refine blk_alloc ?_ _)); refine blk_put (cs := #[.int .i64 0, .int .i64 0, .int .i64 0, .int .i64 0, .int .i64 0]) ?_ 0 _ rfl; (with_reducible repeat (first | refine blk_drewN ?_ _ | refine blk_drew ?_ | refine blk_alloc ?_ _)); exact BK.out) Try.underlying23 rfl (by kernel_rfl)) rfl ?_
  exact ⟨rfl, by repeat (first | (with_reducible first | exact HB2.out | apply below_alloc | apply pw_below_drewN | apply below_drew1 | refine below_set ?_ GR.out) | exact HB2.out)⟩
set_option maxHeartbeats 8000000 in
set_option maxRecDepth 100000 in
theorem first_bad2 (ty d : ByteArray) (w : World) (t : ty.toList = [73, 72, 68, 82]) (u : (d.size : Int) = 13 ∧ ¬ bt d 10 = 0) :
    Calls Try.prog 29 #[.agg #[.string ty, .string d]] w fun e w' => e = .returned (.tuple #[.agg #[.int .i64 0, .int .i64 0, .int .i64 0, .int .i64 0, .int .i64 0], .int .i64 24]) ∧ Below w.heap.size w w' := by
  have e0 : (ty.toList == [73, 72, 68, 82]) = true := beq_iff_eq.mpr t
  have e1 : (ty.toList != [73, 72, 68, 82]) = false := bne_eq_false_iff_eq.mpr t
  clear t
  obtain ⟨u, x⟩ := u
  have v0 : ((d.size : Int) == 13) = true := beq_iff_eq.mpr u
  have v1 : ((d.size : Int) != 13) = false := bne_eq_false_iff_eq.mpr u
  have qa10 : (10 < d.size) = True := eq_true (by omega)
  have qb10 : (10 < (d.size : Int)) = True := eq_true (by omega)
  have qc10 : decide (10 < (d.size : Int)) = true := decide_eq_true (by omega)
  have qd10 : decide (10 < d.size) = true := decide_eq_true (by omega)
  have hx10 : ∀ h : 10 < d.size, ((d[10]'h).toNat : Int) = bt d 10 := bt_at d 10
  have x0 : (bt d 10 == 0) = false := beq_eq_false_iff_ne.mpr x
  have x1 : (bt d 10 != 0) = true := bne_iff_ne.mpr x
  clear u x
  go_enter Try.func29, Try.ntmps29
  go_wp2_with (first | ((with_reducible refine gate_dst (N := 1) rfl ?_); refine box_event ?hg (N := 1) ?hd (cs := #[.string ty, .string d]) (t := 30) ?hr ?_; (case hd => rfl); (case hg => rfl); (case hr => first | (go_simp; done) | (go_simp; rfl)); intro gh hg w1 hbox hb; have HB1 := Aside0.mk hb; have BX1 := Aside0.mk hbox; clear hb hbox hg) | ((with_reducible refine gate_dst (N := 2) rfl ?_); refine box_event ?hg (N := 2) ?hd (cs := #[.int .i64 0, .int .i64 0, .int .i64 0, .int .i64 0, .int .i64 0]) (t := 23) ?hr ?_; (case hd => rfl); (case hg => rfl); (case hr => first | (go_simp; done) | (go_simp; rfl)); intro gr hg w2 hbox hb; have HB2 := Aside0.mk (below_step HB1.out hb); have BX2 := Aside0.mk (blk_below BX1.out hb); have GR := Aside0.mk (show w.heap.size ≤ gr from by rw [hg]; exact below_size HB1.out); have b0 : w2.cell? ⟨gh, 0, none⟩ = some (.string ty) := (blk_cell BX2.out 0).trans rfl; have b1 : w2.cell? ⟨gh, 1, none⟩ = some (.string d) := (blk_cell BX2.out 1).trans rfl; have z0 : w2.cell? ⟨gr, 0, none⟩ = some (.int .i64 0) := (blk_cell hbox 0).trans rfl; have f0 := blk_frozen hbox 0; have z1 : w2.cell? ⟨gr, 1, none⟩ = some (.int .i64 0) := (blk_cell hbox 1).trans rfl; have f1 := blk_frozen hbox 1; have z2 : w2.cell? ⟨gr, 2, none⟩ = some (.int .i64 0) := (blk_cell hbox 2).trans rfl; have f2 := blk_frozen hbox 2; have z3 : w2.cell? ⟨gr, 3, none⟩ = some (.int .i64 0) := (blk_cell hbox 3).trans rfl; have f3 := blk_frozen hbox 3; have z4 : w2.cell? ⟨gr, 4, none⟩ = some (.int .i64 0) := (blk_cell hbox 4).trans rfl; have f4 := blk_frozen hbox 4; have BK := Aside0.mk hbox; clear hb hbox hg HB1 BX1))
  refine bodyPost_ret (results_ct rfl _ _ gr 23 #[.int .i64 0, .int .i64 0, .int .i64 0, .int .i64 0, .int .i64 0] (0, 0) _ rfl (by (with_reducible repeat (first | refine blk_drewN ?_ _ | refine blk_drew ?_ | refine blk_alloc ?_ _)); refine blk_put (cs := #[.int .i64 0, .int .i64 0, .int .i64 0, .int .i64 0, .int .i64 0]) ?_ 4 _ rfl; (with_reducible repeat (first | refine blk_drewN ?_ _ | refine blk_drew ?_ | refine blk_alloc ?_ _)); refine blk_put (cs := #[.int .i64 0, .int .i64 0, .int .i64 0, .int .i64 0, .int .i64 0]) ?_ 3 _ rfl; (with_reducible repeat (first | refine blk_drewN ?_ _ | refine blk_drew ?_ | refine blk_alloc ?_ _)); refine blk_put (cs := #[.int .i64 0, .int .i64 0, .int .i64 0, .int .i64 0, .int .i64 0]) ?_ 2 _ rfl; (with_reducible repeat (first | refine blk_drewN ?_ _ | refine blk_drew ?_ | refine blk_alloc ?_ _)); refine blk_put (cs := #[.int .i64 0, .int .i64 0, .int .i64 0, .int .i64 0, .int .i64 0]) ?_ 1 _ rfl; (with_reducible repeat (first | refine blk_drewN ?_ _ | refine blk_drew ?_ | refine blk_alloc ?_ _)); refine blk_put (cs := #[.int .i64 0, .int .i64 0, .int .i64 0, .int .i64 0, .int .i64 0]) ?_ 0 _ rfl; (with_reducible repeat (first | refine blk_drewN ?_ _ | refine blk_drew ?_ | refine blk_alloc ?_ _)); exact BK.out) Try.underlying23 rfl (by kernel_rfl)) rfl ?_
  exact ⟨rfl, by repeat (first | (with_reducible first | exact HB2.out | apply below_alloc | apply pw_below_drewN | apply below_drew1 | refine below_set ?_ GR.out) | exact HB2.out)⟩
set_option maxHeartbeats 8000000 in
set_option maxRecDepth 100000 in
theorem first_bad3 (ty d : ByteArray) (w : World) (t : ty.toList = [73, 72, 68, 82]) (u : (d.size : Int) = 13 ∧ bt d 10 = 0 ∧ ¬ bt d 11 = 0) :
    Calls Try.prog 29 #[.agg #[.string ty, .string d]] w fun e w' => e = .returned (.tuple #[.agg #[.int .i64 0, .int .i64 0, .int .i64 0, .int .i64 0, .int .i64 0], .int .i64 24]) ∧ Below w.heap.size w w' := by
  have e0 : (ty.toList == [73, 72, 68, 82]) = true := beq_iff_eq.mpr t
  have e1 : (ty.toList != [73, 72, 68, 82]) = false := bne_eq_false_iff_eq.mpr t
  clear t
  obtain ⟨u, x, y⟩ := u
  have v0 : ((d.size : Int) == 13) = true := beq_iff_eq.mpr u
  have v1 : ((d.size : Int) != 13) = false := bne_eq_false_iff_eq.mpr u
  have qa10 : (10 < d.size) = True := eq_true (by omega)
  have qb10 : (10 < (d.size : Int)) = True := eq_true (by omega)
  have qc10 : decide (10 < (d.size : Int)) = true := decide_eq_true (by omega)
  have qd10 : decide (10 < d.size) = true := decide_eq_true (by omega)
  have hx10 : ∀ h : 10 < d.size, ((d[10]'h).toNat : Int) = bt d 10 := bt_at d 10
  have qa11 : (11 < d.size) = True := eq_true (by omega)
  have qb11 : (11 < (d.size : Int)) = True := eq_true (by omega)
  have qc11 : decide (11 < (d.size : Int)) = true := decide_eq_true (by omega)
  have qd11 : decide (11 < d.size) = true := decide_eq_true (by omega)
  have hx11 : ∀ h : 11 < d.size, ((d[11]'h).toNat : Int) = bt d 11 := bt_at d 11
  have x0 : (bt d 10 == 0) = true := beq_iff_eq.mpr x
  have x1 : (bt d 10 != 0) = false := bne_eq_false_iff_eq.mpr x
  have y0 : (bt d 11 == 0) = false := beq_eq_false_iff_ne.mpr y
  have y1 : (bt d 11 != 0) = true := bne_iff_ne.mpr y
  clear u x y
  go_enter Try.func29, Try.ntmps29
  go_wp2_with (first | ((with_reducible refine gate_dst (N := 1) rfl ?_); refine box_event ?hg (N := 1) ?hd (cs := #[.string ty, .string d]) (t := 30) ?hr ?_; (case hd => rfl); (case hg => rfl); (case hr => first | (go_simp; done) | (go_simp; rfl)); intro gh hg w1 hbox hb; have HB1 := Aside0.mk hb; have BX1 := Aside0.mk hbox; clear hb hbox hg) | ((with_reducible refine gate_dst (N := 2) rfl ?_); refine box_event ?hg (N := 2) ?hd (cs := #[.int .i64 0, .int .i64 0, .int .i64 0, .int .i64 0, .int .i64 0]) (t := 23) ?hr ?_; (case hd => rfl); (case hg => rfl); (case hr => first | (go_simp; done) | (go_simp; rfl)); intro gr hg w2 hbox hb; have HB2 := Aside0.mk (below_step HB1.out hb); have BX2 := Aside0.mk (blk_below BX1.out hb); have GR := Aside0.mk (show w.heap.size ≤ gr from by rw [hg]; exact below_size HB1.out); have b0 : w2.cell? ⟨gh, 0, none⟩ = some (.string ty) := (blk_cell BX2.out 0).trans rfl; have b1 : w2.cell? ⟨gh, 1, none⟩ = some (.string d) := (blk_cell BX2.out 1).trans rfl; have z0 : w2.cell? ⟨gr, 0, none⟩ = some (.int .i64 0) := (blk_cell hbox 0).trans rfl; have f0 := blk_frozen hbox 0; have z1 : w2.cell? ⟨gr, 1, none⟩ = some (.int .i64 0) := (blk_cell hbox 1).trans rfl; have f1 := blk_frozen hbox 1; have z2 : w2.cell? ⟨gr, 2, none⟩ = some (.int .i64 0) := (blk_cell hbox 2).trans rfl; have f2 := blk_frozen hbox 2; have z3 : w2.cell? ⟨gr, 3, none⟩ = some (.int .i64 0) := (blk_cell hbox 3).trans rfl; have f3 := blk_frozen hbox 3; have z4 : w2.cell? ⟨gr, 4, none⟩ = some (.int .i64 0) := (blk_cell hbox 4).trans rfl; have f4 := blk_frozen hbox 4; have BK := Aside0.mk hbox; clear hb hbox hg HB1 BX1))
  refine bodyPost_ret (results_ct rfl _ _ gr 23 #[.int .i64 0, .int .i64 0, .int .i64 0, .int .i64 0, .int .i64 0] (0, 0) _ rfl (by (with_reducible repeat (first | refine blk_drewN ?_ _ | refine blk_drew ?_ | refine blk_alloc ?_ _)); refine blk_put (cs := #[.int .i64 0, .int .i64 0, .int .i64 0, .int .i64 0, .int .i64 0]) ?_ 4 _ rfl; (with_reducible repeat (first | refine blk_drewN ?_ _ | refine blk_drew ?_ | refine blk_alloc ?_ _)); refine blk_put (cs := #[.int .i64 0, .int .i64 0, .int .i64 0, .int .i64 0, .int .i64 0]) ?_ 3 _ rfl; (with_reducible repeat (first | refine blk_drewN ?_ _ | refine blk_drew ?_ | refine blk_alloc ?_ _)); refine blk_put (cs := #[.int .i64 0, .int .i64 0, .int .i64 0, .int .i64 0, .int .i64 0]) ?_ 2 _ rfl; (with_reducible repeat (first | refine blk_drewN ?_ _ | refine blk_drew ?_ | refine blk_alloc ?_ _)); refine blk_put (cs := #[.int .i64 0, .int .i64 0, .int .i64 0, .int .i64 0, .int .i64 0]) ?_ 1 _ rfl; (with_reducible repeat (first | refine blk_drewN ?_ _ | refine blk_drew ?_ | refine blk_alloc ?_ _)); refine blk_put (cs := #[.int .i64 0, .int .i64 0, .int .i64 0, .int .i64 0, .int .i64 0]) ?_ 0 _ rfl; (with_reducible repeat (first | refine blk_drewN ?_ _ | refine blk_drew ?_ | refine blk_alloc ?_ _)); exact BK.out) Try.underlying23 rfl (by kernel_rfl)) rfl ?_
  exact ⟨rfl, by repeat (first | (with_reducible first | exact HB2.out | apply below_alloc | apply pw_below_drewN | apply below_drew1 | refine below_set ?_ GR.out) | exact HB2.out)⟩
/-! ### first: the drawn regions -/
theorem goesV_ {P : Program} {ops : Array Oper} {Q : Exit → Act → World → Prop} {oi : Oper} {N : Option Tmp} {a : Act} {w : World} {K : Act → World → Prop} {f : FuncId} {fn : Func} {x : Operand} {as0 : Array Operand} {ts : Array TypeId} (hf : P.funcs[f]? = some fn) (hname : (fn.name == "runtime.NumGoroutine") = false) (hb : fn.body.isSome = true) (args : Array Value)
    (hw : Region.wanted oi (yielded ops a.tmps) = true) (hN : oi.dst = N) (hop : oi.op = .call { callee := .value x, args := as0, argTypes := ts }) (hx : a.eval x = .func (.func f) #[] #[]) (hargs : as0.map a.eval = args)
    (h : Calls P f args w fun e w' => ∃ v, e = .returned v ∧ K (a.put N v) w') : if Region.wanted oi (yielded ops a.tmps) = true then Oper.wp P oi a w K Q else K (a.put N undef) w := by
  refine call_ f args hw hN ?_ h
  have he := enters_ hf hname hb args w
  unfold execOp
  simp [hop, resolve, hx, Deferred.ofValue, invoke, hargs, he]
def head_first.T7 : Bool × List (List Nat × List Nat) := (true, [([], []), ([], []), ([0, 1], [0, 1]), ([], []), ([], []), ([4], [4]), ([3, 5, 2], [3, 5]), ([], []), ([7], [7]), ([8], [8]), ([], []), ([10], [10]), ([11], [11]), ([], []), ([13], [13]), ([14], [14]), ([2, 6, 9, 12, 15], [2, 6, 9, 12, 15]), ([], []), ([17, 16, 6, 0, 1, 2, 3, 4, 5, 6, 7, 8, 9, 10, 11, 12, 13, 14, 15, 16, 17], [16, 17])])
def head_first.B7 : List Nat := [0, 0, 3, 0, 0, 16, 63, 0, 128, 384, 0, 1024, 3072, 0, 8192, 24576, 65535, 0, 262143]
theorem head_first.tab7 : rtab .any (opsOf Try.f29 7) = head_first.T7 := by kernel_rfl
theorem head_first.bits7 : waitsOk head_first.T7.2 head_first.B7 = true := by kernel_rfl
def head_first.T8 : Bool × List (List Nat × List Nat) := (true, [([], []), ([], []), ([1], [1]), ([0, 2, 0], [0]), ([2, 3, 0, 1, 2, 3], [2])])
def head_first.B8 : List Nat := [0, 0, 2, 7, 15]
theorem head_first.tab8 : rtab .any (opsOf Try.f29 8) = head_first.T8 := by kernel_rfl
theorem head_first.bits8 : waitsOk head_first.T8.2 head_first.B8 = true := by kernel_rfl
set_option maxHeartbeats 8000000 in
set_option maxRecDepth 100000 in
theorem first_ok (k : Nat) (ty d : ByteArray) (e : Int) (w : World) (t : ty.toList = [73, 72, 68, 82]) (u : (d.size : Int) = 13 ∧ bt d 10 = 0 ∧ bt d 11 = 0) (hR : head_Right.f k (numV d) (numV (d.extract 4 d.size)) (wrap64 (bt d 8)) (wrap64 (bt d 9)) (wrap64 (bt d 12)) = some e) :
    Calls Try.prog 29 #[.agg #[.string ty, .string d]] w fun e' w' => e' = .returned (.tuple #[.agg #[.int .i64 (numV d), .int .i64 (numV (d.extract 4 d.size)), .int .i64 (wrap64 (bt d 8)), .int .i64 (wrap64 (bt d 9)), .int .i64 (wrap64 (bt d 12))], .int .i64 e]) ∧ Below w.heap.size w w' := by
  have HRt := Aside0.mk hR
  have e0 : (ty.toList == [73, 72, 68, 82]) = true := beq_iff_eq.mpr t
  have e1 : (ty.toList != [73, 72, 68, 82]) = false := bne_eq_false_iff_eq.mpr t
  clear t hR
  obtain ⟨u, x, y⟩ := u
  have v0 : ((d.size : Int) == 13) = true := beq_iff_eq.mpr u
  have v1 : ((d.size : Int) != 13) = false := bne_eq_false_iff_eq.mpr u
  have NA := Aside0.mk (num_is d (by omega))
  have NB := Aside0.mk (num_is (d.extract 4 d.size) (by rw [ByteArray.size_extract]; omega))
  have s4a : (4 ≤ (d.size : Int)) = True := eq_true (by omega)
  have s4b : decide (4 ≤ (d.size : Int)) = true := decide_eq_true (by omega)
  have qa8 : (8 < d.size) = True := eq_true (by omega)
  have qb8 : (8 < (d.size : Int)) = True := eq_true (by omega)
  have qc8 : decide (8 < (d.size : Int)) = true := decide_eq_true (by omega)
  have qd8 : decide (8 < d.size) = true := decide_eq_true (by omega)
  have hx8 : ∀ h : 8 < d.size, ((d[8]'h).toNat : Int) = bt d 8 := bt_at d 8
  have qa9 : (9 < d.size) = True := eq_true (by omega)
  have qb9 : (9 < (d.size : Int)) = True := eq_true (by omega)
  have qc9 : decide (9 < (d.size : Int)) = true := decide_eq_true (by omega)
  have qd9 : decide (9 < d.size) = true := decide_eq_true (by omega)
  have hx9 : ∀ h : 9 < d.size, ((d[9]'h).toNat : Int) = bt d 9 := bt_at d 9
  have qa10 : (10 < d.size) = True := eq_true (by omega)
  have qb10 : (10 < (d.size : Int)) = True := eq_true (by omega)
  have qc10 : decide (10 < (d.size : Int)) = true := decide_eq_true (by omega)
  have qd10 : decide (10 < d.size) = true := decide_eq_true (by omega)
  have hx10 : ∀ h : 10 < d.size, ((d[10]'h).toNat : Int) = bt d 10 := bt_at d 10
  have qa11 : (11 < d.size) = True := eq_true (by omega)
  have qb11 : (11 < (d.size : Int)) = True := eq_true (by omega)
  have qc11 : decide (11 < (d.size : Int)) = true := decide_eq_true (by omega)
  have qd11 : decide (11 < d.size) = true := decide_eq_true (by omega)
  have hx11 : ∀ h : 11 < d.size, ((d[11]'h).toNat : Int) = bt d 11 := bt_at d 11
  have qa12 : (12 < d.size) = True := eq_true (by omega)
  have qb12 : (12 < (d.size : Int)) = True := eq_true (by omega)
  have qc12 : decide (12 < (d.size : Int)) = true := decide_eq_true (by omega)
  have qd12 : decide (12 < d.size) = true := decide_eq_true (by omega)
  have hx12 : ∀ h : 12 < d.size, ((d[12]'h).toNat : Int) = bt d 12 := bt_at d 12
  have x0 : (bt d 10 == 0) = true := beq_iff_eq.mpr x
  have x1 : (bt d 10 != 0) = false := bne_eq_false_iff_eq.mpr x
  have y0 : (bt d 11 == 0) = true := beq_iff_eq.mpr y
  have y1 : (bt d 11 != 0) = false := bne_eq_false_iff_eq.mpr y
  clear u x y
  go_enter Try.func29, Try.ntmps29
  go_wp2_with (first | ((with_reducible refine gate_dst (N := 1) rfl ?_); refine box_event ?hg (N := 1) ?hd (cs := #[.string ty, .string d]) (t := 30) ?hr ?_; (case hd => rfl); (case hg => rfl); (case hr => first | (go_simp; done) | (go_simp; rfl)); intro gh hg w1 hbox hb; have HB1 := Aside0.mk hb; have BX1 := Aside0.mk hbox; clear hb hbox hg) | ((with_reducible refine gate_dst (N := 2) rfl ?_); refine box_event ?hg (N := 2) ?hd (cs := #[.int .i64 0, .int .i64 0, .int .i64 0, .int .i64 0, .int .i64 0]) (t := 23) ?hr ?_; (case hd => rfl); (case hg => rfl); (case hr => first | (go_simp; done) | (go_simp; rfl)); intro gr hg w2 hbox hb; have HB2 := Aside0.mk (below_step HB1.out hb); have BX2 := Aside0.mk (blk_below BX1.out hb); have GR := Aside0.mk (show w.heap.size ≤ gr from by rw [hg]; exact below_size HB1.out); have b0 : w2.cell? ⟨gh, 0, none⟩ = some (.string ty) := (blk_cell BX2.out 0).trans rfl; have b1 : w2.cell? ⟨gh, 1, none⟩ = some (.string d) := (blk_cell BX2.out 1).trans rfl; have z0 : w2.cell? ⟨gr, 0, none⟩ = some (.int .i64 0) := (blk_cell hbox 0).trans rfl; have f0 := blk_frozen hbox 0; have z1 : w2.cell? ⟨gr, 1, none⟩ = some (.int .i64 0) := (blk_cell hbox 1).trans rfl; have f1 := blk_frozen hbox 1; have z2 : w2.cell? ⟨gr, 2, none⟩ = some (.int .i64 0) := (blk_cell hbox 2).trans rfl; have f2 := blk_frozen hbox 2; have z3 : w2.cell? ⟨gr, 3, none⟩ = some (.int .i64 0) := (blk_cell hbox 3).trans rfl; have f3 := blk_frozen hbox 3; have z4 : w2.cell? ⟨gr, 4, none⟩ = some (.int .i64 0) := (blk_cell hbox 4).trans rfl; have f4 := blk_frozen hbox 4; have BK := Aside0.mk hbox; clear hb hbox hg HB1 BX1))
  refine start_ (n := 19) (S := fun _ => True) (ds := []) #[false, false, false, false, false, false, false, false, false, false, false, false, false, false, false, false, false, false, false] (by kernel_rfl) rfl rfl trivial (fun hHeld => ?_)
  refine with_tabW head_first.tab7 head_first.bits7 (fun HT_ HW_ => ?_)
  have HBc := Aside0.mk (below_drew1 HB2.out)
  have BKd := Aside0.mk (blk_drew BK.out)
  clear HB2 BK BX2 b0 b1 z0 z1 z2 z3 z4 f0 f1 f2 f3 f4
  have BK := BKd
  clear BKd
  generalize World.drew _ = w3 at HBc BK hHeld ⊢
  refine pure_ (i := 0) (N := some 29) (v := ?_) (a' := ?_) #[true, false, false, false, false, false, false, false, false, false, false, false, false, false, false, false, false, false, false] rfl rfl (any_of HT_.out (by kernel_rfl)) (fun _ _ _ h => h) (Or.inl ⟨by rfl, ?_⟩) ?_ ?_
  rotate_left
  · intro w'
    go_simp
    with_reducible rfl
  rotate_left
  · simp only [Act.put, List.setIfInBounds_toArray, List.set_cons_zero, List.set_cons_succ, i64_w, i32_w]
    rfl
  refine pure_ (i := 1) (N := some 30) (v := ?_) (a' := ?_) #[true, true, false, false, false, false, false, false, false, false, false, false, false, false, false, false, false, false, false] rfl rfl (any_of HT_.out (by kernel_rfl)) (fun _ _ _ h => h) (Or.inl ⟨by rfl, ?_⟩) ?_ ?_
  rotate_left
  · intro w'
    go_simp
    with_reducible rfl
  rotate_left
  · simp only [Act.put, List.setIfInBounds_toArray, List.set_cons_zero, List.set_cons_succ, i64_w, i32_w]
    rfl
  refine pure_ (i := 3) (N := some 32) (v := ?_) (a' := ?_) #[true, true, false, true, false, false, false, false, false, false, false, false, false, false, false, false, false, false, false] rfl rfl (any_of HT_.out (by kernel_rfl)) (fun _ _ _ h => h) (Or.inl ⟨by rfl, ?_⟩) ?_ ?_
  rotate_left
  · intro w'
    go_simp
    with_reducible rfl
  rotate_left
  · simp only [Act.put, List.setIfInBounds_toArray, List.set_cons_zero, List.set_cons_succ, i64_w, i32_w]
    rfl
  refine pure_ (i := 4) (N := some 33) (v := ?_) (a' := ?_) #[true, true, false, true, true, false, false, false, false, false, false, false, false, false, false, false, false, false, false] rfl rfl (any_of HT_.out (by kernel_rfl)) (fun _ _ _ h => h) (Or.inl ⟨by rfl, ?_⟩) ?_ ?_
  rotate_left
  · intro w'
    go_simp
    with_reducible rfl
  rotate_left
  · simp only [Act.put, List.setIfInBounds_toArray, List.set_cons_zero, List.set_cons_succ, i64_w, i32_w]
    rfl
  refine pure_ (i := 5) (N := some 34) (v := ?_) (a' := ?_) #[true, true, false, true, true, true, false, false, false, false, false, false, false, false, false, false, false, false, false] rfl rfl (any_of HT_.out (by kernel_rfl)) (fun _ _ _ h => h) (Or.inl ⟨by rfl, ?_⟩) ?_ ?_
  rotate_left
  · intro w'
    go_simp
    with_reducible rfl
  rotate_left
  · simp only [Act.put, List.setIfInBounds_toArray, List.set_cons_zero, List.set_cons_succ, i64_w, i32_w]
    rfl
  refine pure_ (i := 7) (N := some 36) (v := ?_) (a' := ?_) #[true, true, false, true, true, true, false, true, false, false, false, false, false, false, false, false, false, false, false] rfl rfl (any_of HT_.out (by kernel_rfl)) (fun _ _ _ h => h) (Or.inl ⟨by rfl, ?_⟩) ?_ ?_
  rotate_left
  · intro w'
    go_simp
    with_reducible rfl
  rotate_left
  · simp only [Act.put, List.setIfInBounds_toArray, List.set_cons_zero, List.set_cons_succ, i64_w, i32_w]
    rfl
  refine pure_ (i := 8) (N := some 37) (v := ?_) (a' := ?_) #[true, true, false, true, true, true, false, true, true, false, false, false, false, false, false, false, false, false, false] rfl rfl (any_of HT_.out (by kernel_rfl)) (fun _ _ _ h => h) (Or.inl ⟨by rfl, ?_⟩) ?_ ?_
  rotate_left
  · intro w'
    go_simp
    with_reducible rfl
  rotate_left
  · simp only [Act.put, List.setIfInBounds_toArray, List.set_cons_zero, List.set_cons_succ, i64_w, i32_w]
    rfl
  refine pure_ (i := 9) (N := some 38) (v := ?_) (a' := ?_) #[true, true, false, true, true, true, false, true, true, true, false, false, false, false, false, false, false, false, false] rfl rfl (any_of HT_.out (by kernel_rfl)) (fun _ _ _ h => h) (Or.inl ⟨by rfl, ?_⟩) ?_ ?_
  rotate_left
  · intro w'
    go_simp
    with_reducible rfl
  rotate_left
  · simp only [Act.put, List.setIfInBounds_toArray, List.set_cons_zero, List.set_cons_succ, i64_w, i32_w]
    rfl
  refine pure_ (i := 10) (N := some 39) (v := ?_) (a' := ?_) #[true, true, false, true, true, true, false, true, true, true, true, false, false, false, false, false, false, false, false] rfl rfl (any_of HT_.out (by kernel_rfl)) (fun _ _ _ h => h) (Or.inl ⟨by rfl, ?_⟩) ?_ ?_
  rotate_left
  · intro w'
    go_simp
    with_reducible rfl
  rotate_left
  · simp only [Act.put, List.setIfInBounds_toArray, List.set_cons_zero, List.set_cons_succ, i64_w, i32_w]
    rfl
  refine pure_ (i := 11) (N := some 40) (v := ?_) (a' := ?_) #[true, true, false, true, true, true, false, true, true, true, true, true, false, false, false, false, false, false, false] rfl rfl (any_of HT_.out (by kernel_rfl)) (fun _ _ _ h => h) (Or.inl ⟨by rfl, ?_⟩) ?_ ?_
  rotate_left
  · intro w'
    go_simp
    with_reducible rfl
  rotate_left
  · simp only [Act.put, List.setIfInBounds_toArray, List.set_cons_zero, List.set_cons_succ, i64_w, i32_w]
    rfl
  refine pure_ (i := 12) (N := some 41) (v := ?_) (a' := ?_) #[true, true, false, true, true, true, false, true, true, true, true, true, true, false, false, false, false, false, false] rfl rfl (any_of HT_.out (by kernel_rfl)) (fun _ _ _ h => h) (Or.inl ⟨by rfl, ?_⟩) ?_ ?_
  rotate_left
  · intro w'
    go_simp
    with_reducible rfl
  rotate_left
  · simp only [Act.put, List.setIfInBounds_toArray, List.set_cons_zero, List.set_cons_succ, i64_w, i32_w]
    rfl
  refine pure_ (i := 13) (N := some 42) (v := ?_) (a' := ?_) #[true, true, false, true, true, true, false, true, true, true, true, true, true, true, false, false, false, false, false] rfl rfl (any_of HT_.out (by kernel_rfl)) (fun _ _ _ h => h) (Or.inl ⟨by rfl, ?_⟩) ?_ ?_
  rotate_left
  · intro w'
    go_simp
    with_reducible rfl
  rotate_left
  · simp only [Act.put, List.setIfInBounds_toArray, List.set_cons_zero, List.set_cons_succ, i64_w, i32_w]
    rfl
  refine pure_ (i := 14) (N := some 43) (v := ?_) (a' := ?_) #[true, true, false, true, true, true, false, true, true, true, true, true, true, true, true, false, false, false, false] rfl rfl (any_of HT_.out (by kernel_rfl)) (fun _ _ _ h => h) (Or.inl ⟨by rfl, ?_⟩) ?_ ?_
  rotate_left
  · intro w'
    go_simp
    with_reducible rfl
  rotate_left
  · simp only [Act.put, List.setIfInBounds_toArray, List.set_cons_zero, List.set_cons_succ, i64_w, i32_w]
    rfl
  refine pure_ (i := 15) (N := some 44) (v := ?_) (a' := ?_) #[true, true, false, true, true, true, false, true, true, true, true, true, true, true, true, true, false, false, false] rfl rfl (any_of HT_.out (by kernel_rfl)) (fun _ _ _ h => h) (Or.inl ⟨by rfl, ?_⟩) ?_ ?_
  rotate_left
  · intro w'
    go_simp
    with_reducible rfl
  rotate_left
  · simp only [Act.put, List.setIfInBounds_toArray, List.set_cons_zero, List.set_cons_succ, i64_w, i32_w]
    rfl
  refine two_ (i := 2) (j := 17) (Ni := some 31) (Nj := some 6) #[true, true, true, true, true, true, false, true, true, true, true, true, true, true, true, true, false, false, false] #[true, true, false, true, true, true, false, true, true, true, true, true, true, true, true, true, false, true, false] rfl rfl rfl rfl (two_of HT_.out (by kernel_rfl)) (by decide) (by decide) (fun K hK => ?_) (fun K hK => ?_)
  · as_aux_lemma =>
      refine goesV_ Try.func35 (by kernel_rfl) rfl #[.string d] (by rfl) rfl rfl (by rfl) (by (try simp only [List.map_toArray, List.map_cons, List.map_nil]); first | done | rfl) ?_
      with_reducible refine (head_num.calls d _ _ NA.out).mono ?_
      rintro e wn ⟨rfl, hdr⟩
      have hb := hdr.below
      refine ⟨_, rfl, ?_⟩
      have n0_ := Aside0.mk (below_step HBc.out hb)
      have n1_ := Aside0.mk (blk_below BK.out hb)
      clear HBc BK hdr hb
      have HBc := n0_
      have BK := n1_
      clear n0_ n1_
      refine hK.out _ _ trivial (fun hHeld => ?_)
      clear hK K
      refine norm_ (a' := ?_) ?_ ?_
      rotate_left
      · show Act.put _ (some 31) _ = _
        simp only [Act.put, List.setIfInBounds_toArray, List.set_cons_zero, List.set_cons_succ, i64_w, i32_w]
        rfl
      refine two_ (i := 6) (j := 17) (Ni := some 35) (Nj := some 6) #[true, true, true, true, true, true, true, true, true, true, true, true, true, true, true, true, false, false, false] #[true, true, true, true, true, true, false, true, true, true, true, true, true, true, true, true, false, true, false] rfl rfl rfl rfl (two_of HT_.out (by kernel_rfl)) (by decide) (by decide) (fun K hK => ?_) (fun K hK => ?_)
      · as_aux_lemma =>
          refine goesV_ Try.func35 (by kernel_rfl) rfl #[.string (d.extract 4 d.size)] (by rfl) rfl rfl (by rfl) (by (try simp only [List.map_toArray, List.map_cons, List.map_nil]); first | done | rfl) ?_
          with_reducible refine (head_num.calls (d.extract 4 d.size) _ _ NB.out).mono ?_
          rintro e wn ⟨rfl, hdr⟩
          have hb := hdr.below
          refine ⟨_, rfl, ?_⟩
          have n0_ := Aside0.mk (below_step HBc.out hb)
          have n1_ := Aside0.mk (blk_below BK.out hb)
          clear HBc BK hdr hb
          have HBc := n0_
          have BK := n1_
          clear n0_ n1_
          refine hK.out _ _ trivial (fun hHeld => ?_)
          clear hK K
          refine norm_ (a' := ?_) ?_ ?_
          rotate_left
          · show Act.put _ (some 35) _ = _
            simp only [Act.put, List.setIfInBounds_toArray, List.set_cons_zero, List.set_cons_succ, i64_w, i32_w]
            rfl
          refine pure_ (i := 16) (N := some 45) (v := ?_) (a' := ?_) #[true, true, true, true, true, true, true, true, true, true, true, true, true, true, true, true, true, false, false] rfl rfl (any_of HT_.out (by kernel_rfl)) (fun _ _ _ h => h) (Or.inl ⟨by rfl, ?_⟩) ?_ ?_
          rotate_left
          · intro w'
            go_simp
            with_reducible rfl
          rotate_left
          · simp only [Act.put, List.setIfInBounds_toArray, List.set_cons_zero, List.set_cons_succ, i64_w, i32_w]
            rfl
          refine one_ (i := 17) (N := some 6) #[true, true, true, true, true, true, true, true, true, true, true, true, true, true, true, true, true, true, false] rfl rfl (one_of HT_.out (by kernel_rfl)) (by decide) (fun K hK => ?_)
          refine box_step (by rfl) (N := 6) rfl (cs := #[.int .i64 0, .int .i64 0, .int .i64 0, .int .i64 0, .int .i64 0]) (t := 23) (by first | (go_simp; done) | (go_simp; rfl)) ?_
          intro g6 hg wn hbox hb
          have G6 := Aside0.mk (show _ ≤ g6 from by rw [hg]; exact below_size HBc.out)
          have n0_ := Aside0.mk (below_step HBc.out hb)
          have n1_ := Aside0.mk (blk_below BK.out hb)
          have B6 := Aside0.mk hbox
          have NE6 := Aside0.mk (show gr ≠ g6 from fun e_ => by have := (Array.getElem?_eq_some_iff.1 BK.out).1; omega)
          clear HBc BK hg hb hbox
          have HBc := n0_
          have BK := n1_
          clear n0_ n1_
          refine hK.out _ _ trivial (fun hHeld => ?_)
          clear hK K
          refine norm_ (a' := ?_) ?_ ?_
          rotate_left
          · show Act.put _ (some 6) _ = _
            simp only [Act.put, List.setIfInBounds_toArray, List.set_cons_zero, List.set_cons_succ, i64_w, i32_w]
            rfl
          refine one_ (i := 18) (N := none) #[true, true, true, true, true, true, true, true, true, true, true, true, true, true, true, true, true, true, true] rfl rfl (one_of HT_.out (by kernel_rfl)) (by decide) (fun K hK => ?_)
          have y0 := (blk_cell B6.out 0).trans rfl; have k0 := blk_frozen B6.out 0
          have y1 := (blk_cell B6.out 1).trans rfl; have k1 := blk_frozen B6.out 1
          have y2 := (blk_cell B6.out 2).trans rfl; have k2 := blk_frozen B6.out 2
          have y3 := (blk_cell B6.out 3).trans rfl; have k3 := blk_frozen B6.out 3
          have y4 := (blk_cell B6.out 4).trans rfl; have k4 := blk_frozen B6.out 4
          refine skip_ (w1 := ?_) (by rfl) rfl ?_ ?_
          rotate_left
          · go_simp
            rfl
          refine hK.out _ _ trivial (fun hHeld => ?_)
          clear hK K
          have n0_ := Aside0.mk (show Below w.heap.size w (World.setCell (World.setCell (World.setCell (World.setCell (World.setCell wn ⟨g6, 0, none⟩ (.int .i64 (numV d))) ⟨g6, 1, none⟩ (.int .i64 (numV (d.extract 4 d.size)))) ⟨g6, 2, none⟩ (.int .i64 (wrap64 (bt d 8)))) ⟨g6, 3, none⟩ (.int .i64 (wrap64 (bt d 9)))) ⟨g6, 4, none⟩ (.int .i64 (wrap64 (bt d 12)))) from by repeat (first | exact HBc.out | refine below_set ?_ G6.out))
          have n1_ := Aside0.mk (show ((World.setCell (World.setCell (World.setCell (World.setCell (World.setCell wn ⟨g6, 0, none⟩ (.int .i64 (numV d))) ⟨g6, 1, none⟩ (.int .i64 (numV (d.extract 4 d.size)))) ⟨g6, 2, none⟩ (.int .i64 (wrap64 (bt d 8)))) ⟨g6, 3, none⟩ (.int .i64 (wrap64 (bt d 9)))) ⟨g6, 4, none⟩ (.int .i64 (wrap64 (bt d 12))))).heap[gr]? = _ from (setc_ne (i := 4) (x := (.int .i64 (wrap64 (bt d 12)))) (setc_ne (i := 3) (x := (.int .i64 (wrap64 (bt d 9)))) (setc_ne (i := 2) (x := (.int .i64 (wrap64 (bt d 8)))) (setc_ne (i := 1) (x := (.int .i64 (numV (d.extract 4 d.size)))) (setc_ne (i := 0) (x := (.int .i64 (numV d))) BK.out NE6.out) NE6.out) NE6.out) NE6.out) NE6.out))
          have n2_ : Aside0 (((World.setCell (World.setCell (World.setCell (World.setCell (World.setCell wn ⟨g6, 0, none⟩ (.int .i64 (numV d))) ⟨g6, 1, none⟩ (.int .i64 (numV (d.extract 4 d.size)))) ⟨g6, 2, none⟩ (.int .i64 (wrap64 (bt d 8)))) ⟨g6, 3, none⟩ (.int .i64 (wrap64 (bt d 9)))) ⟨g6, 4, none⟩ (.int .i64 (wrap64 (bt d 12))))).heap[g6]? = some (.cells #[.int .i64 (numV d), .int .i64 (numV (d.extract 4 d.size)), .int .i64 (wrap64 (bt d 8)), .int .i64 (wrap64 (bt d 9)), .int .i64 (wrap64 (bt d 12))] 23 (0, 0))) := ⟨by refine blk_put (cs := #[.int .i64 (numV d), .int .i64 (numV (d.extract 4 d.size)), .int .i64 (wrap64 (bt d 8)), .int .i64 (wrap64 (bt d 9)), .int .i64 0]) ?_ 4 _ rfl; refine blk_put (cs := #[.int .i64 (numV d), .int .i64 (numV (d.extract 4 d.size)), .int .i64 (wrap64 (bt d 8)), .int .i64 0, .int .i64 0]) ?_ 3 _ rfl; refine blk_put (cs := #[.int .i64 (numV d), .int .i64 (numV (d.extract 4 d.size)), .int .i64 0, .int .i64 0, .int .i64 0]) ?_ 2 _ rfl; refine blk_put (cs := #[.int .i64 (numV d), .int .i64 0, .int .i64 0, .int .i64 0, .int .i64 0]) ?_ 1 _ rfl; refine blk_put (cs := #[.int .i64 0, .int .i64 0, .int .i64 0, .int .i64 0, .int .i64 0]) ?_ 0 _ rfl; exact B6.out⟩
          clear HBc BK B6 y0 y1 y2 y3 y4 k0 k1 k2 k3 k4
          generalize (World.setCell (World.setCell (World.setCell (World.setCell (World.setCell wn ⟨g6, 0, none⟩ (.int .i64 (numV d))) ⟨g6, 1, none⟩ (.int .i64 (numV (d.extract 4 d.size)))) ⟨g6, 2, none⟩ (.int .i64 (wrap64 (bt d 8)))) ⟨g6, 3, none⟩ (.int .i64 (wrap64 (bt d 9)))) ⟨g6, 4, none⟩ (.int .i64 (wrap64 (bt d 12)))) = w9 at n0_ n1_ n2_ ⊢
          clear hHeld
          as_aux_lemma =>
            refine done_ (done_of HT_.out (by kernel_rfl)) ?_
            clear HT_ HW_
            try go_wp2
            as_aux_lemma =>
              refine start_ (n := 5) (S := fun w' => w'.cell? ⟨g6, 0, none⟩ = some (.int .i64 (numV d)) ∧ w'.cell? ⟨g6, 1, none⟩ = some (.int .i64 (numV (d.extract 4 d.size))) ∧ w'.cell? ⟨g6, 2, none⟩ = some (.int .i64 (wrap64 (bt d 8))) ∧ w'.cell? ⟨g6, 3, none⟩ = some (.int .i64 (wrap64 (bt d 9))) ∧ w'.cell? ⟨g6, 4, none⟩ = some (.int .i64 (wrap64 (bt d 12)))) (ds := []) #[false, false, false, false, false] (by kernel_rfl) rfl rfl ⟨(blk_cell n2_.out 0).trans rfl, (blk_cell n2_.out 1).trans rfl, (blk_cell n2_.out 2).trans rfl, (blk_cell n2_.out 3).trans rfl, (blk_cell n2_.out 4).trans rfl⟩ (fun hHeld => ?_)
              refine with_tabW head_first.tab8 head_first.bits8 (fun HT_ HW_ => ?_)
              have HBc := Aside0.mk (below_drew1 n0_.out)
              have BK := Aside0.mk (blk_drew n1_.out)
              have B6 := Aside0.mk (blk_drew n2_.out)
              clear n0_ n1_ n2_
              generalize World.drew _ = wa at HBc BK B6 hHeld ⊢
              refine take_ (i := 0) (N := some 46) (v := ?_) (a' := ?_) #[true, false, false, false, false] rfl rfl (take_ofW HT_.out HW_.out (by kernel_rfl)) (fun _ _ _ h => h) (Or.inl ⟨by rfl, ?_⟩) hHeld ?_ ?_
              rotate_left
              · rintro w' ⟨s0, s1, s2, s3, s4⟩
                go_simp
                with_reducible rfl
              rotate_left
              · simp only [Act.put, List.setIfInBounds_toArray, List.set_cons_zero, List.set_cons_succ, i64_w, i32_w]
                rfl
              refine take_ (i := 1) (N := some 47) (v := ?_) (a' := ?_) #[true, true, false, false, false] rfl rfl (take_ofW HT_.out HW_.out (by kernel_rfl)) (fun _ _ _ h => h) (Or.inl ⟨by rfl, ?_⟩) hHeld ?_ ?_
              rotate_left
              · rintro w' ⟨s0, s1, s2, s3, s4⟩
                go_simp
                with_reducible rfl
              rotate_left
              · simp only [Act.put, List.setIfInBounds_toArray, List.set_cons_zero, List.set_cons_succ, i64_w, i32_w]
                rfl
              refine one_ (i := 2) (N := some 48) #[true, true, true, false, false] rfl rfl (one_of HT_.out (by kernel_rfl)) (by decide) (fun K hK => ?_)
              refine goes_ Try.func9 (by kernel_rfl) rfl #[.agg #[.int .i64 (numV d), .int .i64 (numV (d.extract 4 d.size)), .int .i64 (wrap64 (bt d 8)), .int .i64 (wrap64 (bt d 9)), .int .i64 (wrap64 (bt d 12))]] (by rfl) rfl rfl (by (try simp only [List.map_toArray, List.map_cons, List.map_nil]); first | done | rfl) ?_
              with_reducible refine (head_Right.calls k _ _ _ _ _ e _ HRt.out).mono ?_
              rintro e_ wn ⟨rfl, hb⟩
              refine ⟨_, rfl, ?_⟩
              have n0_ := Aside0.mk (below_step HBc.out hb)
              have n1_ := Aside0.mk (blk_below BK.out hb)
              have n2_ := Aside0.mk (blk_below B6.out hb)
              clear HBc BK B6 hb
              have HBc := n0_
              have BK := n1_
              have B6 := n2_
              clear n0_ n1_ n2_
              refine hK.out _ _ ⟨(blk_cell B6.out 0).trans rfl, (blk_cell B6.out 1).trans rfl, (blk_cell B6.out 2).trans rfl, (blk_cell B6.out 3).trans rfl, (blk_cell B6.out 4).trans rfl⟩ (fun hHeld => ?_)
              clear hK K
              refine norm_ (a' := ?_) ?_ ?_
              rotate_left
              · show Act.put _ (some 48) _ = _
                simp only [Act.put, List.setIfInBounds_toArray, List.set_cons_zero, List.set_cons_succ, i64_w, i32_w]
                rfl
              refine one_ (i := 3) (N := none) #[true, true, true, true, false] rfl rfl (one_of HT_.out (by kernel_rfl)) (by decide) (fun K hK => ?_)
              have y0 := (blk_cell BK.out 0).trans rfl; have k0 := blk_frozen BK.out 0
              have y1 := (blk_cell BK.out 1).trans rfl; have k1 := blk_frozen BK.out 1
              have y2 := (blk_cell BK.out 2).trans rfl; have k2 := blk_frozen BK.out 2
              have y3 := (blk_cell BK.out 3).trans rfl; have k3 := blk_frozen BK.out 3
              have y4 := (blk_cell BK.out 4).trans rfl; have k4 := blk_frozen BK.out 4
              refine skip_ (w1 := ?_) (by rfl) rfl ?_ ?_
              rotate_left
              · go_simp
                rfl
              have n0_ := Aside0.mk (show Below w.heap.size w (World.setCell (World.setCell (World.setCell (World.setCell (World.setCell wn ⟨gr, 0, none⟩ (.int .i64 (numV d))) ⟨gr, 1, none⟩ (.int .i64 (numV (d.extract 4 d.size)))) ⟨gr, 2, none⟩ (.int .i64 (wrap64 (bt d 8)))) ⟨gr, 3, none⟩ (.int .i64 (wrap64 (bt d 9)))) ⟨gr, 4, none⟩ (.int .i64 (wrap64 (bt d 12)))) from by repeat (first | exact HBc.out | refine below_set ?_ GR.out))
              have n1_ : Aside0 (((World.setCell (World.setCell (World.setCell (World.setCell (World.setCell wn ⟨gr, 0, none⟩ (.int .i64 (numV d))) ⟨gr, 1, none⟩ (.int .i64 (numV (d.extract 4 d.size)))) ⟨gr, 2, none⟩ (.int .i64 (wrap64 (bt d 8)))) ⟨gr, 3, none⟩ (.int .i64 (wrap64 (bt d 9)))) ⟨gr, 4, none⟩ (.int .i64 (wrap64 (bt d 12))))).heap[gr]? = some (.cells #[.int .i64 (numV d), .int .i64 (numV (d.extract 4 d.size)), .int .i64 (wrap64 (bt d 8)), .int .i64 (wrap64 (bt d 9)), .int .i64 (wrap64 (bt d 12))] 23 (0, 0))) := ⟨by refine blk_put (cs := #[.int .i64 (numV d), .int .i64 (numV (d.extract 4 d.size)), .int .i64 (wrap64 (bt d 8)), .int .i64 (wrap64 (bt d 9)), .int .i64 0]) ?_ 4 _ rfl; refine blk_put (cs := #[.int .i64 (numV d), .int .i64 (numV (d.extract 4 d.size)), .int .i64 (wrap64 (bt d 8)), .int .i64 0, .int .i64 0]) ?_ 3 _ rfl; refine blk_put (cs := #[.int .i64 (numV d), .int .i64 (numV (d.extract 4 d.size)), .int .i64 0, .int .i64 0, .int .i64 0]) ?_ 2 _ rfl; refine blk_put (cs := #[.int .i64 (numV d), .int .i64 0, .int .i64 0, .int .i64 0, .int .i64 0]) ?_ 1 _ rfl; refine blk_put (cs := #[.int .i64 0, .int .i64 0, .int .i64 0, .int .i64 0, .int .i64 0]) ?_ 0 _ rfl; exact BK.out⟩
              have n2_ := Aside0.mk (show ((World.setCell (World.setCell (World.setCell (World.setCell (World.setCell wn ⟨gr, 0, none⟩ (.int .i64 (numV d))) ⟨gr, 1, none⟩ (.int .i64 (numV (d.extract 4 d.size)))) ⟨gr, 2, none⟩ (.int .i64 (wrap64 (bt d 8)))) ⟨gr, 3, none⟩ (.int .i64 (wrap64 (bt d 9)))) ⟨gr, 4, none⟩ (.int .i64 (wrap64 (bt d 12))))).heap[g6]? = _ from (setc_ne (i := 4) (x := (.int .i64 (wrap64 (bt d 12)))) (setc_ne (i := 3) (x := (.int .i64 (wrap64 (bt d 9)))) (setc_ne (i := 2) (x := (.int .i64 (wrap64 (bt d 8)))) (setc_ne (i := 1) (x := (.int .i64 (numV (d.extract 4 d.size)))) (setc_ne (i := 0) (x := (.int .i64 (numV d))) B6.out NE6.out.symm) NE6.out.symm) NE6.out.symm) NE6.out.symm) NE6.out.symm))
              refine hK.out _ _ ⟨(blk_cell n2_.out 0).trans rfl, (blk_cell n2_.out 1).trans rfl, (blk_cell n2_.out 2).trans rfl, (blk_cell n2_.out 3).trans rfl, (blk_cell n2_.out 4).trans rfl⟩ (fun hHeld => ?_)
              clear hK K
              clear HBc BK B6 y0 y1 y2 y3 y4 k0 k1 k2 k3 k4
              generalize (World.setCell (World.setCell (World.setCell (World.setCell (World.setCell wn ⟨gr, 0, none⟩ (.int .i64 (numV d))) ⟨gr, 1, none⟩ (.int .i64 (numV (d.extract 4 d.size)))) ⟨gr, 2, none⟩ (.int .i64 (wrap64 (bt d 8)))) ⟨gr, 3, none⟩ (.int .i64 (wrap64 (bt d 9)))) ⟨gr, 4, none⟩ (.int .i64 (wrap64 (bt d 12)))) = wb at n0_ n1_ n2_ hHeld ⊢
              as_aux_lemma =>
                refine pure_ (i := 4) (N := some 3) (v := ?_) (a' := ?_) #[true, true, true, true, true] rfl rfl (any_of HT_.out (by kernel_rfl)) (fun _ _ _ h => h) (Or.inl ⟨by rfl, ?_⟩) ?_ ?_
                rotate_left
                · intro w'
                  go_simp
                  with_reducible rfl
                rotate_left
                · simp only [Act.put, List.setIfInBounds_toArray, List.set_cons_zero, List.set_cons_succ, i64_w, i32_w]
                  rfl
                refine done_ (done_of HT_.out (by kernel_rfl)) ?_
                try go_wp2
                refine bodyPost_ret (results_ct rfl _ _ gr 23 #[.int .i64 (numV d), .int .i64 (numV (d.extract 4 d.size)), .int .i64 (wrap64 (bt d 8)), .int .i64 (wrap64 (bt d 9)), .int .i64 (wrap64 (bt d 12))] (0, 0) _ rfl (by exact n1_.out) Try.underlying23 rfl (by kernel_rfl)) rfl ?_
                exact ⟨rfl, n0_.out⟩
      · as_aux_lemma =>
          refine box_step (by rfl) (N := 6) rfl (cs := #[.int .i64 0, .int .i64 0, .int .i64 0, .int .i64 0, .int .i64 0]) (t := 23) (by first | (go_simp; done) | (go_simp; rfl)) ?_
          intro g6 hg wn hbox hb
          have G6 := Aside0.mk (show _ ≤ g6 from by rw [hg]; exact below_size HBc.out)
          have n0_ := Aside0.mk (below_step HBc.out hb)
          have n1_ := Aside0.mk (blk_below BK.out hb)
          have B6 := Aside0.mk hbox
          have NE6 := Aside0.mk (show gr ≠ g6 from fun e_ => by have := (Array.getElem?_eq_some_iff.1 BK.out).1; omega)
          clear HBc BK hg hb hbox
          have HBc := n0_
          have BK := n1_
          clear n0_ n1_
          refine hK.out _ _ trivial (fun hHeld => ?_)
          clear hK K
          refine norm_ (a' := ?_) ?_ ?_
          rotate_left
          · show Act.put _ (some 6) _ = _
            simp only [Act.put, List.setIfInBounds_toArray, List.set_cons_zero, List.set_cons_succ, i64_w, i32_w]
            rfl
          refine one_ (i := 6) (N := some 35) #[true, true, true, true, true, true, true, true, true, true, true, true, true, true, true, true, false, true, false] rfl rfl (one_of HT_.out (by kernel_rfl)) (by decide) (fun K hK => ?_)
          refine goesV_ Try.func35 (by kernel_rfl) rfl #[.string (d.extract 4 d.size)] (by rfl) rfl rfl (by rfl) (by (try simp only [List.map_toArray, List.map_cons, List.map_nil]); first | done | rfl) ?_
          with_reducible refine (head_num.calls (d.extract 4 d.size) _ _ NB.out).mono ?_
          rintro e wn ⟨rfl, hdr⟩
          have hb := hdr.below
          refine ⟨_, rfl, ?_⟩
          have n0_ := Aside0.mk (below_step HBc.out hb)
          have n1_ := Aside0.mk (blk_below BK.out hb)
          have n2_ := Aside0.mk (blk_below B6.out hb)
          clear HBc BK hdr hb B6
          have HBc := n0_
          have BK := n1_
          have B6 := n2_
          clear n0_ n1_ n2_
          refine hK.out _ _ trivial (fun hHeld => ?_)
          clear hK K
          refine norm_ (a' := ?_) ?_ ?_
          rotate_left
          · show Act.put _ (some 35) _ = _
            simp only [Act.put, List.setIfInBounds_toArray, List.set_cons_zero, List.set_cons_succ, i64_w, i32_w]
            rfl
          refine pure_ (i := 16) (N := some 45) (v := ?_) (a' := ?_) #[true, true, true, true, true, true, true, true, true, true, true, true, true, true, true, true, true, true, false] rfl rfl (any_of HT_.out (by kernel_rfl)) (fun _ _ _ h => h) (Or.inl ⟨by rfl, ?_⟩) ?_ ?_
          rotate_left
          · intro w'
            go_simp
            with_reducible rfl
          rotate_left
          · simp only [Act.put, List.setIfInBounds_toArray, List.set_cons_zero, List.set_cons_succ, i64_w, i32_w]
            rfl
          refine one_ (i := 18) (N := none) #[true, true, true, true, true, true, true, true, true, true, true, true, true, true, true, true, true, true, true] rfl rfl (one_of HT_.out (by kernel_rfl)) (by decide) (fun K hK => ?_)
          have y0 := (blk_cell B6.out 0).trans rfl; have k0 := blk_frozen B6.out 0
          have y1 := (blk_cell B6.out 1).trans rfl; have k1 := blk_frozen B6.out 1
          have y2 := (blk_cell B6.out 2).trans rfl; have k2 := blk_frozen B6.out 2
          have y3 := (blk_cell B6.out 3).trans rfl; have k3 := blk_frozen B6.out 3
          have y4 := (blk_cell B6.out 4).trans rfl; have k4 := blk_frozen B6.out 4
          refine skip_ (w1 := ?_) (by rfl) rfl ?_ ?_
          rotate_left
          · go_simp
            rfl
          refine hK.out _ _ trivial (fun hHeld => ?_)
          clear hK K
          have n0_ := Aside0.mk (show Below w.heap.size w (World.setCell (World.setCell (World.setCell (World.setCell (World.setCell wn ⟨g6, 0, none⟩ (.int .i64 (numV d))) ⟨g6, 1, none⟩ (.int .i64 (numV (d.extract 4 d.size)))) ⟨g6, 2, none⟩ (.int .i64 (wrap64 (bt d 8)))) ⟨g6, 3, none⟩ (.int .i64 (wrap64 (bt d 9)))) ⟨g6, 4, none⟩ (.int .i64 (wrap64 (bt d 12)))) from by repeat (first | exact HBc.out | refine below_set ?_ G6.out))
          have n1_ := Aside0.mk (show ((World.setCell (World.setCell (World.setCell (World.setCell (World.setCell wn ⟨g6, 0, none⟩ (.int .i64 (numV d))) ⟨g6, 1, none⟩ (.int .i64 (numV (d.extract 4 d.size)))) ⟨g6, 2, none⟩ (.int .i64 (wrap64 (bt d 8)))) ⟨g6, 3, none⟩ (.int .i64 (wrap64 (bt d 9)))) ⟨g6, 4, none⟩ (.int .i64 (wrap64 (bt d 12))))).heap[gr]? = _ from (setc_ne (i := 4) (x := (.int .i64 (wrap64 (bt d 12)))) (setc_ne (i := 3) (x := (.int .i64 (wrap64 (bt d 9)))) (setc_ne (i := 2) (x := (.int .i64 (wrap64 (bt d 8)))) (setc_ne (i := 1) (x := (.int .i64 (numV (d.extract 4 d.size)))) (setc_ne (i := 0) (x := (.int .i64 (numV d))) BK.out NE6.out) NE6.out) NE6.out) NE6.out) NE6.out))
          have n2_ : Aside0 (((World.setCell (World.setCell (World.setCell (World.setCell (World.setCell wn ⟨g6, 0, none⟩ (.int .i64 (numV d))) ⟨g6, 1, none⟩ (.int .i64 (numV (d.extract 4 d.size)))) ⟨g6, 2, none⟩ (.int .i64 (wrap64 (bt d 8)))) ⟨g6, 3, none⟩ (.int .i64 (wrap64 (bt d 9)))) ⟨g6, 4, none⟩ (.int .i64 (wrap64 (bt d 12))))).heap[g6]? = some (.cells #[.int .i64 (numV d), .int .i64 (numV (d.extract 4 d.size)), .int .i64 (wrap64 (bt d 8)), .int .i64 (wrap64 (bt d 9)), .int .i64 (wrap64 (bt d 12))] 23 (0, 0))) := ⟨by refine blk_put (cs := #[.int .i64 (numV d), .int .i64 (numV (d.extract 4 d.size)), .int .i64 (wrap64 (bt d 8)), .int .i64 (wrap64 (bt d 9)), .int .i64 0]) ?_ 4 _ rfl; refine blk_put (cs := #[.int .i64 (numV d), .int .i64 (numV (d.extract 4 d.size)), .int .i64 (wrap64 (bt d 8)), .int .i64 0, .int .i64 0]) ?_ 3 _ rfl; refine blk_put (cs := #[.int .i64 (numV d), .int .i64 (numV (d.extract 4 d.size)), .int .i64 0, .int .i64 0, .int .i64 0]) ?_ 2 _ rfl; refine blk_put (cs := #[.int .i64 (numV d), .int .i64 0, .int .i64 0, .int .i64 0, .int .i64 0]) ?_ 1 _ rfl; refine blk_put (cs := #[.int .i64 0, .int .i64 0, .int .i64 0, .int .i64 0, .int .i64 0]) ?_ 0 _ rfl; exact B6.out⟩
          clear HBc BK B6 y0 y1 y2 y3 y4 k0 k1 k2 k3 k4
          generalize (World.setCell (World.setCell (World.setCell (World.setCell (World.setCell wn ⟨g6, 0, none⟩ (.int .i64 (numV d))) ⟨g6, 1, none⟩ (.int .i64 (numV (d.extract 4 d.size)))) ⟨g6, 2, none⟩ (.int .i64 (wrap64 (bt d 8)))) ⟨g6, 3, none⟩ (.int .i64 (wrap64 (bt d 9)))) ⟨g6, 4, none⟩ (.int .i64 (wrap64 (bt d 12)))) = w9 at n0_ n1_ n2_ ⊢
          clear hHeld
          as_aux_lemma =>
            refine done_ (done_of HT_.out (by kernel_rfl)) ?_
            clear HT_ HW_
            try go_wp2
            as_aux_lemma =>
              refine start_ (n := 5) (S := fun w' => w'.cell? ⟨g6, 0, none⟩ = some (.int .i64 (numV d)) ∧ w'.cell? ⟨g6, 1, none⟩ = some (.int .i64 (numV (d.extract 4 d.size))) ∧ w'.cell? ⟨g6, 2, none⟩ = some (.int .i64 (wrap64 (bt d 8))) ∧ w'.cell? ⟨g6, 3, none⟩ = some (.int .i64 (wrap64 (bt d 9))) ∧ w'.cell? ⟨g6, 4, none⟩ = some (.int .i64 (wrap64 (bt d 12)))) (ds := []) #[false, false, false, false, false] (by kernel_rfl) rfl rfl ⟨(blk_cell n2_.out 0).trans rfl, (blk_cell n2_.out 1).trans rfl, (blk_cell n2_.out 2).trans rfl, (blk_cell n2_.out 3).trans rfl, (blk_cell n2_.out 4).trans rfl⟩ (fun hHeld => ?_)
              refine with_tabW head_first.tab8 head_first.bits8 (fun HT_ HW_ => ?_)
              have HBc := Aside0.mk (below_drew1 n0_.out)
              have BK := Aside0.mk (blk_drew n1_.out)
              have B6 := Aside0.mk (blk_drew n2_.out)
              clear n0_ n1_ n2_
              generalize World.drew _ = wa at HBc BK B6 hHeld ⊢
              refine take_ (i := 0) (N := some 46) (v := ?_) (a' := ?_) #[true, false, false, false, false] rfl rfl (take_ofW HT_.out HW_.out (by kernel_rfl)) (fun _ _ _ h => h) (Or.inl ⟨by rfl, ?_⟩) hHeld ?_ ?_
              rotate_left
              · rintro w' ⟨s0, s1, s2, s3, s4⟩
                go_simp
                with_reducible rfl
              rotate_left
              · simp only [Act.put, List.setIfInBounds_toArray, List.set_cons_zero, List.set_cons_succ, i64_w, i32_w]
                rfl
              refine take_ (i := 1) (N := some 47) (v := ?_) (a' := ?_) #[true, true, false, false, false] rfl rfl (take_ofW HT_.out HW_.out (by kernel_rfl)) (fun _ _ _ h => h) (Or.inl ⟨by rfl, ?_⟩) hHeld ?_ ?_
              rotate_left
              · rintro w' ⟨s0, s1, s2, s3, s4⟩
                go_simp
                with_reducible rfl
              rotate_left
              · simp only [Act.put, List.setIfInBounds_toArray, List.set_cons_zero, List.set_cons_succ, i64_w, i32_w]
                rfl
              refine one_ (i := 2) (N := some 48) #[true, true, true, false, false] rfl rfl (one_of HT_.out (by kernel_rfl)) (by decide) (fun K hK => ?_)
              refine goes_ Try.func9 (by kernel_rfl) rfl #[.agg #[.int .i64 (numV d), .int .i64 (numV (d.extract 4 d.size)), .int .i64 (wrap64 (bt d 8)), .int .i64 (wrap64 (bt d 9)), .int .i64 (wrap64 (bt d 12))]] (by rfl) rfl rfl (by (try simp only [List.map_toArray, List.map_cons, List.map_nil]); first | done | rfl) ?_
              with_reducible refine (head_Right.calls k _ _ _ _ _ e _ HRt.out).mono ?_
              rintro e_ wn ⟨rfl, hb⟩
              refine ⟨_, rfl, ?_⟩
              have n0_ := Aside0.mk (below_step HBc.out hb)
              have n1_ := Aside0.mk (blk_below BK.out hb)
              have n2_ := Aside0.mk (blk_below B6.out hb)
              clear HBc BK B6 hb
              have HBc := n0_
              have BK := n1_
              have B6 := n2_
              clear n0_ n1_ n2_
              refine hK.out _ _ ⟨(blk_cell B6.out 0).trans rfl, (blk_cell B6.out 1).trans rfl, (blk_cell B6.out 2).trans rfl, (blk_cell B6.out 3).trans rfl, (blk_cell B6.out 4).trans rfl⟩ (fun hHeld => ?_)
              clear hK K
              refine norm_ (a' := ?_) ?_ ?_
              rotate_left
              · show Act.put _ (some 48) _ = _
                simp only [Act.put, List.setIfInBounds_toArray, List.set_cons_zero, List.set_cons_succ, i64_w, i32_w]
                rfl
              refine one_ (i := 3) (N := none) #[true, true, true, true, false] rfl rfl (one_of HT_.out (by kernel_rfl)) (by decide) (fun K hK => ?_)
              have y0 := (blk_cell BK.out 0).trans rfl; have k0 := blk_frozen BK.out 0
              have y1 := (blk_cell BK.out 1).trans rfl; have k1 := blk_frozen BK.out 1
              have y2 := (blk_cell BK.out 2).trans rfl; have k2 := blk_frozen BK.out 2
              have y3 := (blk_cell BK.out 3).trans rfl; have k3 := blk_frozen BK.out 3
              have y4 := (blk_cell BK.out 4).trans rfl; have k4 := blk_frozen BK.out 4
              refine skip_ (w1 := ?_) (by rfl) rfl ?_ ?_
              rotate_left
              · go_simp
                rfl
              have n0_ := Aside0.mk (show Below w.heap.size w (World.setCell (World.setCell (World.setCell (World.setCell (World.setCell wn ⟨gr, 0, none⟩ (.int .i64 (numV d))) ⟨gr, 1, none⟩ (.int .i64 (numV (d.extract 4 d.size)))) ⟨gr, 2, none⟩ (.int .i64 (wrap64 (bt d 8)))) ⟨gr, 3, none⟩ (.int .i64 (wrap64 (bt d 9)))) ⟨gr, 4, none⟩ (.int .i64 (wrap64 (bt d 12)))) from by repeat (first | exact HBc.out | refine below_set ?_ GR.out))
              have n1_ : Aside0 (((World.setCell (World.setCell (World.setCell (World.setCell (World.setCell wn ⟨gr, 0, none⟩ (.int .i64 (numV d))) ⟨gr, 1, none⟩ (.int .i64 (numV (d.extract 4 d.size)))) ⟨gr, 2, none⟩ (.int .i64 (wrap64 (bt d 8)))) ⟨gr, 3, none⟩ (.int .i64 (wrap64 (bt d 9)))) ⟨gr, 4, none⟩ (.int .i64 (wrap64 (bt d 12))))).heap[gr]? = some (.cells #[.int .i64 (numV d), .int .i64 (numV (d.extract 4 d.size)), .int .i64 (wrap64 (bt d 8)), .int .i64 (wrap64 (bt d 9)), .int .i64 (wrap64 (bt d 12))] 23 (0, 0))) := ⟨by refine blk_put (cs := #[.int .i64 (numV d), .int .i64 (numV (d.extract 4 d.size)), .int .i64 (wrap64 (bt d 8)), .int .i64 (wrap64 (bt d 9)), .int .i64 0]) ?_ 4 _ rfl; refine blk_put (cs := #[.int .i64 (numV d), .int .i64 (numV (d.extract 4 d.size)), .int .i64 (wrap64 (bt d 8)), .int .i64 0, .int .i64 0]) ?_ 3 _ rfl; refine blk_put (cs := #[.int .i64 (numV d), .int .i64 (numV (d.extract 4 d.size)), .int .i64 0, .int .i64 0, .int .i64 0]) ?_ 2 _ rfl; refine blk_put (cs := #[.int .i64 (numV d), .int .i64 0, .int .i64 0, .int .i64 0, .int .i64 0]) ?_ 1 _ rfl; refine blk_put (cs := #[.int .i64 0, .int .i64 0, .int .i64 0, .int .i64 0, .int .i64 0]) ?_ 0 _ rfl; exact BK.out⟩
              have n2_ := Aside0.mk (show ((World.setCell (World.setCell (World.setCell (World.setCell (World.setCell wn ⟨gr, 0, none⟩ (.int .i64 (numV d))) ⟨gr, 1, none⟩ (.int .i64 (numV (d.extract 4 d.size)))) ⟨gr, 2, none⟩ (.int .i64 (wrap64 (bt d 8)))) ⟨gr, 3, none⟩ (.int .i64 (wrap64 (bt d 9)))) ⟨gr, 4, none⟩ (.int .i64 (wrap64 (bt d 12))))).heap[g6]? = _ from (setc_ne (i := 4) (x := (.int .i64 (wrap64 (bt d 12)))) (setc_ne (i := 3) (x := (.int .i64 (wrap64 (bt d 9)))) (setc_ne (i := 2) (x := (.int .i64 (wrap64 (bt d 8)))) (setc_ne (i := 1) (x := (.int .i64 (numV (d.extract 4 d.size)))) (setc_ne (i := 0) (x := (.int .i64 (numV d))) B6.out NE6.out.symm) NE6.out.symm) NE6.out.symm) NE6.out.symm) NE6.out.symm))
              refine hK.out _ _ ⟨(blk_cell n2_.out 0).trans rfl, (blk_cell n2_.out 1).trans rfl, (blk_cell n2_.out 2).trans rfl, (blk_cell n2_.out 3).trans rfl, (blk_cell n2_.out 4).trans rfl⟩ (fun hHeld => ?_)
              clear hK K
              clear HBc BK B6 y0 y1 y2 y3 y4 k0 k1 k2 k3 k4
              generalize (World.setCell (World.setCell (World.setCell (World.setCell (World.setCell wn ⟨gr, 0, none⟩ (.int .i64 (numV d))) ⟨gr, 1, none⟩ (.int .i64 (numV (d.extract 4 d.size)))) ⟨gr, 2, none⟩ (.int .i64 (wrap64 (bt d 8)))) ⟨gr, 3, none⟩ (.int .i64 (wrap64 (bt d 9)))) ⟨gr, 4, none⟩ (.int .i64 (wrap64 (bt d 12)))) = wb at n0_ n1_ n2_ hHeld ⊢
              as_aux_lemma =>
                refine pure_ (i := 4) (N := some 3) (v := ?_) (a' := ?_) #[true, true, true, true, true] rfl rfl (any_of HT_.out (by kernel_rfl)) (fun _ _ _ h => h) (Or.inl ⟨by rfl, ?_⟩) ?_ ?_
                rotate_left
                · intro w'
                  go_simp
                  with_reducible rfl
                rotate_left
                · simp only [Act.put, List.setIfInBounds_toArray, List.set_cons_zero, List.set_cons_succ, i64_w, i32_w]
                  rfl
                refine done_ (done_of HT_.out (by kernel_rfl)) ?_
                try go_wp2
                refine bodyPost_ret (results_ct rfl _ _ gr 23 #[.int .i64 (numV d), .int .i64 (numV (d.extract 4 d.size)), .int .i64 (wrap64 (bt d 8)), .int .i64 (wrap64 (bt d 9)), .int .i64 (wrap64 (bt d 12))] (0, 0) _ rfl (by exact n1_.out) Try.underlying23 rfl (by kernel_rfl)) rfl ?_
                exact ⟨rfl, n0_.out⟩
  · as_aux_lemma =>
      refine box_step (by rfl) (N := 6) rfl (cs := #[.int .i64 0, .int .i64 0, .int .i64 0, .int .i64 0, .int .i64 0]) (t := 23) (by first | (go_simp; done) | (go_simp; rfl)) ?_
      intro g6 hg wn hbox hb
      have G6 := Aside0.mk (show _ ≤ g6 from by rw [hg]; exact below_size HBc.out)
      have n0_ := Aside0.mk (below_step HBc.out hb)
      have n1_ := Aside0.mk (blk_below BK.out hb)
      have B6 := Aside0.mk hbox
      have NE6 := Aside0.mk (show gr ≠ g6 from fun e_ => by have := (Array.getElem?_eq_some_iff.1 BK.out).1; omega)
      clear HBc BK hg hb hbox
      have HBc := n0_
      have BK := n1_
      clear n0_ n1_
      refine hK.out _ _ trivial (fun hHeld => ?_)
      clear hK K
      refine norm_ (a' := ?_) ?_ ?_
      rotate_left
      · show Act.put _ (some 6) _ = _
        simp only [Act.put, List.setIfInBounds_toArray, List.set_cons_zero, List.set_cons_succ, i64_w, i32_w]
        rfl
      refine one_ (i := 2) (N := some 31) #[true, true, true, true, true, true, false, true, true, true, true, true, true, true, true, true, false, true, false] rfl rfl (one_of HT_.out (by kernel_rfl)) (by decide) (fun K hK => ?_)
      refine goesV_ Try.func35 (by kernel_rfl) rfl #[.string d] (by rfl) rfl rfl (by rfl) (by (try simp only [List.map_toArray, List.map_cons, List.map_nil]); first | done | rfl) ?_
      with_reducible refine (head_num.calls d _ _ NA.out).mono ?_
      rintro e wn ⟨rfl, hdr⟩
      have hb := hdr.below
      refine ⟨_, rfl, ?_⟩
      have n0_ := Aside0.mk (below_step HBc.out hb)
      have n1_ := Aside0.mk (blk_below BK.out hb)
      have n2_ := Aside0.mk (blk_below B6.out hb)
      clear HBc BK hdr hb B6
      have HBc := n0_
      have BK := n1_
      have B6 := n2_
      clear n0_ n1_ n2_
      refine hK.out _ _ trivial (fun hHeld => ?_)
      clear hK K
      refine norm_ (a' := ?_) ?_ ?_
      rotate_left
      · show Act.put _ (some 31) _ = _
        simp only [Act.put, List.setIfInBounds_toArray, List.set_cons_zero, List.set_cons_succ, i64_w, i32_w]
        rfl
      refine one_ (i := 6) (N := some 35) #[true, true, true, true, true, true, true, true, true, true, true, true, true, true, true, true, false, true, false] rfl rfl (one_of HT_.out (by kernel_rfl)) (by decide) (fun K hK => ?_)
      refine goesV_ Try.func35 (by kernel_rfl) rfl #[.string (d.extract 4 d.size)] (by rfl) rfl rfl (by rfl) (by (try simp only [List.map_toArray, List.map_cons, List.map_nil]); first | done | rfl) ?_
      with_reducible refine (head_num.calls (d.extract 4 d.size) _ _ NB.out).mono ?_
      rintro e wn ⟨rfl, hdr⟩
      have hb := hdr.below
      refine ⟨_, rfl, ?_⟩
      have n0_ := Aside0.mk (below_step HBc.out hb)
      have n1_ := Aside0.mk (blk_below BK.out hb)
      have n2_ := Aside0.mk (blk_below B6.out hb)
      clear HBc BK hdr hb B6
      have HBc := n0_
      have BK := n1_
      have B6 := n2_
      clear n0_ n1_ n2_
      refine hK.out _ _ trivial (fun hHeld => ?_)
      clear hK K
      refine norm_ (a' := ?_) ?_ ?_
      rotate_left
      · show Act.put _ (some 35) _ = _
        simp only [Act.put, List.setIfInBounds_toArray, List.set_cons_zero, List.set_cons_succ, i64_w, i32_w]
        rfl
      refine pure_ (i := 16) (N := some 45) (v := ?_) (a' := ?_) #[true, true, true, true, true, true, true, true, true, true, true, true, true, true, true, true, true, true, false] rfl rfl (any_of HT_.out (by kernel_rfl)) (fun _ _ _ h => h) (Or.inl ⟨by rfl, ?_⟩) ?_ ?_
      rotate_left
      · intro w'
        go_simp
        with_reducible rfl
      rotate_left
      · simp only [Act.put, List.setIfInBounds_toArray, List.set_cons_zero, List.set_cons_succ, i64_w, i32_w]
        rfl
      refine one_ (i := 18) (N := none) #[true, true, true, true, true, true, true, true, true, true, true, true, true, true, true, true, true, true, true] rfl rfl (one_of HT_.out (by kernel_rfl)) (by decide) (fun K hK => ?_)
      have y0 := (blk_cell B6.out 0).trans rfl; have k0 := blk_frozen B6.out 0
      have y1 := (blk_cell B6.out 1).trans rfl; have k1 := blk_frozen B6.out 1
      have y2 := (blk_cell B6.out 2).trans rfl; have k2 := blk_frozen B6.out 2
      have y3 := (blk_cell B6.out 3).trans rfl; have k3 := blk_frozen B6.out 3
      have y4 := (blk_cell B6.out 4).trans rfl; have k4 := blk_frozen B6.out 4
      refine skip_ (w1 := ?_) (by rfl) rfl ?_ ?_
      rotate_left
      · go_simp
        rfl
      refine hK.out _ _ trivial (fun hHeld => ?_)
      clear hK K
      have n0_ := Aside0.mk (show Below w.heap.size w (World.setCell (World.setCell (World.setCell (World.setCell (World.setCell wn ⟨g6, 0, none⟩ (.int .i64 (numV d))) ⟨g6, 1, none⟩ (.int .i64 (numV (d.extract 4 d.size)))) ⟨g6, 2, none⟩ (.int .i64 (wrap64 (bt d 8)))) ⟨g6, 3, none⟩ (.int .i64 (wrap64 (bt d 9)))) ⟨g6, 4, none⟩ (.int .i64 (wrap64 (bt d 12)))) from by repeat (first | exact HBc.out | refine below_set ?_ G6.out))
      have n1_ := Aside0.mk (show ((World.setCell (World.setCell (World.setCell (World.setCell (World.setCell wn ⟨g6, 0, none⟩ (.int .i64 (numV d))) ⟨g6, 1, none⟩ (.int .i64 (numV (d.extract 4 d.size)))) ⟨g6, 2, none⟩ (.int .i64 (wrap64 (bt d 8)))) ⟨g6, 3, none⟩ (.int .i64 (wrap64 (bt d 9)))) ⟨g6, 4, none⟩ (.int .i64 (wrap64 (bt d 12))))).heap[gr]? = _ from (setc_ne (i := 4) (x := (.int .i64 (wrap64 (bt d 12)))) (setc_ne (i := 3) (x := (.int .i64 (wrap64 (bt d 9)))) (setc_ne (i := 2) (x := (.int .i64 (wrap64 (bt d 8)))) (setc_ne (i := 1) (x := (.int .i64 (numV (d.extract 4 d.size)))) (setc_ne (i := 0) (x := (.int .i64 (numV d))) BK.out NE6.out) NE6.out) NE6.out) NE6.out) NE6.out))
      have n2_ : Aside0 (((World.setCell (World.setCell (World.setCell (World.setCell (World.setCell wn ⟨g6, 0, none⟩ (.int .i64 (numV d))) ⟨g6, 1, none⟩ (.int .i64 (numV (d.extract 4 d.size)))) ⟨g6, 2, none⟩ (.int .i64 (wrap64 (bt d 8)))) ⟨g6, 3, none⟩ (.int .i64 (wrap64 (bt d 9)))) ⟨g6, 4, none⟩ (.int .i64 (wrap64 (bt d 12))))).heap[g6]? = some (.cells #[.int .i64 (numV d), .int .i64 (numV (d.extract 4 d.size)), .int .i64 (wrap64 (bt d 8)), .int .i64 (wrap64 (bt d 9)), .int .i64 (wrap64 (bt d 12))] 23 (0, 0))) := ⟨by refine blk_put (cs := #[.int .i64 (numV d), .int .i64 (numV (d.extract 4 d.size)), .int .i64 (wrap64 (bt d 8)), .int .i64 (wrap64 (bt d 9)), .int .i64 0]) ?_ 4 _ rfl; refine blk_put (cs := #[.int .i64 (numV d), .int .i64 (numV (d.extract 4 d.size)), .int .i64 (wrap64 (bt d 8)), .int .i64 0, .int .i64 0]) ?_ 3 _ rfl; refine blk_put (cs := #[.int .i64 (numV d), .int .i64 (numV (d.extract 4 d.size)), .int .i64 0, .int .i64 0, .int .i64 0]) ?_ 2 _ rfl; refine blk_put (cs := #[.int .i64 (numV d), .int .i64 0, .int .i64 0, .int .i64 0, .int .i64 0]) ?_ 1 _ rfl; refine blk_put (cs := #[.int .i64 0, .int .i64 0, .int .i64 0, .int .i64 0, .int .i64 0]) ?_ 0 _ rfl; exact B6.out⟩
      clear HBc BK B6 y0 y1 y2 y3 y4 k0 k1 k2 k3 k4
      generalize (World.setCell (World.setCell (World.setCell (World.setCell (World.setCell wn ⟨g6, 0, none⟩ (.int .i64 (numV d))) ⟨g6, 1, none⟩ (.int .i64 (numV (d.extract 4 d.size)))) ⟨g6, 2, none⟩ (.int .i64 (wrap64 (bt d 8)))) ⟨g6, 3, none⟩ (.int .i64 (wrap64 (bt d 9)))) ⟨g6, 4, none⟩ (.int .i64 (wrap64 (bt d 12)))) = w9 at n0_ n1_ n2_ ⊢
      clear hHeld
      as_aux_lemma =>
        refine done_ (done_of HT_.out (by kernel_rfl)) ?_
        clear HT_ HW_
        try go_wp2
        as_aux_lemma =>
          refine start_ (n := 5) (S := fun w' => w'.cell? ⟨g6, 0, none⟩ = some (.int .i64 (numV d)) ∧ w'.cell? ⟨g6, 1, none⟩ = some (.int .i64 (numV (d.extract 4 d.size))) ∧ w'.cell? ⟨g6, 2, none⟩ = some (.int .i64 (wrap64 (bt d 8))) ∧ w'.cell? ⟨g6, 3, none⟩ = some (.int .i64 (wrap64 (bt d 9))) ∧ w'.cell? ⟨g6, 4, none⟩ = some (.int .i64 (wrap64 (bt d 12)))) (ds := []) #[false, false, false, false, false] (by kernel_rfl) rfl rfl ⟨(blk_cell n2_.out 0).trans rfl, (blk_cell n2_.out 1).trans rfl, (blk_cell n2_.out 2).trans rfl, (blk_cell n2_.out 3).trans rfl, (blk_cell n2_.out 4).trans rfl⟩ (fun hHeld => ?_)
          refine with_tabW head_first.tab8 head_first.bits8 (fun HT_ HW_ => ?_)
          have HBc := Aside0.mk (below_drew1 n0_.out)
          have BK := Aside0.mk (blk_drew n1_.out)
          have B6 := Aside0.mk (blk_drew n2_.out)
          clear n0_ n1_ n2_
          generalize World.drew _ = wa at HBc BK B6 hHeld ⊢
          refine take_ (i := 0) (N := some 46) (v := ?_) (a' := ?_) #[true, false, false, false, false] rfl rfl (take_ofW HT_.out HW_.out (by kernel_rfl)) (fun _ _ _ h => h) (Or.inl ⟨by rfl, ?_⟩) hHeld ?_ ?_
          rotate_left
          · rintro w' ⟨s0, s1, s2, s3, s4⟩
            go_simp
            with_reducible rfl
          rotate_left
          · simp only [Act.put, List.setIfInBounds_toArray, List.set_cons_zero, List.set_cons_succ, i64_w, i32_w]
            rfl
          refine take_ (i := 1) (N := some 47) (v := ?_) (a' := ?_) #[true, true, false, false, false] rfl rfl (take_ofW HT_.out HW_.out (by kernel_rfl)) (fun _ _ _ h => h) (Or.inl ⟨by rfl, ?_⟩) hHeld ?_ ?_
          rotate_left
          · rintro w' ⟨s0, s1, s2, s3, s4⟩
            go_simp
            with_reducible rfl
          rotate_left
          · simp only [Act.put, List.setIfInBounds_toArray, List.set_cons_zero, List.set_cons_succ, i64_w, i32_w]
            rfl
          refine one_ (i := 2) (N := some 48) #[true, true, true, false, false] rfl rfl (one_of HT_.out (by kernel_rfl)) (by decide) (fun K hK => ?_)
          refine goes_ Try.func9 (by kernel_rfl) rfl #[.agg #[.int .i64 (numV d), .int .i64 (numV (d.extract 4 d.size)), .int .i64 (wrap64 (bt d 8)), .int .i64 (wrap64 (bt d 9)), .int .i64 (wrap64 (bt d 12))]] (by rfl) rfl rfl (by (try simp only [List.map_toArray, List.map_cons, List.map_nil]); first | done | rfl) ?_
          with_reducible refine (head_Right.calls k _ _ _ _ _ e _ HRt.out).mono ?_
          rintro e_ wn ⟨rfl, hb⟩
          refine ⟨_, rfl, ?_⟩
          have n0_ := Aside0.mk (below_step HBc.out hb)
          have n1_ := Aside0.mk (blk_below BK.out hb)
          have n2_ := Aside0.mk (blk_below B6.out hb)
          clear HBc BK B6 hb
          have HBc := n0_
          have BK := n1_
          have B6 := n2_
          clear n0_ n1_ n2_
          refine hK.out _ _ ⟨(blk_cell B6.out 0).trans rfl, (blk_cell B6.out 1).trans rfl, (blk_cell B6.out 2).trans rfl, (blk_cell B6.out 3).trans rfl, (blk_cell B6.out 4).trans rfl⟩ (fun hHeld => ?_)
          clear hK K
          refine norm_ (a' := ?_) ?_ ?_
          rotate_left
          · show Act.put _ (some 48) _ = _
            simp only [Act.put, List.setIfInBounds_toArray, List.set_cons_zero, List.set_cons_succ, i64_w, i32_w]
            rfl
          refine one_ (i := 3) (N := none) #[true, true, true, true, false] rfl rfl (one_of HT_.out (by kernel_rfl)) (by decide) (fun K hK => ?_)
          have y0 := (blk_cell BK.out 0).trans rfl; have k0 := blk_frozen BK.out 0
          have y1 := (blk_cell BK.out 1).trans rfl; have k1 := blk_frozen BK.out 1
          have y2 := (blk_cell BK.out 2).trans rfl; have k2 := blk_frozen BK.out 2
          have y3 := (blk_cell BK.out 3).trans rfl; have k3 := blk_frozen BK.out 3
          have y4 := (blk_cell BK.out 4).trans rfl; have k4 := blk_frozen BK.out 4
          refine skip_ (w1 := ?_) (by rfl) rfl ?_ ?_
          rotate_left
          · go_simp
            rfl
          have n0_ := Aside0.mk (show Below w.heap.size w (World.setCell (World.setCell (World.setCell (World.setCell (World.setCell wn ⟨gr, 0, none⟩ (.int .i64 (numV d))) ⟨gr, 1, none⟩ (.int .i64 (numV (d.extract 4 d.size)))) ⟨gr, 2, none⟩ (.int .i64 (wrap64 (bt d 8)))) ⟨gr, 3, none⟩ (.int .i64 (wrap64 (bt d 9)))) ⟨gr, 4, none⟩ (.int .i64 (wrap64 (bt d 12)))) from by repeat (first | exact HBc.out | refine below_set ?_ GR.out))
          have n1_ : Aside0 (((World.setCell (World.setCell (World.setCell (World.setCell (World.setCell wn ⟨gr, 0, none⟩ (.int .i64 (numV d))) ⟨gr, 1, none⟩ (.int .i64 (numV (d.extract 4 d.size)))) ⟨gr, 2, none⟩ (.int .i64 (wrap64 (bt d 8)))) ⟨gr, 3, none⟩ (.int .i64 (wrap64 (bt d 9)))) ⟨gr, 4, none⟩ (.int .i64 (wrap64 (bt d 12))))).heap[gr]? = some (.cells #[.int .i64 (numV d), .int .i64 (numV (d.extract 4 d.size)), .int .i64 (wrap64 (bt d 8)), .int .i64 (wrap64 (bt d 9)), .int .i64 (wrap64 (bt d 12))] 23 (0, 0))) := ⟨by refine blk_put (cs := #[.int .i64 (numV d), .int .i64 (numV (d.extract 4 d.size)), .int .i64 (wrap64 (bt d 8)), .int .i64 (wrap64 (bt d 9)), .int .i64 0]) ?_ 4 _ rfl; refine blk_put (cs := #[.int .i64 (numV d), .int .i64 (numV (d.extract 4 d.size)), .int .i64 (wrap64 (bt d 8)), .int .i64 0, .int .i64 0]) ?_ 3 _ rfl; refine blk_put (cs := #[.int .i64 (numV d), .int .i64 (numV (d.extract 4 d.size)), .int .i64 0, .int .i64 0, .int .i64 0]) ?_ 2 _ rfl; refine blk_put (cs := #[.int .i64 (numV d), .int .i64 0, .int .i64 0, .int .i64 0, .int .i64 0]) ?_ 1 _ rfl; refine blk_put (cs := #[.int .i64 0, .int .i64 0, .int .i64 0, .int .i64 0, .int .i64 0]) ?_ 0 _ rfl; exact BK.out⟩
          have n2_ := Aside0.mk (show ((World.setCell (World.setCell (World.setCell (World.setCell (World.setCell wn ⟨gr, 0, none⟩ (.int .i64 (numV d))) ⟨gr, 1, none⟩ (.int .i64 (numV (d.extract 4 d.size)))) ⟨gr, 2, none⟩ (.int .i64 (wrap64 (bt d 8)))) ⟨gr, 3, none⟩ (.int .i64 (wrap64 (bt d 9)))) ⟨gr, 4, none⟩ (.int .i64 (wrap64 (bt d 12))))).heap[g6]? = _ from (setc_ne (i := 4) (x := (.int .i64 (wrap64 (bt d 12)))) (setc_ne (i := 3) (x := (.int .i64 (wrap64 (bt d 9)))) (setc_ne (i := 2) (x := (.int .i64 (wrap64 (bt d 8)))) (setc_ne (i := 1) (x := (.int .i64 (numV (d.extract 4 d.size)))) (setc_ne (i := 0) (x := (.int .i64 (numV d))) B6.out NE6.out.symm) NE6.out.symm) NE6.out.symm) NE6.out.symm) NE6.out.symm))
          refine hK.out _ _ ⟨(blk_cell n2_.out 0).trans rfl, (blk_cell n2_.out 1).trans rfl, (blk_cell n2_.out 2).trans rfl, (blk_cell n2_.out 3).trans rfl, (blk_cell n2_.out 4).trans rfl⟩ (fun hHeld => ?_)
          clear hK K
          clear HBc BK B6 y0 y1 y2 y3 y4 k0 k1 k2 k3 k4
          generalize (World.setCell (World.setCell (World.setCell (World.setCell (World.setCell wn ⟨gr, 0, none⟩ (.int .i64 (numV d))) ⟨gr, 1, none⟩ (.int .i64 (numV (d.extract 4 d.size)))) ⟨gr, 2, none⟩ (.int .i64 (wrap64 (bt d 8)))) ⟨gr, 3, none⟩ (.int .i64 (wrap64 (bt d 9)))) ⟨gr, 4, none⟩ (.int .i64 (wrap64 (bt d 12)))) = wb at n0_ n1_ n2_ hHeld ⊢
          as_aux_lemma =>
            refine pure_ (i := 4) (N := some 3) (v := ?_) (a' := ?_) #[true, true, true, true, true] rfl rfl (any_of HT_.out (by kernel_rfl)) (fun _ _ _ h => h) (Or.inl ⟨by rfl, ?_⟩) ?_ ?_
            rotate_left
            · intro w'
              go_simp
              with_reducible rfl
            rotate_left
            · simp only [Act.put, List.setIfInBounds_toArray, List.set_cons_zero, List.set_cons_succ, i64_w, i32_w]
              rfl
            refine done_ (done_of HT_.out (by kernel_rfl)) ?_
            try go_wp2
            refine bodyPost_ret (results_ct rfl _ _ gr 23 #[.int .i64 (numV d), .int .i64 (numV (d.extract 4 d.size)), .int .i64 (wrap64 (bt d 8)), .int .i64 (wrap64 (bt d 9)), .int .i64 (wrap64 (bt d 12))] (0, 0) _ rfl (by exact n1_.out) Try.underlying23 rfl (by kernel_rfl)) rfl ?_
            exact ⟨rfl, n0_.out⟩
/-! ### Read: what it answers -/
/-- A shape, the bytes, what is wrong. -/
structure HOut where
  W : Int
  H : Int
  D : Int
  C : Int
  L : Int
  pal : ByteArray
  tr : ByteArray
  ht : Bool
  data : ByteArray
  e : Int
def outE (e : Int) : HOut := ⟨0, 0, 0, 0, 0, ⟨#[]⟩, ⟨#[]⟩, false, ⟨#[]⟩, e⟩
def outS (s : HSt) : HOut := ⟨s.W, s.H, s.D, s.C, s.L, s.pal, s.tr, s.ht, s.data, 0⟩
def st0 (W H D C L : Int) : HSt := ⟨W, H, D, C, L, ⟨#[]⟩, ⟨#[]⟩, false, false, ⟨#[]⟩, false, false⟩
def head_loop : List S30 → HSt → Option HOut
  | [], _ => some (outE 3)
  | c :: r, s => if c.f0.toList = [73, 69, 78, 68] then (if endsV s c.f1 (r.length : Int) = 0 then some (outS s) else some (outE (endsV s c.f1 (r.length : Int))))
    else (chunk_Critical.f c.f0).bind fun cr => if (takesV s cr c.f0 c.f1).1 = 0 then head_loop r (takesV s cr c.f0 c.f1).2 else some (outE (takesV s cr c.f0 c.f1).1)
/-! What takes leaves as it is. -/
theorem plteV_keeps (s : HSt) (d : ByteArray) (hp : s.pal.size ≤ 768) : (plteV s d).2.D = s.D ∧ (plteV s d).2.C = s.C ∧ (plteV s d).2.data = s.data ∧ (plteV s d).2.pal.size ≤ 768 := by
  unfold plteV
  repeat' split
  all_goals first | exact ⟨rfl, rfl, rfl, hp⟩ | (refine ⟨rfl, rfl, rfl, ?_⟩; show d.size ≤ 768; omega)
theorem trnsV_keeps (s : HSt) (d : ByteArray) : (trnsV s d).2.D = s.D ∧ (trnsV s d).2.C = s.C ∧ (trnsV s d).2.data = s.data ∧ (trnsV s d).2.pal = s.pal := by
  unfold trnsV
  repeat' split
  all_goals exact ⟨rfl, rfl, rfl, rfl⟩
theorem takesV_keeps (s : HSt) (cr : Bool) (ty d : ByteArray) (hp : s.pal.size ≤ 768) : (takesV s cr ty d).2.D = s.D ∧ (takesV s cr ty d).2.C = s.C ∧ (takesV s cr ty d).2.data.size ≤ s.data.size + d.size ∧ (takesV s cr ty d).2.pal.size ≤ 768 := by
  have h1 := plteV_keeps s d hp
  have h2 := trnsV_keeps s d
  unfold takesV
  repeat' split
  all_goals first
    | exact ⟨rfl, rfl, Nat.le_add_right _ _, hp⟩
    | exact ⟨h1.1, h1.2.1, by show (plteV s d).2.data.size ≤ _; rw [h1.2.2.1]; omega, h1.2.2.2⟩
    | exact ⟨h2.1, h2.2.1, by show (trnsV s d).2.data.size ≤ _; rw [h2.2.2.1]; omega, by show (trnsV s d).2.pal.size ≤ _; rw [h2.2.2.2]; exact hp⟩
    | exact ⟨rfl, rfl, by show (s.data ++ d).size ≤ _; rw [ByteArray.size_append]; omega, hp⟩
/-! ### Read: no chunk -/
set_option maxHeartbeats 8000000 in
set_option maxRecDepth 100000 in
theorem read_none (A : Option Addr) (c : Nat) (w : World) :
    Calls Try.prog 17 #[.slice A 0 c] w fun e w' => e = .returned (.tuple #[.agg #[.int .i64 0, .int .i64 0, .int .i64 0, .int .i64 0, .int .i64 0, .string (⟨#[]⟩ : ByteArray), .string (⟨#[]⟩ : ByteArray), .bool false], .string (⟨#[]⟩ : ByteArray), .int .i64 23]) ∧ Below w.heap.size w w' := by
  go_enter Try.func17, Try.ntmps17
  go_wp2_with (((with_reducible refine gate_dst (N := 2) rfl ?_); refine box_event ?hg (N := 2) ?hd (cs := #[.int .i64 0, .int .i64 0, .int .i64 0, .int .i64 0, .int .i64 0, .string (⟨#[]⟩ : ByteArray), .string (⟨#[]⟩ : ByteArray), .bool false]) (t := 36) ?hr ?_; (case hd => rfl); (case hg => rfl); (case hr => first | (go_simp; done) | (go_simp; rfl)); intro gr hg w1 hbox hb; have HB1 := Aside0.mk hb; have GR := Aside0.mk (show w.heap.size ≤ gr from by rw [hg]; exact Nat.le_refl _); have z0 : w1.cell? ⟨gr, 0, none⟩ = some (.int .i64 0) := (blk_cell hbox 0).trans rfl; have f0 := blk_frozen hbox 0; have z1 : w1.cell? ⟨gr, 1, none⟩ = some (.int .i64 0) := (blk_cell hbox 1).trans rfl; have f1 := blk_frozen hbox 1; have z2 : w1.cell? ⟨gr, 2, none⟩ = some (.int .i64 0) := (blk_cell hbox 2).trans rfl; have f2 := blk_frozen hbox 2; have z3 : w1.cell? ⟨gr, 3, none⟩ = some (.int .i64 0) := (blk_cell hbox 3).trans rfl; have f3 := blk_frozen hbox 3; have z4 : w1.cell? ⟨gr, 4, none⟩ = some (.int .i64 0) := (blk_cell hbox 4).trans rfl; have f4 := blk_frozen hbox 4; have z5 : w1.cell? ⟨gr, 5, none⟩ = some (.string (⟨#[]⟩ : ByteArray)) := (blk_cell hbox 5).trans rfl; have f5 := blk_frozen hbox 5; have z6 : w1.cell? ⟨gr, 6, none⟩ = some (.string (⟨#[]⟩ : ByteArray)) := (blk_cell hbox 6).trans rfl; have f6 := blk_frozen hbox 6; have z7 : w1.cell? ⟨gr, 7, none⟩ = some (.bool false) := (blk_cell hbox 7).trans rfl; have f7 := blk_frozen hbox 7; have BK := Aside0.mk hbox; clear hb hbox hg))
  refine bodyPost_ret (results_ctt rfl _ _ gr 36 #[.int .i64 0, .int .i64 0, .int .i64 0, .int .i64 0, .int .i64 0, .string (⟨#[]⟩ : ByteArray), .string (⟨#[]⟩ : ByteArray), .bool false] (0, 0) _ rfl (by refine blk_put (cs := #[.int .i64 0, .int .i64 0, .int .i64 0, .int .i64 0, .int .i64 0, .string (⟨#[]⟩ : ByteArray), .string (⟨#[]⟩ : ByteArray), .bool false]) ?_ 7 _ rfl; refine blk_put (cs := #[.int .i64 0, .int .i64 0, .int .i64 0, .int .i64 0, .int .i64 0, .string (⟨#[]⟩ : ByteArray), .string (⟨#[]⟩ : ByteArray), .bool false]) ?_ 6 _ rfl; refine blk_put (cs := #[.int .i64 0, .int .i64 0, .int .i64 0, .int .i64 0, .int .i64 0, .string (⟨#[]⟩ : ByteArray), .string (⟨#[]⟩ : ByteArray), .bool false]) ?_ 5 _ rfl; refine blk_put (cs := #[.int .i64 0, .int .i64 0, .int .i64 0, .int .i64 0, .int .i64 0, .string (⟨#[]⟩ : ByteArray), .string (⟨#[]⟩ : ByteArray), .bool false]) ?_ 4 _ rfl; refine blk_put (cs := #[.int .i64 0, .int .i64 0, .int .i64 0, .int .i64 0, .int .i64 0, .string (⟨#[]⟩ : ByteArray), .string (⟨#[]⟩ : ByteArray), .bool false]) ?_ 3 _ rfl; refine blk_put (cs := #[.int .i64 0, .int .i64 0, .int .i64 0, .int .i64 0, .int .i64 0, .string (⟨#[]⟩ : ByteArray), .string (⟨#[]⟩ : ByteArray), .bool false]) ?_ 2 _ rfl; refine blk_put (cs := #[.int .i64 0, .int .i64 0, .int .i64 0, .int .i64 0, .int .i64 0, .string (⟨#[]⟩ : ByteArray), .string (⟨#[]⟩ : ByteArray), .bool false]) ?_ 1 _ rfl; refine blk_put (cs := #[.int .i64 0, .int .i64 0, .int .i64 0, .int .i64 0, .int .i64 0, .string (⟨#[]⟩ : ByteArray), .string (⟨#[]⟩ : ByteArray), .bool false]) ?_ 0 _ rfl; exact BK.out) Try.underlying36 rfl (by kernel_rfl)) rfl ?_
  exact ⟨rfl, by repeat (first | (with_reducible first | exact HB1.out | apply below_alloc | apply pw_below_drewN | apply below_drew1 | refine below_set ?_ GR.out) | exact HB1.out)⟩
/-! ### first, as one -/
def firstV (k : Nat) (ty d : ByteArray) : Option (Int × Int × Int × Int × Int × Int) :=
  if ty.toList = [73, 72, 68, 82] then (if (d.size : Int) = 13 ∧ bt d 10 = 0 ∧ bt d 11 = 0 then (head_Right.f k (numV d) (numV (d.extract 4 d.size)) (wrap64 (bt d 8)) (wrap64 (bt d 9)) (wrap64 (bt d 12))).bind fun e => some (numV d, numV (d.extract 4 d.size), wrap64 (bt d 8), wrap64 (bt d 9), wrap64 (bt d 12), e) else some (0, 0, 0, 0, 0, 24)) else some (0, 0, 0, 0, 0, 23)
theorem first_calls (k : Nat) (ty d : ByteArray) (a b c dd l e : Int) (w : World) (h : firstV k ty d = some (a, b, c, dd, l, e)) :
    Calls Try.prog 29 #[.agg #[.string ty, .string d]] w fun e' w' => e' = .returned (.tuple #[.agg #[.int .i64 a, .int .i64 b, .int .i64 c, .int .i64 dd, .int .i64 l], .int .i64 e]) ∧ Below w.heap.size w w' := by
  unfold firstV at h
  by_cases t : ty.toList = [73, 72, 68, 82]
  · rw [if_pos t] at h
    by_cases u : (d.size : Int) = 13 ∧ bt d 10 = 0 ∧ bt d 11 = 0
    · rw [if_pos u] at h
      obtain ⟨e1, he, h⟩ := Option.bind_eq_some_iff.1 h
      cases h
      exact first_ok k ty d e w t u he
    · rw [if_neg u] at h
      cases h
      by_cases u1 : (d.size : Int) = 13
      · by_cases u2 : bt d 10 = 0
        · exact first_bad3 ty d w t ⟨u1, u2, fun u3 => u ⟨u1, u2, u3⟩⟩
        · exact first_bad2 ty d w t ⟨u1, u2⟩
      · exact first_bad1 ty d w t u1
  · rw [if_neg t] at h
    cases h
    exact first_not ty d w t
/-! ### Read: a first chunk that is refused -/
set_option maxHeartbeats 8000000 in
set_option maxRecDepth 100000 in
theorem read_bad (k : Nat) (ad : Addr) (n c : Nat) (ty d : ByteArray) (a b c0 dd l0 e : Int) (w : World) (hn : 0 < n) (hx0 : w.cell? ad = some (.string ty)) (hx1 : w.cell? ⟨ad.block, ad.off + 1, none⟩ = some (.string d)) (h : firstV k ty d = some (a, b, c0, dd, l0, e)) (he : ¬ e = 0) :
    Calls Try.prog 17 #[.slice (some ad) n c] w fun e' w' => e' = .returned (.tuple #[.agg #[.int .i64 0, .int .i64 0, .int .i64 0, .int .i64 0, .int .i64 0, .string (⟨#[]⟩ : ByteArray), .string (⟨#[]⟩ : ByteArray), .bool false], .string (⟨#[]⟩ : ByteArray), .int .i64 e]) ∧ Below w.heap.size w w' := by
  have HX0 := Aside0.mk hx0
  have HX1 := Aside0.mk hx1
  have HF := Aside0.mk h
  have t0 : ((n : Int) == 0) = false := beq_eq_false_iff_ne.mpr (by omega)
  have t1 : ¬ n = 0 := by omega
  have t2 : decide (0 < (n : Int)) = true := decide_eq_true (by omega)
  have t3 : (0 < n) = True := eq_true hn
  have t4 : (0 < (n : Int)) = True := eq_true (by omega)
  have e0 : (e == 0) = false := beq_eq_false_iff_ne.mpr he
  have e1 : (e != 0) = true := bne_iff_ne.mpr he
  clear hx0 hx1 h he hn
  go_enter Try.func17, Try.ntmps17
  go_wp2_with (first | ((with_reducible refine gate_dst (N := 2) rfl ?_); refine box_event ?hg (N := 2) ?hd (cs := #[.int .i64 0, .int .i64 0, .int .i64 0, .int .i64 0, .int .i64 0, .string (⟨#[]⟩ : ByteArray), .string (⟨#[]⟩ : ByteArray), .bool false]) (t := 36) ?hr ?_; (case hd => rfl); (case hg => rfl); (case hr => first | (go_simp; done) | (go_simp; rfl)); intro gr hg w1 hbox hb; have HB1 := Aside0.mk hb; have GR := Aside0.mk (show w.heap.size ≤ gr from by rw [hg]; exact Nat.le_refl _); have BK := Aside0.mk hbox; have x0 := pw_cell_below HB1.out HX0.out; have x1 := pw_cell_below HB1.out HX1.out; clear hb hbox hg) | (go_at_call 29; (with_reducible refine (first_calls k _ _ a b c0 dd l0 e _ HF.out).mono ?_); rintro e_ w2 ⟨rfl, hb⟩; have HB2 := Aside0.mk (below_step HB1.out hb); have BK2 := Aside0.mk (blk_below BK.out hb); clear hb x0 x1 BK HB1) | ((with_reducible refine gate_dst (N := 5) rfl ?_); refine box_event ?hg (N := 5) ?hd (cs := #[.int .i64 0, .int .i64 0, .int .i64 0, .int .i64 0, .int .i64 0]) (t := 23) ?hr ?_; (case hd => rfl); (case hg => rfl); (case hr => first | (go_simp; done) | (go_simp; rfl)); intro g5 hg w3 hbox hb; have HB3 := Aside0.mk (below_step HB2.out hb); have BK3 := Aside0.mk (blk_below BK2.out hb); have G5 := Aside0.mk (show gr < g5 from by rw [hg]; exact blk_lt BK2.out); have B5 := Aside0.mk hbox; have y0 := (blk_cell hbox 0).trans rfl; have k0 := blk_frozen hbox 0; have y1 := (blk_cell hbox 1).trans rfl; have k1 := blk_frozen hbox 1; have y2 := (blk_cell hbox 2).trans rfl; have k2 := blk_frozen hbox 2; have y3 := (blk_cell hbox 3).trans rfl; have k3 := blk_frozen hbox 3; have y4 := (blk_cell hbox 4).trans rfl; have k4 := blk_frozen hbox 4; have z0 : w3.cell? ⟨gr, 0, none⟩ = some (.int .i64 0) := (blk_cell BK3.out 0).trans rfl; have f0 := blk_frozen BK3.out 0; have z1 : w3.cell? ⟨gr, 1, none⟩ = some (.int .i64 0) := (blk_cell BK3.out 1).trans rfl; have f1 := blk_frozen BK3.out 1; have z2 : w3.cell? ⟨gr, 2, none⟩ = some (.int .i64 0) := (blk_cell BK3.out 2).trans rfl; have f2 := blk_frozen BK3.out 2; have z3 : w3.cell? ⟨gr, 3, none⟩ = some (.int .i64 0) := (blk_cell BK3.out 3).trans rfl; have f3 := blk_frozen BK3.out 3; have z4 : w3.cell? ⟨gr, 4, none⟩ = some (.int .i64 0) := (blk_cell BK3.out 4).trans rfl; have f4 := blk_frozen BK3.out 4; have z5 : w3.cell? ⟨gr, 5, none⟩ = some (.string (⟨#[]⟩ : ByteArray)) := (blk_cell BK3.out 5).trans rfl; have f5 := blk_frozen BK3.out 5; have z6 : w3.cell? ⟨gr, 6, none⟩ = some (.string (⟨#[]⟩ : ByteArray)) := (blk_cell BK3.out 6).trans rfl; have f6 := blk_frozen BK3.out 6; have z7 : w3.cell? ⟨gr, 7, none⟩ = some (.bool false) := (blk_cell BK3.out 7).trans rfl; have f7 := blk_frozen BK3.out 7; have ne1 : (gr = g5) = False := eq_false (Nat.ne_of_lt G5.out); have ne2 : (g5 = gr) = False := eq_false (Nat.ne_of_gt G5.out); have ne3 : (gr == g5) = false := beq_eq_false_iff_ne.mpr (Nat.ne_of_lt G5.out); have ne4 : (g5 == gr) = false := beq_eq_false_iff_ne.mpr (Nat.ne_of_gt G5.out); clear hb hbox hg HB2 BK2))
  refine bodyPost_ret (results_ctt rfl _ _ gr 36 #[.int .i64 0, .int .i64 0, .int .i64 0, .int .i64 0, .int .i64 0, .string (⟨#[]⟩ : ByteArray), .string (⟨#[]⟩ : ByteArray), .bool false] (0, 0) _ rfl (by refine blk_put (cs := #[.int .i64 0, .int .i64 0, .int .i64 0, .int .i64 0, .int .i64 0, .string (⟨#[]⟩ : ByteArray), .string (⟨#[]⟩ : ByteArray), .bool false]) ?_ 7 _ rfl; refine blk_put (cs := #[.int .i64 0, .int .i64 0, .int .i64 0, .int .i64 0, .int .i64 0, .string (⟨#[]⟩ : ByteArray), .string (⟨#[]⟩ : ByteArray), .bool false]) ?_ 6 _ rfl; refine blk_put (cs := #[.int .i64 0, .int .i64 0, .int .i64 0, .int .i64 0, .int .i64 0, .string (⟨#[]⟩ : ByteArray), .string (⟨#[]⟩ : ByteArray), .bool false]) ?_ 5 _ rfl; refine blk_put (cs := #[.int .i64 0, .int .i64 0, .int .i64 0, .int .i64 0, .int .i64 0, .string (⟨#[]⟩ : ByteArray), .string (⟨#[]⟩ : ByteArray), .bool false]) ?_ 4 _ rfl; refine blk_put (cs := #[.int .i64 0, .int .i64 0, .int .i64 0, .int .i64 0, .int .i64 0, .string (⟨#[]⟩ : ByteArray), .string (⟨#[]⟩ : ByteArray), .bool false]) ?_ 3 _ rfl; refine blk_put (cs := #[.int .i64 0, .int .i64 0, .int .i64 0, .int .i64 0, .int .i64 0, .string (⟨#[]⟩ : ByteArray), .string (⟨#[]⟩ : ByteArray), .bool false]) ?_ 2 _ rfl; refine blk_put (cs := #[.int .i64 0, .int .i64 0, .int .i64 0, .int .i64 0, .int .i64 0, .string (⟨#[]⟩ : ByteArray), .string (⟨#[]⟩ : ByteArray), .bool false]) ?_ 1 _ rfl; refine blk_put (cs := #[.int .i64 0, .int .i64 0, .int .i64 0, .int .i64 0, .int .i64 0, .string (⟨#[]⟩ : ByteArray), .string (⟨#[]⟩ : ByteArray), .bool false]) ?_ 0 _ rfl; refine setc_ne ?_ (Nat.ne_of_lt G5.out); refine setc_ne ?_ (Nat.ne_of_lt G5.out); refine setc_ne ?_ (Nat.ne_of_lt G5.out); refine setc_ne ?_ (Nat.ne_of_lt G5.out); refine setc_ne ?_ (Nat.ne_of_lt G5.out); exact BK3.out) Try.underlying36 rfl (by kernel_rfl)) rfl ?_
  exact ⟨rfl, by repeat (first | (with_reducible first | exact HB3.out | refine below_set ?_ GR.out | refine below_set ?_ (Nat.le_trans GR.out (Nat.le_of_lt G5.out))) | exact HB3.out)⟩
/-! ### Read: the loop -/
def szs : List S30 → Nat
  | [] => 0
  | c :: r => c.f1.size + szs r
theorem rd_fresh {w : World} {g : Nat} {a b c0 dd l0 : Int} (h : w.heap[g]? = some (.cells #[.int .i64 a, .int .i64 b, .int .i64 c0, .int .i64 dd, .int .i64 l0, .string (⟨#[]⟩ : ByteArray), .string (⟨#[]⟩ : ByteArray), .bool false, .bool false, .pointer none, .slice none 0 0, .bool false, .bool false] 62 (0, 0))) : Rd g (st0 a b c0 dd l0) w := ⟨_, _, Go.Proofs.YtbpnkgidlmjkkaaD.BAt.fresh h rfl rfl⟩
def RInv (w : World) (gr g : Nat) (tl : List S30) (r : HOut) (i : Nat) (s : HSt) (w' : World) : Prop :=
  Rd g s w' ∧ s.pal.size ≤ 768 ∧ 0 ≤ s.D ∧ s.D ≤ 16 ∧ head_loop (tl.drop i) s = some r ∧ s.data.size + szs (tl.drop i) ≤ 140737488355328 ∧ w'.heap[gr]? = some (.cells #[.int .i64 0, .int .i64 0, .int .i64 0, .int .i64 0, .int .i64 0, .string (⟨#[]⟩ : ByteArray), .string (⟨#[]⟩ : ByteArray), .bool false] 36 (0, 0)) ∧ Below w.heap.size w w'
def outV (r : HOut) : Value := .tuple #[.agg #[.int .i64 r.W, .int .i64 r.H, .int .i64 r.D, .int .i64 r.C, .int .i64 r.L, .string r.pal, .string r.tr, .bool r.ht], .string r.data, .int .i64 r.e]
theorem mea_read {i n : Nat} {x : Int} (h : i < n) (hx : x = ((i + 1 : Nat) : Int)) : n - (intOf (.int .i64 x)).toNat < n - (intOf (.int .i64 (i : Int))).toNat := by
  subst hx
  show n - (((i + 1 : Nat) : Int)).toNat < n - ((i : Int)).toNat
  omega
theorem rd8 {w : World} {g : Nat} {s : HSt} (h : Rd g s w) : w.cell? ⟨g, 0, none⟩ = some (.int .i64 s.W) ∧ w.cell? ⟨g, 1, none⟩ = some (.int .i64 s.H) ∧ w.cell? ⟨g, 2, none⟩ = some (.int .i64 s.D) ∧ w.cell? ⟨g, 3, none⟩ = some (.int .i64 s.C) ∧ w.cell? ⟨g, 4, none⟩ = some (.int .i64 s.L) ∧ w.cell? ⟨g, 5, none⟩ = some (.string s.pal) ∧ w.cell? ⟨g, 6, none⟩ = some (.string s.tr) ∧ w.cell? ⟨g, 7, none⟩ = some (.bool s.ht) := by
  obtain ⟨a0, a1, a2, a3, a4, a5, a6, a7, _⟩ := h.cell
  exact ⟨a0, a1, a2, a3, a4, a5, a6, a7⟩
theorem rd8_set {w1 w : World} {g : Nat} {s : HSt} (h : Rd g s w1) (_ : Below 0 w1 w) (he : w.heap[g]? = w1.heap[g]?) : w.cell? ⟨g, 0, none⟩ = some (.int .i64 s.W) ∧ w.cell? ⟨g, 1, none⟩ = some (.int .i64 s.H) ∧ w.cell? ⟨g, 2, none⟩ = some (.int .i64 s.D) ∧ w.cell? ⟨g, 3, none⟩ = some (.int .i64 s.C) ∧ w.cell? ⟨g, 4, none⟩ = some (.int .i64 s.L) ∧ w.cell? ⟨g, 5, none⟩ = some (.string s.pal) ∧ w.cell? ⟨g, 6, none⟩ = some (.string s.tr) ∧ w.cell? ⟨g, 7, none⟩ = some (.bool s.ht) := by
  obtain ⟨p, v, hb, _⟩ := h
  rw [← he] at hb
  exact ⟨(Lib.cell_of_heap hb 0).trans rfl, (Lib.cell_of_heap hb 1).trans rfl, (Lib.cell_of_heap hb 2).trans rfl, (Lib.cell_of_heap hb 3).trans rfl, (Lib.cell_of_heap hb 4).trans rfl, (Lib.cell_of_heap hb 5).trans rfl, (Lib.cell_of_heap hb 6).trans rfl, (Lib.cell_of_heap hb 7).trans rfl⟩
def head_Read.T14 : Bool × List (List Nat × List Nat) := (true, [([], []), ([0], [0]), ([1], [1]), ([2], [2]), ([], []), ([4], [4]), ([5], [5]), ([6], [6]), ([3, 7, 0, 1, 2, 3], [3]), ([7, 8, 0, 1, 2, 3, 4, 5, 6, 7, 8], [7]), ([9, 0, 1, 2, 3, 4, 5, 6, 7, 8, 9], [])])
def head_Read.B14 : List Nat := [0, 1, 3, 7, 0, 16, 48, 112, 255, 511, 1023]
theorem head_Read.tab14 : rtab .any (opsOf Try.f17 14) = head_Read.T14 := by kernel_rfl
theorem head_Read.bits14 : waitsOk head_Read.T14.2 head_Read.B14 = true := by kernel_rfl
theorem read_elem (tl : List S30) (hd : S30) (i : Nat) (x : S30) (h : i < tl.length) (hx : rd_T30 (hd :: tl) ((i + 1 : Nat) : Int) = x) : tl.drop i = x :: tl.drop (i + 1) := by
  subst hx
  unfold rd_T30
  rw [Int.toNat_natCast, List.getD_cons_succ, List.drop_eq_getElem_cons h, List.getD_eq_getElem?_getD, List.getElem?_eq_getElem h]
  rfl
theorem read_cells {w w' : World} {ad : Addr} {hd : S30} {tl : List S30} (hr : Kd.C k30 w (some ad) (tl.length + 1) (hd :: tl)) (i : Nat) (h : i < tl.length) (x : S30) (hx : rd_T30 (hd :: tl) ((i + 1 : Nat) : Int) = x) (hb : Below w.heap.size w w') : w'.cell? ⟨ad.block, ad.off + 2 + i * 2, none⟩ = some (.string x.f0) ∧ w'.cell? ⟨ad.block, ad.off + 2 + i * 2 + 1, none⟩ = some (.string x.f1) := by
  obtain ⟨ad', e, h0, h1⟩ := at_T30 hr ((i + 1 : Nat) : Int) (by omega) (by omega)
  cases e
  rw [hx, Int.toNat_natCast] at h0 h1
  have e : ad.add ((i + 1) * 2) = ⟨ad.block, ad.off + 2 + i * 2, none⟩ := by
    unfold Addr.add
    simp
    omega
  rw [e] at h0 h1
  exact ⟨pw_cell_below hb h0, pw_cell_below hb h1⟩
set_option maxHeartbeats 8000000 in
set_option maxRecDepth 100000 in
theorem read_ok (k : Nat) (ad : Addr) (c : Nat) (hd : S30) (tl : List S30) (a b c0 dd l0 : Int) (r : HOut) (w : World) (hr : Kd.C k30 w (some ad) (tl.length + 1) (hd :: tl)) (hc : tl.length + 1 ≤ c) (hc1 : ¬ c = 1) (hm : tl.length ≤ 4611686018427387904) (hD : 0 ≤ c0 ∧ c0 ≤ 16) (hs : szs tl ≤ 140737488355328) (h : firstV k hd.f0 hd.f1 = some (a, b, c0, dd, l0, 0)) (hl : head_loop tl (st0 a b c0 dd l0) = some r) :
    Calls Try.prog 17 #[.slice (some ad) (tl.length + 1) c] w fun e' w' => e' = .returned (outV r) ∧ Below w.heap.size w w' := by
  obtain ⟨ty, hty⟩ : ∃ x, hd.f0 = x := ⟨_, rfl⟩
  obtain ⟨d, hdd⟩ : ∃ x, hd.f1 = x := ⟨_, rfl⟩
  obtain ⟨ad', e_, hx0, hx1⟩ := at_T30 hr 0 (by omega) (by omega)
  cases e_
  rw [show rd_T30 (hd :: tl) 0 = hd from rfl, hty] at hx0
  rw [show rd_T30 (hd :: tl) 0 = hd from rfl, hdd] at hx1
  rw [hty, hdd] at h
  rw [show ((0 : Int)).toNat * 2 = 0 from rfl, Addr.add_zero'] at hx0 hx1
  obtain ⟨n, hn⟩ : ∃ n, tl.length + 1 = n := ⟨_, rfl⟩
  have HN := Aside0.mk hn
  have HR := Aside0.mk hr
  have HC := Aside0.mk (show n ≤ c by omega)
  have HM := Aside0.mk hm
  have HD := Aside0.mk hD
  have HS := Aside0.mk hs
  have HL := Aside0.mk hl
  rw [hn]
  have hn0 : 0 < n := by omega
  clear hr hc hm hD hs hl hty hdd hn
  have HX0 := Aside0.mk hx0
  have HX1 := Aside0.mk hx1
  have HF := Aside0.mk h
  have t0 : ((n : Int) == 0) = false := beq_eq_false_iff_ne.mpr (by omega)
  have t1 : ¬ n = 0 := by omega
  have t2 : decide (0 < (n : Int)) = true := decide_eq_true (by omega)
  have t3 : (0 < n) = True := eq_true hn0
  have t4 : (0 < (n : Int)) = True := eq_true (by omega)
  have z1 : 1 ≤ n := hn0
  have z2 : (1 : Int) ≤ (n : Int) := by omega
  have z3 : n ≤ c := HC.out
  have z6 : 1 ≤ c := by omega
  have z4 : ¬ c = 1 := hc1
  have z5 : (c == 1) = false := beq_eq_false_iff_ne.mpr z4
  clear hx0 hx1 h
  go_enter Try.func17, Try.ntmps17
  go_wp2_with (first | ((with_reducible refine gate_dst (N := 2) rfl ?_); refine box_event ?hg (N := 2) ?hd (cs := #[.int .i64 0, .int .i64 0, .int .i64 0, .int .i64 0, .int .i64 0, .string (⟨#[]⟩ : ByteArray), .string (⟨#[]⟩ : ByteArray), .bool false]) (t := 36) ?hr ?_; (case hd => rfl); (case hg => rfl); (case hr => first | (go_simp; done) | (go_simp; rfl)); intro gr hg w1 hbox hb; have HB1 := Aside0.mk hb; have GR := Aside0.mk (show w.heap.size ≤ gr from by rw [hg]; exact Nat.le_refl _); have BK := Aside0.mk hbox; have x0 := pw_cell_below HB1.out HX0.out; have x1 := pw_cell_below HB1.out HX1.out; clear hb hbox hg) | (go_at_call 29; (with_reducible refine (first_calls k _ _ a b c0 dd l0 0 _ HF.out).mono ?_); rintro e_ w2 ⟨rfl, hb⟩; have HB2 := Aside0.mk (below_step HB1.out hb); have BK2 := Aside0.mk (blk_below BK.out hb); clear hb x0 x1 BK HB1) | ((with_reducible refine gate_dst (N := 5) rfl ?_); refine box_event ?hg (N := 5) ?hd (cs := #[.int .i64 0, .int .i64 0, .int .i64 0, .int .i64 0, .int .i64 0]) (t := 23) ?hr ?_; (case hd => rfl); (case hg => rfl); (case hr => first | (go_simp; done) | (go_simp; rfl)); intro g5 hg w3 hbox hb; have HB3 := Aside0.mk (below_step HB2.out hb); have BK3 := Aside0.mk (blk_below BK2.out hb); have G5 := Aside0.mk (show gr < g5 from by rw [hg]; exact blk_lt BK2.out); have B5 := Aside0.mk hbox; have y0 := (blk_cell hbox 0).trans rfl; have k0 := blk_frozen hbox 0; have y1 := (blk_cell hbox 1).trans rfl; have k1 := blk_frozen hbox 1; have y2 := (blk_cell hbox 2).trans rfl; have k2 := blk_frozen hbox 2; have y3 := (blk_cell hbox 3).trans rfl; have k3 := blk_frozen hbox 3; have y4 := (blk_cell hbox 4).trans rfl; have k4 := blk_frozen hbox 4; clear hb hbox hg HB2 BK2))
  have HBs := Aside0.mk (show Below w.heap.size w (World.setCell (World.setCell (World.setCell (World.setCell (World.setCell w3 ⟨g5, 0, none⟩ (.int .i64 a)) ⟨g5, 1, none⟩ (.int .i64 b)) ⟨g5, 2, none⟩ (.int .i64 c0)) ⟨g5, 3, none⟩ (.int .i64 dd)) ⟨g5, 4, none⟩ (.int .i64 l0)) from by repeat (first | exact HB3.out | refine below_set ?_ (Nat.le_trans GR.out (Nat.le_of_lt G5.out))))
  have BKs := Aside0.mk (show (World.setCell (World.setCell (World.setCell (World.setCell (World.setCell w3 ⟨g5, 0, none⟩ (.int .i64 a)) ⟨g5, 1, none⟩ (.int .i64 b)) ⟨g5, 2, none⟩ (.int .i64 c0)) ⟨g5, 3, none⟩ (.int .i64 dd)) ⟨g5, 4, none⟩ (.int .i64 l0)).heap[gr]? = some (.cells #[.int .i64 0, .int .i64 0, .int .i64 0, .int .i64 0, .int .i64 0, .string (⟨#[]⟩ : ByteArray), .string (⟨#[]⟩ : ByteArray), .bool false] 36 (0, 0)) from by refine setc_ne ?_ (Nat.ne_of_lt G5.out); refine setc_ne ?_ (Nat.ne_of_lt G5.out); refine setc_ne ?_ (Nat.ne_of_lt G5.out); refine setc_ne ?_ (Nat.ne_of_lt G5.out); refine setc_ne ?_ (Nat.ne_of_lt G5.out); exact BK3.out)
  have hbox := blk_new (World.setCell (World.setCell (World.setCell (World.setCell (World.setCell w3 ⟨g5, 0, none⟩ (.int .i64 a)) ⟨g5, 1, none⟩ (.int .i64 b)) ⟨g5, 2, none⟩ (.int .i64 c0)) ⟨g5, 3, none⟩ (.int .i64 dd)) ⟨g5, 4, none⟩ (.int .i64 l0)) (.cells #[.int .i64 a, .int .i64 b, .int .i64 c0, .int .i64 dd, .int .i64 l0, .string (⟨#[]⟩ : ByteArray), .string (⟨#[]⟩ : ByteArray), .bool false, .bool false, .pointer none, .slice none 0 0, .bool false, .bool false] 62 (0, 0))
  have hb := below_alloc (Below.refl (World.setCell (World.setCell (World.setCell (World.setCell (World.setCell w3 ⟨g5, 0, none⟩ (.int .i64 a)) ⟨g5, 1, none⟩ (.int .i64 b)) ⟨g5, 2, none⟩ (.int .i64 c0)) ⟨g5, 3, none⟩ (.int .i64 dd)) ⟨g5, 4, none⟩ (.int .i64 l0)).heap.size (World.setCell (World.setCell (World.setCell (World.setCell (World.setCell w3 ⟨g5, 0, none⟩ (.int .i64 a)) ⟨g5, 1, none⟩ (.int .i64 b)) ⟨g5, 2, none⟩ (.int .i64 c0)) ⟨g5, 3, none⟩ (.int .i64 dd)) ⟨g5, 4, none⟩ (.int .i64 l0))) (.cells #[.int .i64 a, .int .i64 b, .int .i64 c0, .int .i64 dd, .int .i64 l0, .string (⟨#[]⟩ : ByteArray), .string (⟨#[]⟩ : ByteArray), .bool false, .bool false, .pointer none, .slice none 0 0, .bool false, .bool false] 62 (0, 0))
  have HGs : (World.setCell (World.setCell (World.setCell (World.setCell (World.setCell w3 ⟨g5, 0, none⟩ (.int .i64 a)) ⟨g5, 1, none⟩ (.int .i64 b)) ⟨g5, 2, none⟩ (.int .i64 c0)) ⟨g5, 3, none⟩ (.int .i64 dd)) ⟨g5, 4, none⟩ (.int .i64 l0)).heap.size = w3.heap.size := by simp [World.setCell]
  have GGs := blk_lt BKs.out
  rw [HGs] at hbox hb GGs
  have HB4 := Aside0.mk (below_step HBs.out (by rw [HGs]; exact hb))
  have BK4 := Aside0.mk (blk_below BKs.out (by rw [HGs]; exact hb))
  clear HBs BKs HGs hb HB3 BK3 B5 y0 y1 y2 y3 y4 k0 k1 k2 k3 k4 HX0 HX1 t0 t1 t2 t3 t4 z1 z2 z3 z4 z5 z6
  generalize (World.setCell (World.setCell (World.setCell (World.setCell (World.setCell w3 ⟨g5, 0, none⟩ (.int .i64 a)) ⟨g5, 1, none⟩ (.int .i64 b)) ⟨g5, 2, none⟩ (.int .i64 c0)) ⟨g5, 3, none⟩ (.int .i64 dd)) ⟨g5, 4, none⟩ (.int .i64 l0)).alloc (.cells #[.int .i64 a, .int .i64 b, .int .i64 c0, .int .i64 dd, .int .i64 l0, .string (⟨#[]⟩ : ByteArray), .string (⟨#[]⟩ : ByteArray), .bool false, .bool false, .pointer none, .slice none 0 0, .bool false, .bool false] 62 (0, 0)) = w4 at hbox HB4 BK4 ⊢
  generalize w3.heap.size = g at hbox GGs ⊢
  have RD4 := Aside0.mk (rd_fresh hbox)
  have GG := Aside0.mk GGs
  clear hbox GGs
  obtain ⟨M, hM⟩ : ∃ M, tl.length = M := ⟨_, rfl⟩
  have hn1 : n - 1 = M := by have := HN.out; omega
  have HN2 := Aside0.mk (show n = M + 1 by have := HN.out; omega)
  have HTM := Aside0.mk hM
  rw [hn1]
  clear hM hn1 hn0 HN
  go_loopw [34] (fun v w' => ∃ (i : Nat) (s : HSt), v = .int .i64 (i : Int) ∧ i ≤ M ∧ Aside0 (RInv w gr g tl r i s w')) (fun v _ => M - (intOf v).toNat)
  case atStart => exact ⟨0, st0 a b c0 dd l0, rfl, Nat.zero_le _, ⟨RD4.out, by show (0 : Nat) ≤ 768; decide, HD.out.1, HD.out.2, HL.out, by show 0 + szs tl ≤ _; rw [Nat.zero_add]; exact HS.out, BK4.out, HB4.out⟩⟩
  case round =>
    obtain ⟨i, s, rfl, hi, HI⟩ := hrel
    clear RD4 BK4 HB4
    by_cases hlt : i < M
    · have q0 : decide ((i : Int) < (M : Int)) = true := decide_eq_true (by omega)
      have q1 : decide (i < M) = true := decide_eq_true hlt
      have q2 := eq_true (show (0 : Int) ≤ (i : Int) by omega)
      have q3 := eq_true (show (i : Int) < (M : Int) by omega)
      obtain ⟨x, hx⟩ : ∃ x, rd_T30 (hd :: tl) ((i + 1 : Nat) : Int) = x := ⟨_, rfl⟩
      have HX := Aside0.mk (read_elem tl hd i x (by rw [HTM.out]; exact hlt) hx)
      obtain ⟨hx0, hx1⟩ := read_cells HR.out i (by rw [HTM.out]; exact hlt) x hx HI.out.2.2.2.2.2.2.2
      clear hx
      have HLp := HI.out.2.2.2.2.1
      rw [HX.out] at HLp
      unfold head_loop at HLp
      by_cases t : x.f0.toList = [73, 69, 78, 68]
      · rw [if_pos t] at HLp
        have e0 : (x.f0.toList == [73, 69, 78, 68]) = true := beq_iff_eq.mpr t
        clear t
        have hB : wrap64 (wrap64 ((n : Int) - 2) - (i : Int)) = ((tl.drop (i + 1)).length : Int) := by
          have h1 := HN2.out
          have h2 := HTM.out
          have h3 := HM.out
          rw [List.length_drop]
          unfold wrap64
          omega
        rw [← hB] at HLp
        obtain ⟨E, hE⟩ : ∃ E, endsV s x.f1 (wrap64 (wrap64 ((n : Int) - 2) - (i : Int))) = E := ⟨_, rfl⟩
        rw [hE] at HLp
        have HE := Aside0.mk hE
        clear hE hB
        by_cases tE : E = 0
        · rw [if_pos tE] at HLp
          obtain rfl := Option.some.inj HLp
          clear HLp
          have e1 : (E == 0) = true := beq_iff_eq.mpr tE
          have e2 : (E != 0) = false := bne_eq_false_iff_eq.mpr tE
          clear tE
          go_wp2_with (first | ((with_reducible refine gate_dst (N := 9) rfl ?_); refine box_event ?hg (N := 9) ?hd (cs := #[.string (⟨#[]⟩ : ByteArray), .string (⟨#[]⟩ : ByteArray)]) (t := 30) ?hr ?_; (case hd => rfl); (case hg => rfl); (case hr => first | (go_simp; done) | (go_simp; rfl)); intro gc hg w5 hbox hb; have GC := Aside0.mk (show wr.heap.size ≤ gc from by rw [hg]; exact Nat.le_refl _); have hbs := (hb.setCell (p := ⟨gc, 0, none⟩) GC.out (.string x.f0)).setCell (p := ⟨gc, 1, none⟩) GC.out (.string x.f1); have HRs := Aside0.mk (HI.out.1.below hbs); have HBs := Aside0.mk (below_step HI.out.2.2.2.2.2.2.2 hbs); have BKs := Aside0.mk (blk_below HI.out.2.2.2.2.2.2.1 hbs); have v0 : w5.cell? ⟨gc, 0, none⟩ = some (.string (⟨#[]⟩ : ByteArray)) := (blk_cell hbox 0).trans rfl; have v1 : w5.cell? ⟨gc, 1, none⟩ = some (.string (⟨#[]⟩ : ByteArray)) := (blk_cell hbox 1).trans rfl; have l0_ := blk_frozen hbox 0; have l1_ := blk_frozen hbox 1; clear hb hbs hbox hg hx0 hx1) | (go_at_call 30; (with_reducible refine (ends_calls g s x.f0 x.f1 _ _ HRs.out).mono ?_); rintro e w6 ⟨rfl, hr6, hb6⟩; rw [HE.out]; have HR6 := Aside0.mk hr6; have BK6 := Aside0.mk ((hb6.block gr GG.out).trans BKs.out); have HB6 := Aside0.mk (HBs.out.trans (hb6.mono (Nat.le_trans GR.out (Nat.le_of_lt GG.out)))); clear hr6 hb6 HRs HBs BKs v0 v1 l0_ l1_))
          have HRc := Aside0.mk HR6.out.drew
          have HBc := Aside0.mk (below_drew1 HB6.out)
          have BK := Aside0.mk (blk_drew BK6.out)
          refine start_ (n := 11) (S := fun w' => w'.cell? ⟨g, 0, none⟩ = some (.int .i64 s.W) ∧ w'.cell? ⟨g, 1, none⟩ = some (.int .i64 s.H) ∧ w'.cell? ⟨g, 2, none⟩ = some (.int .i64 s.D) ∧ w'.cell? ⟨g, 3, none⟩ = some (.int .i64 s.C) ∧ w'.cell? ⟨g, 4, none⟩ = some (.int .i64 s.L) ∧ w'.cell? ⟨g, 5, none⟩ = some (.string s.pal) ∧ w'.cell? ⟨g, 6, none⟩ = some (.string s.tr) ∧ w'.cell? ⟨g, 7, none⟩ = some (.bool s.ht)) (ds := []) #[false, false, false, false, false, false, false, false, false, false, false] (by kernel_rfl) rfl rfl (rd8 HRc.out) (fun hHeld => ?_)
          refine with_tabW head_Read.tab14 head_Read.bits14 (fun HT_ HW_ => ?_)
          clear HR6 HB6 BK6
          generalize World.drew _ = wa at HRc HBc BK hHeld ⊢
          refine pure_ (i := 0) (N := some 54) (v := ?_) (a' := ?_) #[true, false, false, false, false, false, false, false, false, false, false] rfl rfl (any_of HT_.out (by kernel_rfl)) (fun _ _ _ h => h) (Or.inl ⟨by rfl, ?_⟩) ?_ ?_
          rotate_left
          · intro w'
            go_simp
            with_reducible rfl
          rotate_left
          · simp only [Act.put, List.setIfInBounds_toArray, List.set_cons_zero, List.set_cons_succ, i64_w, i32_w]
            rfl
          refine pure_ (i := 1) (N := some 55) (v := ?_) (a' := ?_) #[true, true, false, false, false, false, false, false, false, false, false] rfl rfl (any_of HT_.out (by kernel_rfl)) (fun _ _ _ h => h) (Or.inl ⟨by rfl, ?_⟩) ?_ ?_
          rotate_left
          · intro w'
            go_simp
            with_reducible rfl
          rotate_left
          · simp only [Act.put, List.setIfInBounds_toArray, List.set_cons_zero, List.set_cons_succ, i64_w, i32_w]
            rfl
          refine pure_ (i := 2) (N := some 56) (v := ?_) (a' := ?_) #[true, true, true, false, false, false, false, false, false, false, false] rfl rfl (any_of HT_.out (by kernel_rfl)) (fun _ _ _ h => h) (Or.inl ⟨by rfl, ?_⟩) ?_ ?_
          rotate_left
          · intro w'
            go_simp
            with_reducible rfl
          rotate_left
          · simp only [Act.put, List.setIfInBounds_toArray, List.set_cons_zero, List.set_cons_succ, i64_w, i32_w]
            rfl
          refine pure_ (i := 4) (N := some 58) (v := ?_) (a' := ?_) #[true, true, true, false, true, false, false, false, false, false, false] rfl rfl (any_of HT_.out (by kernel_rfl)) (fun _ _ _ h => h) (Or.inl ⟨by rfl, ?_⟩) ?_ ?_
          rotate_left
          · intro w'
            go_simp
            with_reducible rfl
          rotate_left
          · simp only [Act.put, List.setIfInBounds_toArray, List.set_cons_zero, List.set_cons_succ, i64_w, i32_w]
            rfl
          refine pure_ (i := 5) (N := some 59) (v := ?_) (a' := ?_) #[true, true, true, false, true, true, false, false, false, false, false] rfl rfl (any_of HT_.out (by kernel_rfl)) (fun _ _ _ h => h) (Or.inl ⟨by rfl, ?_⟩) ?_ ?_
          rotate_left
          · intro w'
            go_simp
            with_reducible rfl
          rotate_left
          · simp only [Act.put, List.setIfInBounds_toArray, List.set_cons_zero, List.set_cons_succ, i64_w, i32_w]
            rfl
          refine pure_ (i := 6) (N := some 60) (v := ?_) (a' := ?_) #[true, true, true, false, true, true, true, false, false, false, false] rfl rfl (any_of HT_.out (by kernel_rfl)) (fun _ _ _ h => h) (Or.inl ⟨by rfl, ?_⟩) ?_ ?_
          rotate_left
          · intro w'
            go_simp
            with_reducible rfl
          rotate_left
          · simp only [Act.put, List.setIfInBounds_toArray, List.set_cons_zero, List.set_cons_succ, i64_w, i32_w]
            rfl
          refine take_ (i := 3) (N := some 57) (v := ?_) (a' := ?_) #[true, true, true, true, true, true, true, false, false, false, false] rfl rfl (take_ofW HT_.out HW_.out (by kernel_rfl)) (fun _ _ _ h => h) (Or.inl ⟨by rfl, ?_⟩) hHeld ?_ ?_
          rotate_left
          · rintro w' ⟨s0, s1, s2, s3, s4, s5, s6, s7⟩
            go_simp
            with_reducible rfl
          rotate_left
          · simp only [Act.put, List.setIfInBounds_toArray, List.set_cons_zero, List.set_cons_succ, i64_w, i32_w]
            rfl
          obtain ⟨p_, v_, HA⟩ := HRc.out
          have HA_ := Aside0.mk HA
          clear HA
          refine one_ (i := 7) (N := some 61) #[true, true, true, true, true, true, true, true, false, false, false] rfl rfl (one_of HT_.out (by kernel_rfl)) (by decide) (fun K hK => ?_)
          refine goes_ Try.func31 (by kernel_rfl) rfl #[.pointer (some ⟨g, 9, none⟩)] (by rfl) rfl rfl (by (try simp only [List.map_toArray, List.map_cons, List.map_nil]); first | done | rfl) ?_
          with_reducible refine (Go.Proofs.YtbpnkgidlmjkkaaD.String_at g g 9 62 (s.cells p_ v_) s.data _ HA_.out (Nat.le_of_lt HA_.out.lt)).mono ?_
          rintro e_ wn ⟨rfl, hA5, hbl, hsz, hk5, hoth⟩
          refine ⟨_, rfl, ?_⟩
          have HR5 := Aside0.mk (show Rd g s wn from ⟨_, _, hA5⟩)
          have HB5 := Aside0.mk (HBc.out.trans (hbl w.heap.size (Nat.le_trans GR.out (Nat.le_of_lt GG.out))))
          have BK5 := Aside0.mk ((hk5 gr GG.out).trans BK.out)
          clear hA5 hbl hsz hk5 hoth HA_ HRc HBc BK
          refine hK.out _ _ (rd8 HR5.out) (fun hHeld => ?_)
          clear hK K
          refine norm_ (a' := ?_) ?_ ?_
          rotate_left
          · show Act.put _ (some 61) _ = _
            simp only [Act.put, List.setIfInBounds_toArray, List.set_cons_zero, List.set_cons_succ, i64_w, i32_w]
            rfl
          refine one_ (i := 8) (N := none) #[true, true, true, true, true, true, true, true, true, false, false] rfl rfl (one_of HT_.out (by kernel_rfl)) (by decide) (fun K hK => ?_)
          have y0 := (blk_cell BK5.out 0).trans rfl; have k0 := blk_frozen BK5.out 0
          have y1 := (blk_cell BK5.out 1).trans rfl; have k1 := blk_frozen BK5.out 1
          have y2 := (blk_cell BK5.out 2).trans rfl; have k2 := blk_frozen BK5.out 2
          have y3 := (blk_cell BK5.out 3).trans rfl; have k3 := blk_frozen BK5.out 3
          have y4 := (blk_cell BK5.out 4).trans rfl; have k4 := blk_frozen BK5.out 4
          have y5 := (blk_cell BK5.out 5).trans rfl; have k5 := blk_frozen BK5.out 5
          have y6 := (blk_cell BK5.out 6).trans rfl; have k6 := blk_frozen BK5.out 6
          have y7 := (blk_cell BK5.out 7).trans rfl; have k7 := blk_frozen BK5.out 7
          refine skip_ (w1 := ?_) (by rfl) rfl ?_ ?_
          rotate_left
          · go_simp
            rfl
          have n0_ := Aside0.mk (show Below w.heap.size w (World.setCell (World.setCell (World.setCell (World.setCell (World.setCell (World.setCell (World.setCell (World.setCell wn ⟨gr, 0, none⟩ (.int .i64 s.W)) ⟨gr, 1, none⟩ (.int .i64 s.H)) ⟨gr, 2, none⟩ (.int .i64 s.D)) ⟨gr, 3, none⟩ (.int .i64 s.C)) ⟨gr, 4, none⟩ (.int .i64 s.L)) ⟨gr, 5, none⟩ (.string s.pal)) ⟨gr, 6, none⟩ (.string s.tr)) ⟨gr, 7, none⟩ (.bool s.ht)) from by repeat (with_reducible first | exact HB5.out | refine below_set ?_ GR.out))
          have n1_ : Aside0 (((World.setCell (World.setCell (World.setCell (World.setCell (World.setCell (World.setCell (World.setCell (World.setCell wn ⟨gr, 0, none⟩ (.int .i64 s.W)) ⟨gr, 1, none⟩ (.int .i64 s.H)) ⟨gr, 2, none⟩ (.int .i64 s.D)) ⟨gr, 3, none⟩ (.int .i64 s.C)) ⟨gr, 4, none⟩ (.int .i64 s.L)) ⟨gr, 5, none⟩ (.string s.pal)) ⟨gr, 6, none⟩ (.string s.tr)) ⟨gr, 7, none⟩ (.bool s.ht))).heap[gr]? = some (.cells #[.int .i64 s.W, .int .i64 s.H, .int .i64 s.D, .int .i64 s.C, .int .i64 s.L, .string s.pal, .string s.tr, .bool s.ht] 36 (0, 0))) := ⟨by refine blk_put (cs := #[.int .i64 s.W, .int .i64 s.H, .int .i64 s.D, .int .i64 s.C, .int .i64 s.L, .string s.pal, .string s.tr, .bool false]) ?_ 7 _ rfl; refine blk_put (cs := #[.int .i64 s.W, .int .i64 s.H, .int .i64 s.D, .int .i64 s.C, .int .i64 s.L, .string s.pal, .string (⟨#[]⟩ : ByteArray), .bool false]) ?_ 6 _ rfl; refine blk_put (cs := #[.int .i64 s.W, .int .i64 s.H, .int .i64 s.D, .int .i64 s.C, .int .i64 s.L, .string (⟨#[]⟩ : ByteArray), .string (⟨#[]⟩ : ByteArray), .bool false]) ?_ 5 _ rfl; refine blk_put (cs := #[.int .i64 s.W, .int .i64 s.H, .int .i64 s.D, .int .i64 s.C, .int .i64 0, .string (⟨#[]⟩ : ByteArray), .string (⟨#[]⟩ : ByteArray), .bool false]) ?_ 4 _ rfl; refine blk_put (cs := #[.int .i64 s.W, .int .i64 s.H, .int .i64 s.D, .int .i64 0, .int .i64 0, .string (⟨#[]⟩ : ByteArray), .string (⟨#[]⟩ : ByteArray), .bool false]) ?_ 3 _ rfl; refine blk_put (cs := #[.int .i64 s.W, .int .i64 s.H, .int .i64 0, .int .i64 0, .int .i64 0, .string (⟨#[]⟩ : ByteArray), .string (⟨#[]⟩ : ByteArray), .bool false]) ?_ 2 _ rfl; refine blk_put (cs := #[.int .i64 s.W, .int .i64 0, .int .i64 0, .int .i64 0, .int .i64 0, .string (⟨#[]⟩ : ByteArray), .string (⟨#[]⟩ : ByteArray), .bool false]) ?_ 1 _ rfl; refine blk_put (cs := #[.int .i64 0, .int .i64 0, .int .i64 0, .int .i64 0, .int .i64 0, .string (⟨#[]⟩ : ByteArray), .string (⟨#[]⟩ : ByteArray), .bool false]) ?_ 0 _ rfl; exact BK5.out⟩
          have n2_ := Aside0.mk (rd8_set HR5.out (show Below 0 wn (World.setCell (World.setCell (World.setCell (World.setCell (World.setCell (World.setCell (World.setCell (World.setCell wn ⟨gr, 0, none⟩ (.int .i64 s.W)) ⟨gr, 1, none⟩ (.int .i64 s.H)) ⟨gr, 2, none⟩ (.int .i64 s.D)) ⟨gr, 3, none⟩ (.int .i64 s.C)) ⟨gr, 4, none⟩ (.int .i64 s.L)) ⟨gr, 5, none⟩ (.string s.pal)) ⟨gr, 6, none⟩ (.string s.tr)) ⟨gr, 7, none⟩ (.bool s.ht)) from by repeat (with_reducible first | exact Below.refl _ _ | refine Below.setCell ?_ (Nat.zero_le _) _)) (show ((World.setCell (World.setCell (World.setCell (World.setCell (World.setCell (World.setCell (World.setCell (World.setCell wn ⟨gr, 0, none⟩ (.int .i64 s.W)) ⟨gr, 1, none⟩ (.int .i64 s.H)) ⟨gr, 2, none⟩ (.int .i64 s.D)) ⟨gr, 3, none⟩ (.int .i64 s.C)) ⟨gr, 4, none⟩ (.int .i64 s.L)) ⟨gr, 5, none⟩ (.string s.pal)) ⟨gr, 6, none⟩ (.string s.tr)) ⟨gr, 7, none⟩ (.bool s.ht))).heap[g]? = wn.heap[g]? from by repeat (with_reducible first | rfl | refine (Below.heap_setCell _ _ _ _ (Nat.ne_of_gt GG.out)).trans ?_)))
          refine hK.out _ _ n2_.out (fun hHeld => ?_)
          clear hK K
          clear HB5 BK5 HR5 y0 k0 y1 k1 y2 k2 y3 k3 y4 k4 y5 k5 y6 k6 y7 k7
          generalize (World.setCell (World.setCell (World.setCell (World.setCell (World.setCell (World.setCell (World.setCell (World.setCell wn ⟨gr, 0, none⟩ (.int .i64 s.W)) ⟨gr, 1, none⟩ (.int .i64 s.H)) ⟨gr, 2, none⟩ (.int .i64 s.D)) ⟨gr, 3, none⟩ (.int .i64 s.C)) ⟨gr, 4, none⟩ (.int .i64 s.L)) ⟨gr, 5, none⟩ (.string s.pal)) ⟨gr, 6, none⟩ (.string s.tr)) ⟨gr, 7, none⟩ (.bool s.ht)) = wb at n0_ n1_ n2_ hHeld ⊢
          refine pure_ (i := 9) (N := some 3) (v := ?_) (a' := ?_) #[true, true, true, true, true, true, true, true, true, true, false] rfl rfl (any_of HT_.out (by kernel_rfl)) (fun _ _ _ h => h) (Or.inl ⟨by rfl, ?_⟩) ?_ ?_
          rotate_left
          · intro w'
            go_simp
            with_reducible rfl
          rotate_left
          · simp only [Act.put, List.setIfInBounds_toArray, List.set_cons_zero, List.set_cons_succ, i64_w, i32_w]
            rfl
          refine pure_ (i := 10) (N := some 4) (v := ?_) (a' := ?_) #[true, true, true, true, true, true, true, true, true, true, true] rfl rfl (any_of HT_.out (by kernel_rfl)) (fun _ _ _ h => h) (Or.inl ⟨by rfl, ?_⟩) ?_ ?_
          rotate_left
          · intro w'
            go_simp
            with_reducible rfl
          rotate_left
          · simp only [Act.put, List.setIfInBounds_toArray, List.set_cons_zero, List.set_cons_succ, i64_w, i32_w]
            rfl
          refine done_ (done_of HT_.out (by kernel_rfl)) ?_
          try go_wp2
          refine bodyPost_ret (results_ctt rfl _ _ gr 36 #[.int .i64 s.W, .int .i64 s.H, .int .i64 s.D, .int .i64 s.C, .int .i64 s.L, .string s.pal, .string s.tr, .bool s.ht] (0, 0) _ rfl (by exact n1_.out) Try.underlying36 rfl (by kernel_rfl)) rfl ?_
          exact ⟨rfl, n0_.out⟩
        · rw [if_neg tE] at HLp
          obtain rfl := Option.some.inj HLp
          clear HLp
          have e1 : (E == 0) = false := beq_eq_false_iff_ne.mpr tE
          have e2 : (E != 0) = true := bne_iff_ne.mpr tE
          clear tE
          · go_wp2_with (first | ((with_reducible refine gate_dst (N := 9) rfl ?_); refine box_event ?hg (N := 9) ?hd (cs := #[.string (⟨#[]⟩ : ByteArray), .string (⟨#[]⟩ : ByteArray)]) (t := 30) ?hr ?_; (case hd => rfl); (case hg => rfl); (case hr => first | (go_simp; done) | (go_simp; rfl)); intro gc hg w5 hbox hb; have GC := Aside0.mk (show wr.heap.size ≤ gc from by rw [hg]; exact Nat.le_refl _); have hbs := (hb.setCell (p := ⟨gc, 0, none⟩) GC.out (.string x.f0)).setCell (p := ⟨gc, 1, none⟩) GC.out (.string x.f1); have HRs := Aside0.mk (HI.out.1.below hbs); have HBs := Aside0.mk (below_step HI.out.2.2.2.2.2.2.2 hbs); have BKs := Aside0.mk (blk_below HI.out.2.2.2.2.2.2.1 hbs); have v0 : w5.cell? ⟨gc, 0, none⟩ = some (.string (⟨#[]⟩ : ByteArray)) := (blk_cell hbox 0).trans rfl; have v1 : w5.cell? ⟨gc, 1, none⟩ = some (.string (⟨#[]⟩ : ByteArray)) := (blk_cell hbox 1).trans rfl; have l0_ := blk_frozen hbox 0; have l1_ := blk_frozen hbox 1; clear hb hbs hbox hg hx0 hx1) | (go_at_call 30; (with_reducible refine (ends_calls g s x.f0 x.f1 _ _ HRs.out).mono ?_); rintro e w6 ⟨rfl, hr6, hb6⟩; rw [HE.out]; have HR6 := Aside0.mk hr6; have BK6 := Aside0.mk ((hb6.block gr GG.out).trans BKs.out); have HB6 := Aside0.mk (HBs.out.trans (hb6.mono (Nat.le_trans GR.out (Nat.le_of_lt GG.out)))); clear hr6 hb6 HRs HBs BKs v0 v1 l0_ l1_; have z0 : w6.cell? ⟨gr, 0, none⟩ = some (.int .i64 0) := (blk_cell BK6.out 0).trans rfl; have f0 := blk_frozen BK6.out 0; have z1 : w6.cell? ⟨gr, 1, none⟩ = some (.int .i64 0) := (blk_cell BK6.out 1).trans rfl; have f1 := blk_frozen BK6.out 1; have z2 : w6.cell? ⟨gr, 2, none⟩ = some (.int .i64 0) := (blk_cell BK6.out 2).trans rfl; have f2 := blk_frozen BK6.out 2; have z3 : w6.cell? ⟨gr, 3, none⟩ = some (.int .i64 0) := (blk_cell BK6.out 3).trans rfl; have f3 := blk_frozen BK6.out 3; have z4 : w6.cell? ⟨gr, 4, none⟩ = some (.int .i64 0) := (blk_cell BK6.out 4).trans rfl; have f4 := blk_frozen BK6.out 4; have z5 : w6.cell? ⟨gr, 5, none⟩ = some (.string (⟨#[]⟩ : ByteArray)) := (blk_cell BK6.out 5).trans rfl; have f5 := blk_frozen BK6.out 5; have z6 : w6.cell? ⟨gr, 6, none⟩ = some (.string (⟨#[]⟩ : ByteArray)) := (blk_cell BK6.out 6).trans rfl; have f6 := blk_frozen BK6.out 6; have z7 : w6.cell? ⟨gr, 7, none⟩ = some (.bool false) := (blk_cell BK6.out 7).trans rfl; have f7 := blk_frozen BK6.out 7))
            refine bodyPost_ret (results_ctt rfl _ _ gr 36 #[.int .i64 0, .int .i64 0, .int .i64 0, .int .i64 0, .int .i64 0, .string (⟨#[]⟩ : ByteArray), .string (⟨#[]⟩ : ByteArray), .bool false] (0, 0) _ rfl (by refine blk_put (cs := #[.int .i64 0, .int .i64 0, .int .i64 0, .int .i64 0, .int .i64 0, .string (⟨#[]⟩ : ByteArray), .string (⟨#[]⟩ : ByteArray), .bool false]) ?_ 7 _ rfl; refine blk_put (cs := #[.int .i64 0, .int .i64 0, .int .i64 0, .int .i64 0, .int .i64 0, .string (⟨#[]⟩ : ByteArray), .string (⟨#[]⟩ : ByteArray), .bool false]) ?_ 6 _ rfl; refine blk_put (cs := #[.int .i64 0, .int .i64 0, .int .i64 0, .int .i64 0, .int .i64 0, .string (⟨#[]⟩ : ByteArray), .string (⟨#[]⟩ : ByteArray), .bool false]) ?_ 5 _ rfl; refine blk_put (cs := #[.int .i64 0, .int .i64 0, .int .i64 0, .int .i64 0, .int .i64 0, .string (⟨#[]⟩ : ByteArray), .string (⟨#[]⟩ : ByteArray), .bool false]) ?_ 4 _ rfl; refine blk_put (cs := #[.int .i64 0, .int .i64 0, .int .i64 0, .int .i64 0, .int .i64 0, .string (⟨#[]⟩ : ByteArray), .string (⟨#[]⟩ : ByteArray), .bool false]) ?_ 3 _ rfl; refine blk_put (cs := #[.int .i64 0, .int .i64 0, .int .i64 0, .int .i64 0, .int .i64 0, .string (⟨#[]⟩ : ByteArray), .string (⟨#[]⟩ : ByteArray), .bool false]) ?_ 2 _ rfl; refine blk_put (cs := #[.int .i64 0, .int .i64 0, .int .i64 0, .int .i64 0, .int .i64 0, .string (⟨#[]⟩ : ByteArray), .string (⟨#[]⟩ : ByteArray), .bool false]) ?_ 1 _ rfl; refine blk_put (cs := #[.int .i64 0, .int .i64 0, .int .i64 0, .int .i64 0, .int .i64 0, .string (⟨#[]⟩ : ByteArray), .string (⟨#[]⟩ : ByteArray), .bool false]) ?_ 0 _ rfl; exact BK6.out) Try.underlying36 rfl (by kernel_rfl)) rfl ?_
            exact ⟨rfl, by repeat (first | (with_reducible first | exact HB6.out | refine below_set ?_ GR.out) | exact HB6.out)⟩
      · rw [if_neg t] at HLp
        have e0 : (x.f0.toList == [73, 69, 78, 68]) = false := beq_eq_false_iff_ne.mpr t
        clear t
        obtain ⟨cr, hcr, HLp⟩ := Option.bind_eq_some_iff.1 HLp
        have HCR := Aside0.mk hcr
        obtain ⟨E, hE⟩ : ∃ E, (takesV s cr x.f0 x.f1).1 = E := ⟨_, rfl⟩
        rw [hE] at HLp
        have HE := Aside0.mk hE
        have HSZ0 := HI.out.2.2.2.2.2.1
        rw [HX.out, szs] at HSZ0
        have HSZ1 := Aside0.mk HSZ0
        have HSZ := Aside0.mk (show x.f1.size ≤ 140737488355328 ∧ s.data.size + x.f1.size ≤ 140737488355328 from ⟨by omega, by omega⟩)
        have HPA := Aside0.mk (show s.pal.size ≤ 768 from HI.out.2.1)
        have HD0 := Aside0.mk (show 0 ≤ s.D ∧ s.D ≤ 16 from ⟨HI.out.2.2.1, HI.out.2.2.2.1⟩)
        clear hE hcr HSZ0
        by_cases tE : E = 0
        · rw [if_pos tE] at HLp
          have HLq := Aside0.mk HLp
          clear HLp
          have e1 : (E == 0) = true := beq_iff_eq.mpr tE
          have e2 : (E != 0) = false := bne_eq_false_iff_eq.mpr tE
          clear tE
          have HI1 := Aside0.mk (show wrap64 ((i : Int) + 1) = ((i + 1 : Nat) : Int) by have := HM.out; have := HTM.out; unfold wrap64; omega)
          have HRW := Aside0.mk (takesV_keeps s cr x.f0 x.f1 HPA.out)
          go_wp2_with (first | ((with_reducible refine gate_dst (N := 9) rfl ?_); refine box_event ?hg (N := 9) ?hd (cs := #[.string (⟨#[]⟩ : ByteArray), .string (⟨#[]⟩ : ByteArray)]) (t := 30) ?hr ?_; (case hd => rfl); (case hg => rfl); (case hr => first | (go_simp; done) | (go_simp; rfl)); intro gc hg w5 hbox hb; have GC := Aside0.mk (show wr.heap.size ≤ gc from by rw [hg]; exact Nat.le_refl _); have hbs := (hb.setCell (p := ⟨gc, 0, none⟩) GC.out (.string x.f0)).setCell (p := ⟨gc, 1, none⟩) GC.out (.string x.f1); have HRs := Aside0.mk (HI.out.1.below hbs); have HBs := Aside0.mk (below_step HI.out.2.2.2.2.2.2.2 hbs); have BKs := Aside0.mk (blk_below HI.out.2.2.2.2.2.2.1 hbs); have v0 : w5.cell? ⟨gc, 0, none⟩ = some (.string (⟨#[]⟩ : ByteArray)) := (blk_cell hbox 0).trans rfl; have v1 : w5.cell? ⟨gc, 1, none⟩ = some (.string (⟨#[]⟩ : ByteArray)) := (blk_cell hbox 1).trans rfl; have l0_ := blk_frozen hbox 0; have l1_ := blk_frozen hbox 1; clear hb hbs hbox hg hx0 hx1) | (go_at_call 32; (with_reducible refine (takes_calls g s x.f0 x.f1 cr _ HRs.out HCR.out HD0.out.1 HD0.out.2 HSZ.out.1 HPA.out HSZ.out.2).mono ?_); rintro e w6 ⟨rfl, hr6, hb6⟩; rw [HE.out]; have HR6 := Aside0.mk hr6; have BK6 := Aside0.mk ((hb6.block gr GG.out).trans BKs.out); have HB6 := Aside0.mk (HBs.out.trans (hb6.mono (Nat.le_trans GR.out (Nat.le_of_lt GG.out)))); clear hr6 hb6 HRs HBs BKs v0 v1 l0_ l1_))
          go_roundw
          case rel => exact ⟨i + 1, _, by first | rfl | (rw [HI1.out]) | go_num, hlt, ⟨HR6.out, HRW.out.2.2.2, by rw [HRW.out.1]; exact HD0.out.1, by rw [HRW.out.1]; exact HD0.out.2, HLq.out, by have := HRW.out.2.2.1; have := HSZ1.out; omega, BK6.out, HB6.out⟩⟩
          case measure => exact mea_read hlt HI1.out
        · rw [if_neg tE] at HLp
          obtain rfl := Option.some.inj HLp
          clear HLp
          have e1 : (E == 0) = false := beq_eq_false_iff_ne.mpr tE
          have e2 : (E != 0) = true := bne_iff_ne.mpr tE
          clear tE
          · go_wp2_with (first | ((with_reducible refine gate_dst (N := 9) rfl ?_); refine box_event ?hg (N := 9) ?hd (cs := #[.string (⟨#[]⟩ : ByteArray), .string (⟨#[]⟩ : ByteArray)]) (t := 30) ?hr ?_; (case hd => rfl); (case hg => rfl); (case hr => first | (go_simp; done) | (go_simp; rfl)); intro gc hg w5 hbox hb; have GC := Aside0.mk (show wr.heap.size ≤ gc from by rw [hg]; exact Nat.le_refl _); have hbs := (hb.setCell (p := ⟨gc, 0, none⟩) GC.out (.string x.f0)).setCell (p := ⟨gc, 1, none⟩) GC.out (.string x.f1); have HRs := Aside0.mk (HI.out.1.below hbs); have HBs := Aside0.mk (below_step HI.out.2.2.2.2.2.2.2 hbs); have BKs := Aside0.mk (blk_below HI.out.2.2.2.2.2.2.1 hbs); have v0 : w5.cell? ⟨gc, 0, none⟩ = some (.string (⟨#[]⟩ : ByteArray)) := (blk_cell hbox 0).trans rfl; have v1 : w5.cell? ⟨gc, 1, none⟩ = some (.string (⟨#[]⟩ : ByteArray)) := (blk_cell hbox 1).trans rfl; have l0_ := blk_frozen hbox 0; have l1_ := blk_frozen hbox 1; clear hb hbs hbox hg hx0 hx1) | (go_at_call 32; (with_reducible refine (takes_calls g s x.f0 x.f1 cr _ HRs.out HCR.out HD0.out.1 HD0.out.2 HSZ.out.1 HPA.out HSZ.out.2).mono ?_); rintro e w6 ⟨rfl, hr6, hb6⟩; rw [HE.out]; have HR6 := Aside0.mk hr6; have BK6 := Aside0.mk ((hb6.block gr GG.out).trans BKs.out); have HB6 := Aside0.mk (HBs.out.trans (hb6.mono (Nat.le_trans GR.out (Nat.le_of_lt GG.out)))); clear hr6 hb6 HRs HBs BKs v0 v1 l0_ l1_; have z0 : w6.cell? ⟨gr, 0, none⟩ = some (.int .i64 0) := (blk_cell BK6.out 0).trans rfl; have f0 := blk_frozen BK6.out 0; have z1 : w6.cell? ⟨gr, 1, none⟩ = some (.int .i64 0) := (blk_cell BK6.out 1).trans rfl; have f1 := blk_frozen BK6.out 1; have z2 : w6.cell? ⟨gr, 2, none⟩ = some (.int .i64 0) := (blk_cell BK6.out 2).trans rfl; have f2 := blk_frozen BK6.out 2; have z3 : w6.cell? ⟨gr, 3, none⟩ = some (.int .i64 0) := (blk_cell BK6.out 3).trans rfl; have f3 := blk_frozen BK6.out 3; have z4 : w6.cell? ⟨gr, 4, none⟩ = some (.int .i64 0) := (blk_cell BK6.out 4).trans rfl; have f4 := blk_frozen BK6.out 4; have z5 : w6.cell? ⟨gr, 5, none⟩ = some (.string (⟨#[]⟩ : ByteArray)) := (blk_cell BK6.out 5).trans rfl; have f5 := blk_frozen BK6.out 5; have z6 : w6.cell? ⟨gr, 6, none⟩ = some (.string (⟨#[]⟩ : ByteArray)) := (blk_cell BK6.out 6).trans rfl; have f6 := blk_frozen BK6.out 6; have z7 : w6.cell? ⟨gr, 7, none⟩ = some (.bool false) := (blk_cell BK6.out 7).trans rfl; have f7 := blk_frozen BK6.out 7))
            refine bodyPost_ret (results_ctt rfl _ _ gr 36 #[.int .i64 0, .int .i64 0, .int .i64 0, .int .i64 0, .int .i64 0, .string (⟨#[]⟩ : ByteArray), .string (⟨#[]⟩ : ByteArray), .bool false] (0, 0) _ rfl (by refine blk_put (cs := #[.int .i64 0, .int .i64 0, .int .i64 0, .int .i64 0, .int .i64 0, .string (⟨#[]⟩ : ByteArray), .string (⟨#[]⟩ : ByteArray), .bool false]) ?_ 7 _ rfl; refine blk_put (cs := #[.int .i64 0, .int .i64 0, .int .i64 0, .int .i64 0, .int .i64 0, .string (⟨#[]⟩ : ByteArray), .string (⟨#[]⟩ : ByteArray), .bool false]) ?_ 6 _ rfl; refine blk_put (cs := #[.int .i64 0, .int .i64 0, .int .i64 0, .int .i64 0, .int .i64 0, .string (⟨#[]⟩ : ByteArray), .string (⟨#[]⟩ : ByteArray), .bool false]) ?_ 5 _ rfl; refine blk_put (cs := #[.int .i64 0, .int .i64 0, .int .i64 0, .int .i64 0, .int .i64 0, .string (⟨#[]⟩ : ByteArray), .string (⟨#[]⟩ : ByteArray), .bool false]) ?_ 4 _ rfl; refine blk_put (cs := #[.int .i64 0, .int .i64 0, .int .i64 0, .int .i64 0, .int .i64 0, .string (⟨#[]⟩ : ByteArray), .string (⟨#[]⟩ : ByteArray), .bool false]) ?_ 3 _ rfl; refine blk_put (cs := #[.int .i64 0, .int .i64 0, .int .i64 0, .int .i64 0, .int .i64 0, .string (⟨#[]⟩ : ByteArray), .string (⟨#[]⟩ : ByteArray), .bool false]) ?_ 2 _ rfl; refine blk_put (cs := #[.int .i64 0, .int .i64 0, .int .i64 0, .int .i64 0, .int .i64 0, .string (⟨#[]⟩ : ByteArray), .string (⟨#[]⟩ : ByteArray), .bool false]) ?_ 1 _ rfl; refine blk_put (cs := #[.int .i64 0, .int .i64 0, .int .i64 0, .int .i64 0, .int .i64 0, .string (⟨#[]⟩ : ByteArray), .string (⟨#[]⟩ : ByteArray), .bool false]) ?_ 0 _ rfl; exact BK6.out) Try.underlying36 rfl (by kernel_rfl)) rfl ?_
            exact ⟨rfl, by repeat (with_reducible first | exact HB6.out | refine below_set ?_ GR.out)⟩
    · obtain rfl : i = M := by omega
      have q0 : decide ((i : Int) < (i : Int)) = false := decide_eq_false (by omega)
      have HLp := HI.out.2.2.2.2.1
      rw [List.drop_of_length_le (Nat.le_of_eq HTM.out), head_loop] at HLp
      obtain rfl := Option.some.inj HLp
      clear HLp
      have BK6 := Aside0.mk HI.out.2.2.2.2.2.2.1
      have HB6 := Aside0.mk HI.out.2.2.2.2.2.2.2
      have z0 : wr.cell? ⟨gr, 0, none⟩ = some (.int .i64 0) := (blk_cell BK6.out 0).trans rfl; have f0 := blk_frozen BK6.out 0; have z1 : wr.cell? ⟨gr, 1, none⟩ = some (.int .i64 0) := (blk_cell BK6.out 1).trans rfl; have f1 := blk_frozen BK6.out 1; have z2 : wr.cell? ⟨gr, 2, none⟩ = some (.int .i64 0) := (blk_cell BK6.out 2).trans rfl; have f2 := blk_frozen BK6.out 2; have z3 : wr.cell? ⟨gr, 3, none⟩ = some (.int .i64 0) := (blk_cell BK6.out 3).trans rfl; have f3 := blk_frozen BK6.out 3; have z4 : wr.cell? ⟨gr, 4, none⟩ = some (.int .i64 0) := (blk_cell BK6.out 4).trans rfl; have f4 := blk_frozen BK6.out 4; have z5 : wr.cell? ⟨gr, 5, none⟩ = some (.string (⟨#[]⟩ : ByteArray)) := (blk_cell BK6.out 5).trans rfl; have f5 := blk_frozen BK6.out 5; have z6 : wr.cell? ⟨gr, 6, none⟩ = some (.string (⟨#[]⟩ : ByteArray)) := (blk_cell BK6.out 6).trans rfl; have f6 := blk_frozen BK6.out 6; have z7 : wr.cell? ⟨gr, 7, none⟩ = some (.bool false) := (blk_cell BK6.out 7).trans rfl; have f7 := blk_frozen BK6.out 7
      go_wp2
      refine bodyPost_ret (results_ctt rfl _ _ gr 36 #[.int .i64 0, .int .i64 0, .int .i64 0, .int .i64 0, .int .i64 0, .string (⟨#[]⟩ : ByteArray), .string (⟨#[]⟩ : ByteArray), .bool false] (0, 0) _ rfl (by refine blk_put (cs := #[.int .i64 0, .int .i64 0, .int .i64 0, .int .i64 0, .int .i64 0, .string (⟨#[]⟩ : ByteArray), .string (⟨#[]⟩ : ByteArray), .bool false]) ?_ 7 _ rfl; refine blk_put (cs := #[.int .i64 0, .int .i64 0, .int .i64 0, .int .i64 0, .int .i64 0, .string (⟨#[]⟩ : ByteArray), .string (⟨#[]⟩ : ByteArray), .bool false]) ?_ 6 _ rfl; refine blk_put (cs := #[.int .i64 0, .int .i64 0, .int .i64 0, .int .i64 0, .int .i64 0, .string (⟨#[]⟩ : ByteArray), .string (⟨#[]⟩ : ByteArray), .bool false]) ?_ 5 _ rfl; refine blk_put (cs := #[.int .i64 0, .int .i64 0, .int .i64 0, .int .i64 0, .int .i64 0, .string (⟨#[]⟩ : ByteArray), .string (⟨#[]⟩ : ByteArray), .bool false]) ?_ 4 _ rfl; refine blk_put (cs := #[.int .i64 0, .int .i64 0, .int .i64 0, .int .i64 0, .int .i64 0, .string (⟨#[]⟩ : ByteArray), .string (⟨#[]⟩ : ByteArray), .bool false]) ?_ 3 _ rfl; refine blk_put (cs := #[.int .i64 0, .int .i64 0, .int .i64 0, .int .i64 0, .int .i64 0, .string (⟨#[]⟩ : ByteArray), .string (⟨#[]⟩ : ByteArray), .bool false]) ?_ 2 _ rfl; refine blk_put (cs := #[.int .i64 0, .int .i64 0, .int .i64 0, .int .i64 0, .int .i64 0, .string (⟨#[]⟩ : ByteArray), .string (⟨#[]⟩ : ByteArray), .bool false]) ?_ 1 _ rfl; refine blk_put (cs := #[.int .i64 0, .int .i64 0, .int .i64 0, .int .i64 0, .int .i64 0, .string (⟨#[]⟩ : ByteArray), .string (⟨#[]⟩ : ByteArray), .bool false]) ?_ 0 _ rfl; exact BK6.out) Try.underlying36 rfl (by kernel_rfl)) rfl ?_
      exact ⟨rfl, by repeat (with_reducible first | exact HB6.out | refine below_set ?_ GR.out)⟩
set_option maxHeartbeats 8000000 in
set_option maxRecDepth 100000 in
theorem read_one (k : Nat) (ad : Addr) (c : Nat) (hd : S30) (tl : List S30) (a b c0 dd l0 : Int) (r : HOut) (w : World) (hr : Kd.C k30 w (some ad) (tl.length + 1) (hd :: tl)) (hc : c = 1) (ht : tl = []) (hm : tl.length ≤ 4611686018427387904) (hD : 0 ≤ c0 ∧ c0 ≤ 16) (hs : szs tl ≤ 140737488355328) (h : firstV k hd.f0 hd.f1 = some (a, b, c0, dd, l0, 0)) (hl : head_loop tl (st0 a b c0 dd l0) = some r) :
    Calls Try.prog 17 #[.slice (some ad) (tl.length + 1) c] w fun e' w' => e' = .returned (outV r) ∧ Below w.heap.size w w' := by
  obtain ⟨ty, hty⟩ : ∃ x, hd.f0 = x := ⟨_, rfl⟩
  obtain ⟨d, hdd⟩ : ∃ x, hd.f1 = x := ⟨_, rfl⟩
  obtain ⟨ad', e_, hx0, hx1⟩ := at_T30 hr 0 (by omega) (by omega)
  cases e_
  rw [show rd_T30 (hd :: tl) 0 = hd from rfl, hty] at hx0
  rw [show rd_T30 (hd :: tl) 0 = hd from rfl, hdd] at hx1
  rw [hty, hdd] at h
  rw [show ((0 : Int)).toNat * 2 = 0 from rfl, Addr.add_zero'] at hx0 hx1
  obtain ⟨n, hn⟩ : ∃ n, tl.length + 1 = n := ⟨_, rfl⟩
  have HN := Aside0.mk hn
  have HR := Aside0.mk hr
  have HC := Aside0.mk (show n ≤ c by subst ht; have : ([] : List S30).length = 0 := rfl; omega)
  have HM := Aside0.mk hm
  have HD := Aside0.mk hD
  have HS := Aside0.mk hs
  have HL := Aside0.mk hl
  rw [hn]
  have hn0 : 0 < n := by omega
  clear hr hm hD hs hl hty hdd hn
  have HX0 := Aside0.mk hx0
  have HX1 := Aside0.mk hx1
  have HF := Aside0.mk h
  have t0 : ((n : Int) == 0) = false := beq_eq_false_iff_ne.mpr (by omega)
  have t1 : ¬ n = 0 := by omega
  have t2 : decide (0 < (n : Int)) = true := decide_eq_true (by omega)
  have t3 : (0 < n) = True := eq_true hn0
  have t4 : (0 < (n : Int)) = True := eq_true (by omega)
  have z1 : 1 ≤ n := hn0
  have z2 : (1 : Int) ≤ (n : Int) := by omega
  have z3 : n ≤ c := HC.out
  have z6 : 1 ≤ c := by omega
  have hn7 : n = 1 := by have := HN.out; rw [ht] at this; exact this.symm
  have hc7 := hc
  subst hc7
  subst hn7
  clear hx0 hx1 h
  go_enter Try.func17, Try.ntmps17
  go_wp2_with (first | ((with_reducible refine gate_dst (N := 2) rfl ?_); refine box_event ?hg (N := 2) ?hd (cs := #[.int .i64 0, .int .i64 0, .int .i64 0, .int .i64 0, .int .i64 0, .string (⟨#[]⟩ : ByteArray), .string (⟨#[]⟩ : ByteArray), .bool false]) (t := 36) ?hr ?_; (case hd => rfl); (case hg => rfl); (case hr => first | (go_simp; done) | (go_simp; rfl)); intro gr hg w1 hbox hb; have HB1 := Aside0.mk hb; have GR := Aside0.mk (show w.heap.size ≤ gr from by rw [hg]; exact Nat.le_refl _); have BK := Aside0.mk hbox; have x0 := pw_cell_below HB1.out HX0.out; have x1 := pw_cell_below HB1.out HX1.out; clear hb hbox hg) | (go_at_call 29; (with_reducible refine (first_calls k _ _ a b c0 dd l0 0 _ HF.out).mono ?_); rintro e_ w2 ⟨rfl, hb⟩; have HB2 := Aside0.mk (below_step HB1.out hb); have BK2 := Aside0.mk (blk_below BK.out hb); clear hb x0 x1 BK HB1) | ((with_reducible refine gate_dst (N := 5) rfl ?_); refine box_event ?hg (N := 5) ?hd (cs := #[.int .i64 0, .int .i64 0, .int .i64 0, .int .i64 0, .int .i64 0]) (t := 23) ?hr ?_; (case hd => rfl); (case hg => rfl); (case hr => first | (go_simp; done) | (go_simp; rfl)); intro g5 hg w3 hbox hb; have HB3 := Aside0.mk (below_step HB2.out hb); have BK3 := Aside0.mk (blk_below BK2.out hb); have G5 := Aside0.mk (show gr < g5 from by rw [hg]; exact blk_lt BK2.out); have B5 := Aside0.mk hbox; have y0 := (blk_cell hbox 0).trans rfl; have k0 := blk_frozen hbox 0; have y1 := (blk_cell hbox 1).trans rfl; have k1 := blk_frozen hbox 1; have y2 := (blk_cell hbox 2).trans rfl; have k2 := blk_frozen hbox 2; have y3 := (blk_cell hbox 3).trans rfl; have k3 := blk_frozen hbox 3; have y4 := (blk_cell hbox 4).trans rfl; have k4 := blk_frozen hbox 4; clear hb hbox hg HB2 BK2))
  have HBs := Aside0.mk (show Below w.heap.size w (World.setCell (World.setCell (World.setCell (World.setCell (World.setCell w3 ⟨g5, 0, none⟩ (.int .i64 a)) ⟨g5, 1, none⟩ (.int .i64 b)) ⟨g5, 2, none⟩ (.int .i64 c0)) ⟨g5, 3, none⟩ (.int .i64 dd)) ⟨g5, 4, none⟩ (.int .i64 l0)) from by repeat (first | exact HB3.out | refine below_set ?_ (Nat.le_trans GR.out (Nat.le_of_lt G5.out))))
  have BKs := Aside0.mk (show (World.setCell (World.setCell (World.setCell (World.setCell (World.setCell w3 ⟨g5, 0, none⟩ (.int .i64 a)) ⟨g5, 1, none⟩ (.int .i64 b)) ⟨g5, 2, none⟩ (.int .i64 c0)) ⟨g5, 3, none⟩ (.int .i64 dd)) ⟨g5, 4, none⟩ (.int .i64 l0)).heap[gr]? = some (.cells #[.int .i64 0, .int .i64 0, .int .i64 0, .int .i64 0, .int .i64 0, .string (⟨#[]⟩ : ByteArray), .string (⟨#[]⟩ : ByteArray), .bool false] 36 (0, 0)) from by refine setc_ne ?_ (Nat.ne_of_lt G5.out); refine setc_ne ?_ (Nat.ne_of_lt G5.out); refine setc_ne ?_ (Nat.ne_of_lt G5.out); refine setc_ne ?_ (Nat.ne_of_lt G5.out); refine setc_ne ?_ (Nat.ne_of_lt G5.out); exact BK3.out)
  have hbox := blk_new (World.setCell (World.setCell (World.setCell (World.setCell (World.setCell w3 ⟨g5, 0, none⟩ (.int .i64 a)) ⟨g5, 1, none⟩ (.int .i64 b)) ⟨g5, 2, none⟩ (.int .i64 c0)) ⟨g5, 3, none⟩ (.int .i64 dd)) ⟨g5, 4, none⟩ (.int .i64 l0)) (.cells #[.int .i64 a, .int .i64 b, .int .i64 c0, .int .i64 dd, .int .i64 l0, .string (⟨#[]⟩ : ByteArray), .string (⟨#[]⟩ : ByteArray), .bool false, .bool false, .pointer none, .slice none 0 0, .bool false, .bool false] 62 (0, 0))
  have hb := below_alloc (Below.refl (World.setCell (World.setCell (World.setCell (World.setCell (World.setCell w3 ⟨g5, 0, none⟩ (.int .i64 a)) ⟨g5, 1, none⟩ (.int .i64 b)) ⟨g5, 2, none⟩ (.int .i64 c0)) ⟨g5, 3, none⟩ (.int .i64 dd)) ⟨g5, 4, none⟩ (.int .i64 l0)).heap.size (World.setCell (World.setCell (World.setCell (World.setCell (World.setCell w3 ⟨g5, 0, none⟩ (.int .i64 a)) ⟨g5, 1, none⟩ (.int .i64 b)) ⟨g5, 2, none⟩ (.int .i64 c0)) ⟨g5, 3, none⟩ (.int .i64 dd)) ⟨g5, 4, none⟩ (.int .i64 l0))) (.cells #[.int .i64 a, .int .i64 b, .int .i64 c0, .int .i64 dd, .int .i64 l0, .string (⟨#[]⟩ : ByteArray), .string (⟨#[]⟩ : ByteArray), .bool false, .bool false, .pointer none, .slice none 0 0, .bool false, .bool false] 62 (0, 0))
  have HGs : (World.setCell (World.setCell (World.setCell (World.setCell (World.setCell w3 ⟨g5, 0, none⟩ (.int .i64 a)) ⟨g5, 1, none⟩ (.int .i64 b)) ⟨g5, 2, none⟩ (.int .i64 c0)) ⟨g5, 3, none⟩ (.int .i64 dd)) ⟨g5, 4, none⟩ (.int .i64 l0)).heap.size = w3.heap.size := by simp [World.setCell]
  have GGs := blk_lt BKs.out
  rw [HGs] at hbox hb GGs
  have HB4 := Aside0.mk (below_step HBs.out (by rw [HGs]; exact hb))
  have BK4 := Aside0.mk (blk_below BKs.out (by rw [HGs]; exact hb))
  clear HBs BKs HGs hb HB3 BK3 B5 y0 y1 y2 y3 y4 k0 k1 k2 k3 k4 HX0 HX1 t0 t1 t2 t3 t4 z1 z2 z3 z6
  generalize (World.setCell (World.setCell (World.setCell (World.setCell (World.setCell w3 ⟨g5, 0, none⟩ (.int .i64 a)) ⟨g5, 1, none⟩ (.int .i64 b)) ⟨g5, 2, none⟩ (.int .i64 c0)) ⟨g5, 3, none⟩ (.int .i64 dd)) ⟨g5, 4, none⟩ (.int .i64 l0)).alloc (.cells #[.int .i64 a, .int .i64 b, .int .i64 c0, .int .i64 dd, .int .i64 l0, .string (⟨#[]⟩ : ByteArray), .string (⟨#[]⟩ : ByteArray), .bool false, .bool false, .pointer none, .slice none 0 0, .bool false, .bool false] 62 (0, 0)) = w4 at hbox HB4 BK4 ⊢
  generalize w3.heap.size = g at hbox GGs ⊢
  have RD4 := Aside0.mk (rd_fresh hbox)
  have GG := Aside0.mk GGs
  clear hbox GGs
  have BK6 := BK4
  have HB6 := HB4
  have HLp := HL.out
  rw [ht, head_loop] at HLp
  obtain rfl := Option.some.inj HLp
  clear HLp
  have HL4 := RD4
  go_loopw [34] (fun v w' => v = .int .i64 0 ∧ w' = w4) (fun _ _ => 0)
  case atStart => exact ⟨rfl, rfl⟩
  case round =>
    obtain ⟨rfl, rfl⟩ := hrel
    have z0 : wr.cell? ⟨gr, 0, none⟩ = some (.int .i64 0) := (blk_cell BK6.out 0).trans rfl; have f0 := blk_frozen BK6.out 0; have z1 : wr.cell? ⟨gr, 1, none⟩ = some (.int .i64 0) := (blk_cell BK6.out 1).trans rfl; have f1 := blk_frozen BK6.out 1; have z2 : wr.cell? ⟨gr, 2, none⟩ = some (.int .i64 0) := (blk_cell BK6.out 2).trans rfl; have f2 := blk_frozen BK6.out 2; have z3 : wr.cell? ⟨gr, 3, none⟩ = some (.int .i64 0) := (blk_cell BK6.out 3).trans rfl; have f3 := blk_frozen BK6.out 3; have z4 : wr.cell? ⟨gr, 4, none⟩ = some (.int .i64 0) := (blk_cell BK6.out 4).trans rfl; have f4 := blk_frozen BK6.out 4; have z5 : wr.cell? ⟨gr, 5, none⟩ = some (.string (⟨#[]⟩ : ByteArray)) := (blk_cell BK6.out 5).trans rfl; have f5 := blk_frozen BK6.out 5; have z6 : wr.cell? ⟨gr, 6, none⟩ = some (.string (⟨#[]⟩ : ByteArray)) := (blk_cell BK6.out 6).trans rfl; have f6 := blk_frozen BK6.out 6; have z7 : wr.cell? ⟨gr, 7, none⟩ = some (.bool false) := (blk_cell BK6.out 7).trans rfl; have f7 := blk_frozen BK6.out 7
    go_wp2
    refine bodyPost_ret (results_ctt rfl _ _ gr 36 #[.int .i64 0, .int .i64 0, .int .i64 0, .int .i64 0, .int .i64 0, .string (⟨#[]⟩ : ByteArray), .string (⟨#[]⟩ : ByteArray), .bool false] (0, 0) _ rfl (by refine blk_put (cs := #[.int .i64 0, .int .i64 0, .int .i64 0, .int .i64 0, .int .i64 0, .string (⟨#[]⟩ : ByteArray), .string (⟨#[]⟩ : ByteArray), .bool false]) ?_ 7 _ rfl; refine blk_put (cs := #[.int .i64 0, .int .i64 0, .int .i64 0, .int .i64 0, .int .i64 0, .string (⟨#[]⟩ : ByteArray), .string (⟨#[]⟩ : ByteArray), .bool false]) ?_ 6 _ rfl; refine blk_put (cs := #[.int .i64 0, .int .i64 0, .int .i64 0, .int .i64 0, .int .i64 0, .string (⟨#[]⟩ : ByteArray), .string (⟨#[]⟩ : ByteArray), .bool false]) ?_ 5 _ rfl; refine blk_put (cs := #[.int .i64 0, .int .i64 0, .int .i64 0, .int .i64 0, .int .i64 0, .string (⟨#[]⟩ : ByteArray), .string (⟨#[]⟩ : ByteArray), .bool false]) ?_ 4 _ rfl; refine blk_put (cs := #[.int .i64 0, .int .i64 0, .int .i64 0, .int .i64 0, .int .i64 0, .string (⟨#[]⟩ : ByteArray), .string (⟨#[]⟩ : ByteArray), .bool false]) ?_ 3 _ rfl; refine blk_put (cs := #[.int .i64 0, .int .i64 0, .int .i64 0, .int .i64 0, .int .i64 0, .string (⟨#[]⟩ : ByteArray), .string (⟨#[]⟩ : ByteArray), .bool false]) ?_ 2 _ rfl; refine blk_put (cs := #[.int .i64 0, .int .i64 0, .int .i64 0, .int .i64 0, .int .i64 0, .string (⟨#[]⟩ : ByteArray), .string (⟨#[]⟩ : ByteArray), .bool false]) ?_ 1 _ rfl; refine blk_put (cs := #[.int .i64 0, .int .i64 0, .int .i64 0, .int .i64 0, .int .i64 0, .string (⟨#[]⟩ : ByteArray), .string (⟨#[]⟩ : ByteArray), .bool false]) ?_ 0 _ rfl; exact BK6.out) Try.underlying36 rfl (by kernel_rfl)) rfl ?_
    exact ⟨rfl, by repeat (with_reducible first | exact HB6.out | refine below_set ?_ GR.out)⟩
/-! ### Read, as one -/
theorem idx_mem : ∀ (k : Nat) (l : List Int) (v n i t : Int), slices_Index_int_int.l0 k l v n i = some t → t = -1 ∨ v ∈ l
  | 0, _, _, _, _, _, h => by simp [slices_Index_int_int.l0] at h
  | k + 1, l, v, n, i, t, h => by
    simp only [slices_Index_int_int.l0] at h
    by_cases h1 : i < n
    · rw [if_pos h1] at h
      by_cases h2 : 0 ≤ i
      · rw [if_pos h2] at h
        by_cases h3 : i < (l.length : Int)
        · rw [if_pos h3] at h
          by_cases h4 : v = rd l i
          · right
            rw [h4]
            have h5 : i.toNat < l.length := by omega
            have : rd l i = l[i.toNat] := by unfold rd; simp [List.getElem?_eq_getElem h5]
            rw [this]
            exact List.getElem_mem h5
          · rw [if_neg h4] at h
            exact idx_mem k l v n _ t h
        · rw [if_neg h3] at h; cases h
      · rw [if_neg h2] at h; cases h
    · rw [if_neg h1] at h
      cases h
      exact .inl rfl
theorem right_depth (k : Nat) (W H D C L : Int) (h : head_Right.f k W H D C L = some 0) : 0 ≤ D ∧ D ≤ 16 := by
  have hj : ∀ (k : Nat) (x1 x2 x3 x4 x5 : Int), head_Right.j0 k true x1 x2 x3 x4 x5 ≠ some 0 := by
    intro k x1 x2 x3 x4 x5 e
    cases k with
    | zero => cases e
    | succ k => simp [head_Right.j0] at e
  unfold head_Right.f at h
  obtain ⟨b1, h1, h⟩ := Option.bind_eq_some_iff.1 h
  cases b1 with
  | false => exact absurd h (hj _ _ _ _ _ _)
  | true =>
    rw [if_pos rfl] at h
    obtain ⟨b2, h2, h⟩ := Option.bind_eq_some_iff.1 h
    cases b2 with
    | false => exact absurd h (hj _ _ _ _ _ _)
    | true =>
      rw [if_pos rfl] at h
      obtain ⟨l, hl, h⟩ := Option.bind_eq_some_iff.1 h
      obtain ⟨b3, h3, h⟩ := Option.bind_eq_some_iff.1 h
      cases b3 with
      | false => exact absurd h (hj _ _ _ _ _ _)
      | true =>
        unfold slices_Contains_int_int.f slices_Index_int_int.f at h3
        obtain ⟨t, ht, h3⟩ := Option.bind_eq_some_iff.1 h3
        have hm : D ∈ l := by
          rcases idx_mem _ _ _ _ _ _ ht with e | e
          · subst e; simp at h3
          · exact e
        have hq : ∀ (b : Bool) (l : List Int), head_depths.j0 k b = some l → D ∈ l → 0 ≤ D ∧ D ≤ 16 := by
          intro b l e hm
          cases k with
          | zero => cases e
          | succ k =>
            cases b <;> simp [head_depths.j0] at e <;> subst e <;> simp at hm
            omega
        unfold head_depths.f at hl
        by_cases c0 : C = 0
        · rw [if_pos c0] at hl; cases hl; simp at hm; omega
        · rw [if_neg c0] at hl
          by_cases c3 : C = 3
          · rw [if_pos c3] at hl; cases hl; simp at hm; omega
          · rw [if_neg c3] at hl
            by_cases c2 : C = 2
            · rw [if_pos c2] at hl; exact hq _ _ hl hm
            · rw [if_neg c2] at hl
              by_cases c4 : C = 4
              · rw [if_pos c4] at hl; exact hq _ _ hl hm
              · rw [if_neg c4] at hl; exact hq _ _ hl hm
/-- What Read answers. -/
def readV (k : Nat) (l : List S30) : Option HOut := match l with
  | [] => some (outE 23)
  | c :: r => (firstV k c.f0 c.f1).bind fun p => if p.2.2.2.2.2 = 0 then head_loop r (st0 p.1 p.2.1 p.2.2.1 p.2.2.2.1 p.2.2.2.2.1) else some (outE p.2.2.2.2.2)
theorem readV_calls (k : Nat) (A : Option Addr) (c : Nat) (l : List S30) (r : HOut) (w : World) (hr : Kd.C k30 w A l.length l) (hc : l.length ≤ c) (hm : l.length ≤ 4611686018427387904) (hs : szs l ≤ 140737488355328) (h : readV k l = some r) :
    Calls Try.prog 17 #[.slice A l.length c] w fun e' w' => e' = .returned (outV r) ∧ Below w.heap.size w w' := by
  cases l with
  | nil =>
    obtain rfl := Option.some.inj h
    exact read_none A c w
  | cons hd tl =>
    obtain ⟨⟨a, b, c0, dd, l0, e⟩, hf, h⟩ := Option.bind_eq_some_iff.1 h
    obtain ⟨ad, e_, hx0, hx1⟩ := at_T30 hr 0 (by omega) (by show (0 : Int) < ((tl.length + 1 : Nat) : Int); omega)
    subst e_
    by_cases he : e = 0
    · subst he
      have h' : head_loop tl (st0 a b c0 dd l0) = some r := h
      have hD : 0 ≤ c0 ∧ c0 ≤ 16 := by
        unfold firstV at hf
        by_cases t : hd.f0.toList = [73, 72, 68, 82]
        · rw [if_pos t] at hf
          by_cases u : (hd.f1.size : Int) = 13 ∧ bt hd.f1 10 = 0 ∧ bt hd.f1 11 = 0
          · rw [if_pos u] at hf
            obtain ⟨e1, h1, h2⟩ := Option.bind_eq_some_iff.1 hf
            have h3 := Option.some.inj h2
            simp only [Prod.mk.injEq] at h3
            obtain ⟨_, _, h4, _, _, h5⟩ := h3
            subst h5
            rw [← h4]
            exact right_depth _ _ _ _ _ _ h1
          · rw [if_neg u] at hf
            simp at hf
        · rw [if_neg t] at hf
          simp at hf
      have hs2 : szs tl ≤ 140737488355328 := by have e : szs (hd :: tl) = hd.f1.size + szs tl := rfl; omega
      have hm2 : tl.length ≤ 4611686018427387904 := by have e : (hd :: tl).length = tl.length + 1 := rfl; omega
      by_cases hc1 : c = 1
      · have ht : tl = [] := by
          have e : (hd :: tl).length = tl.length + 1 := rfl
          exact List.length_eq_zero_iff.1 (by omega)
        exact read_one k ad c hd tl a b c0 dd l0 r w hr hc1 ht hm2 hD hs2 hf h'
      · exact read_ok k ad c hd tl a b c0 dd l0 r w hr hc hc1 hm2 hD hs2 hf h'
    · have h' : some (outE e) = some r := by
        have h2 : (if e = 0 then head_loop tl (st0 a b c0 dd l0) else some (outE e)) = some r := h
        rw [if_neg he] at h2
        exact h2
      obtain rfl := Option.some.inj h'
      rw [show rd_T30 (hd :: tl) 0 = hd from rfl] at hx0 hx1
      rw [show ((0 : Int)).toNat * 2 = 0 from rfl, Addr.add_zero'] at hx0 hx1
      exact read_bad k ad (tl.length + 1) c hd.f0 hd.f1 a b c0 dd l0 e w (by omega) hx0 hx1 hf he
def head_Read.f (k : Nat) (l0 : List S30) : Option (Int × Int × Int × Int × Int × ByteArray × ByteArray × Bool × ByteArray × Int) :=
  if l0.length ≤ 4611686018427387904 ∧ szs l0 ≤ 140737488355328 then (readV k l0).bind fun r => some (r.W, r.H, r.D, r.C, r.L, r.pal, r.tr, r.ht, r.data, r.e) else none
theorem head_Read.mono : ∀ a0 k, LeO (head_Read.f k a0) (head_Read.f (k + 1) a0) := by
  intro a0 k
  unfold head_Read.f
  refine LeO.ite (LeO.bind ?_ (fun _ => LeO.refl _)) (LeO.refl _)
  unfold readV
  cases a0 with
  | nil => exact LeO.refl _
  | cons c r =>
    refine LeO.bind ?_ (fun _ => LeO.refl _)
    unfold firstV
    refine LeO.ite (LeO.ite (LeO.bind (head_Right.mono _ _ _ _ _ _) (fun _ => LeO.refl _)) (LeO.refl _)) (LeO.refl _)
theorem head_Read.calls (k : Nat) (A0 : Option Addr) (c0 : Nat) (l0 : List S30) (r1 : Int) (r2 : Int) (r3 : Int) (r4 : Int) (r5 : Int) (r6 : ByteArray) (r7 : ByteArray) (r8 : Bool) (r9 : ByteArray) (r10 : Int) (w : World) (hr0 : Kd.C k30 w A0 l0.length l0) (hc0 : l0.length ≤ c0) (h : head_Read.f k l0 = some (r1, r2, r3, r4, r5, r6, r7, r8, r9, r10)) :
    Calls Try.prog 17 #[.slice A0 l0.length c0] w fun e w' => e = .returned (.tuple #[.agg #[.int .i64 r1, .int .i64 r2, .int .i64 r3, .int .i64 r4, .int .i64 r5, .string r6, .string r7, .bool r8], .string r9, .int .i64 r10]) ∧ Below w.heap.size w w' := by
  unfold head_Read.f at h
  by_cases hc : l0.length ≤ 4611686018427387904 ∧ szs l0 ≤ 140737488355328
  · rw [if_pos hc] at h
    obtain ⟨r, hr, h⟩ := Option.bind_eq_some_iff.1 h
    cases h
    exact readV_calls k A0 c0 l0 r w hr0 hc0 hc.1 hc.2 hr
  · rw [if_neg hc] at h
    cases h

end Go.Proofs.Ytbpnkgidlmjkkaa.PL08
