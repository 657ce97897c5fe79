/- What a message's bytes are, plain: few, right, Encode. Conditions: as few says. -/
import Derived.Test.YtnimhhhbefpifaaPL20x2
import Derived.Test.YtnimhhhbefpifaaPL20x3
import Derived.Test.YtnimhhhbefpifaaPL20x4
import Derived.Test.YtnimhhhbefpifaaPL20x5
import Derived.Test.YtnimhhhbefpifaaPL20x6
import Derived.Test.YtnimhhhbefpifaaPL20x7
import Derived.Test.YtnimhhhbefpifaaPL20x8
import Derived.Test.YtnimhhhbefpifaaPL20x9
import Derived.Test.YtnimhhhbefpifaaPureCrc
import Derived.Test.YtnimhhhbefpifaaPureNam15
import Derived.Test.YtnimhhhbefpifaaPureRedP
namespace Go.Proofs.Ytnimhhhbefpifaa.Pure
open Go.RowKit Go.Proofs.YtnimhhhbefpifaaW.PrintWords Go.Proofs.YtnimhhhbefpifaaW.PrintLast Go.Proofs.YtnimhhhbefpifaaW.PrintMore Go.Proofs.Ytnimhhhbefpifaa.PL20
set_option linter.unusedVariables false
set_option linter.unusedSimpArgs false
theorem wfew_loop (l : List ByteArray) (hl : l.length ≤ 20) (a0 a1 a2 a3 : Int) (a4 : ByteArray) (a5 a6 : Int) (a7 : ByteArray) : ∀ d i : Nat, i + d = l.length → ∃ b, Ev (fun k => vitrinelaw20_few.l0 k (i : Int) a0 a1 a2 a3 a4 a5 a6 a7 l) b ∧ (b = true → ∀ j, i ≤ j → j < l.length → (rdOf ByteArray.empty l (j : Int)).size ≤ 5000) := by
  intro d
  induction d with
  | zero =>
    intro i hi
    refine ⟨true, ?_, fun _ j h1 h2 => by omega⟩
    refine Ev.step (f := fun _ => some true) (fun k => ?_) (Ev.now _)
    simp only [vitrinelaw20_few.l0]
    rw [if_neg (by omega)]
  | succ d ih =>
    intro i hi
    have hw : wrap64 ((i : Int) + 1) = ((i + 1 : Nat) : Int) := by rw [w64 (by omega) (by omega)]; omega
    by_cases hb : ((rdOf ByteArray.empty l (i : Int)).size : Int) > 5000
    · refine ⟨false, ?_, fun h => by cases h⟩
      refine Ev.step (f := fun _ => some false) (fun k => ?_) (Ev.now _)
      simp only [vitrinelaw20_few.l0]
      rw [if_pos (by omega), if_pos (by omega), if_pos hb]
    · obtain ⟨b, h1, h2⟩ := ih (i + 1) (by omega)
      refine ⟨b, ?_, fun h j hj1 hj2 => ?_⟩
      · refine Ev.step (fun k => ?_) h1
        simp only [vitrinelaw20_few.l0]
        rw [if_pos (by omega), if_pos (by omega), if_neg hb, hw]
      · by_cases hji : j = i
        · subst hji; omega
        · exact h2 h j (by omega) hj2
/-- What few says. -/
def fewP (a4 a7 : ByteArray) (l : List ByteArray) : Prop := l.length ≤ 20 ∧ a4.size ≤ 5000 ∧ a7.size ≤ 5000 ∧ ∀ j, j < l.length → (rdOf ByteArray.empty l (j : Int)).size ≤ 5000
theorem wfew_ev (a0 a1 a2 a3 : Int) (a4 : ByteArray) (a5 a6 : Int) (a7 : ByteArray) (l : List ByteArray) : ∃ b, Ev (fun k => vitrinelaw20_few.f k a0 a1 a2 a3 a4 a5 a6 a7 l) b ∧ (b = true → fewP a4 a7 l) := by
  have jt : Ev (fun k => vitrinelaw20_few.j0 k true a0 a1 a2 a3 a4 a5 a6 a7 l) false := by
    refine Ev.step (f := fun _ => some false) (fun k => ?_) (Ev.now _)
    simp only [vitrinelaw20_few.j0, if_true]
  by_cases c1 : (l.length : Int) > 20
  · exact ⟨false, Ev.congr (fun k => by unfold vitrinelaw20_few.f; rw [if_pos c1]) jt, fun h => by cases h⟩
  · by_cases c2 : (a4.size : Int) > 5000
    · exact ⟨false, Ev.congr (fun k => by unfold vitrinelaw20_few.f; rw [if_neg c1, if_pos c2]) jt, fun h => by cases h⟩
    · by_cases c3 : (a7.size : Int) > 5000
      · exact ⟨false, Ev.congr (fun k => by unfold vitrinelaw20_few.f; rw [if_neg c1, if_neg c2, decide_eq_true c3]) jt, fun h => by cases h⟩
      · obtain ⟨b, h1, h2⟩ := wfew_loop l (by omega) a0 a1 a2 a3 a4 a5 a6 a7 l.length 0 (by omega)
        refine ⟨b, ?_, fun h => ⟨by omega, by omega, by omega, fun j hj => h2 h j (by omega) hj⟩⟩
        refine Ev.congr (f := fun k => vitrinelaw20_few.j0 k false a0 a1 a2 a3 a4 a5 a6 a7 l) (fun k => by unfold vitrinelaw20_few.f; rw [if_neg c1, if_neg c2, decide_eq_false c3]) ?_
        refine Ev.step (fun k => ?_) h1
        simp only [vitrinelaw20_few.j0]
        rw [if_neg (by decide)]
        rfl
theorem within_f (a b : Int) : wire_within.f a b = some (decide (0 ≤ a ∧ a ≤ b)) := by
  unfold wire_within.f
  by_cases h : a ≥ 0
  · rw [if_pos h]
    congr 1
    rw [decide_eq_decide]
    exact ⟨fun x => ⟨h, x⟩, fun x => x.2⟩
  · rw [if_neg h, decide_eq_false (by omega)]
theorem long_ev (l : List ByteArray) (hl : l.length ≤ 20) : ∀ d i : Nat, i + d = l.length → ∃ t, Ev (fun k => wlongIdx k l (i : Int)) t ∧ (t ≥ 0 ↔ ∃ j, i ≤ j ∧ j < l.length ∧ wlong (rdOf ByteArray.empty l (j : Int)) = true) := by
  intro d
  induction d with
  | zero =>
    intro i hi
    refine ⟨-1, ?_, by omega, fun ⟨j, h1, h2, _⟩ => by omega⟩
    refine Ev.step (f := fun _ => some (-1)) (fun k => ?_) (Ev.now _)
    simp only [wlongIdx]
    rw [if_neg (by omega)]
  | succ d ih =>
    intro i hi
    have hw : wrap64 ((i : Int) + 1) = ((i + 1 : Nat) : Int) := by rw [w64 (by omega) (by omega)]; omega
    by_cases hb : wlong (rdOf ByteArray.empty l (i : Int)) = true
    · refine ⟨(i : Int), ?_, fun _ => ⟨i, by omega, by omega, hb⟩, fun _ => by omega⟩
      refine Ev.step (f := fun _ => some (i : Int)) (fun k => ?_) (Ev.now _)
      simp only [wlongIdx]
      rw [if_pos (by omega), if_pos (by omega), if_pos hb]
    · obtain ⟨t, h1, h2⟩ := ih (i + 1) (by omega)
      refine ⟨t, ?_, fun h => ?_, fun h => ?_⟩
      · refine Ev.step (fun k => ?_) h1
        simp only [wlongIdx]
        rw [if_pos (by omega), if_pos (by omega), if_neg hb, hw]
      · obtain ⟨j, x, y, z⟩ := h2.1 h
        exact ⟨j, by omega, y, z⟩
      · obtain ⟨j, x, y, z⟩ := h
        by_cases hji : j = i
        · subst hji; exact absurd z hb
        · exact h2.2 ⟨j, by omega, y, z⟩
/-- Is a band too long? Where few holds: none is. -/
theorem cont_ev (l : List ByteArray) (hl : l.length ≤ 20) (hs : ∀ j, j < l.length → (rdOf ByteArray.empty l (j : Int)).size ≤ 5000) : Ev (fun k => slices_ContainsFunc_string_string.f k l) false := by
  obtain ⟨t, h1, h2⟩ := long_ev l hl l.length 0 (by omega)
  refine Ev.bind (f := fun _ t => some (decide (t ≥ 0))) h1 (ev_same (Ev.now _) ?_)
  refine decide_eq_false (fun h => ?_)
  obtain ⟨j, _, y, z⟩ := h2.1 h
  have := hs j y
  unfold wlong at z
  have := of_decide_eq_true z
  omega
/-- How many bands a manifest allows; none where it is bad. -/
def manyM (a7 : ByteArray) : Int := if a7.toList = ([] : List UInt8) then 0 else if (redV a7).2.2.2 = 0 then ((redV a7).2.2.1.length : Int) else -1
def rightB (a0 a1 a2 a3 : Int) (a4 : ByteArray) (a5 a6 : Int) (a7 : ByteArray) (n : Nat) : Bool :=
  decide (1 ≤ a0 ∧ a0 ≤ 4) && (namV a4 == 0) && decide (0 ≤ a1 ∧ a1 ≤ 1023) && decide (0 ≤ a2 ∧ a2 ≤ 1023) && decide (0 ≤ a3 ∧ a3 ≤ 1099511627776) && decide (0 ≤ a5 ∧ a5 ≤ 1099511627776) && decide (0 ≤ a6 ∧ a6 ≤ 1023) && !(decide (a5 = 0) && decide (a6 > 0)) && decide ((n : Int) ≤ manyM a7)
theorem right2_ev (a0 a1 a2 a3 : Int) (a4 : ByteArray) (a5 a6 : Int) (a7 : ByteArray) (l : List ByteArray) (hf : fewP a4 a7 l) : Ev (fun k => wire_right.j2 k a0 a1 a2 a3 a4 a5 a6 a7 l) (decide ((l.length : Int) ≤ manyM a7)) := by
  obtain ⟨f1, f2, f3, f4⟩ := hf
  have hc := cont_ev l f1 f4
  have hn : Ev (fun k => (slices_ContainsFunc_string_string.f k l).bind fun t115 => (some (!t115))) true := Ev.bind (f := fun _ t => some (!t)) hc (Ev.now _)
  unfold manyM
  by_cases c1 : a7.toList = ([] : List UInt8)
  · rw [if_pos c1]
    by_cases c2 : (l.length : Int) ≤ 0
    · rw [decide_eq_true c2]
      refine Ev.step (fun k => ?_) hn
      simp only [wire_right.j2]
      rw [if_pos c1, if_pos c2]
    · rw [decide_eq_false c2]
      refine Ev.step (f := fun _ => some false) (fun k => ?_) (Ev.now _)
      simp only [wire_right.j2]
      rw [if_pos c1, if_neg c2]
  · rw [if_neg c1]
    refine Ev.step (f := fun k => (bands_Read.f k a7).bind fun bt116 => (if bt116.2.2.2 = 0 then (if (l.length : Int) ≤ (bt116.2.2.1.length : Int) then ((slices_ContainsFunc_string_string.f k l).bind fun t122 => (some (!t122))) else (some false)) else (some false))) (fun k => by simp only [wire_right.j2]; rw [if_neg c1]) ?_
    refine Ev.bind (f := fun k bt116 => (if bt116.2.2.2 = 0 then (if (l.length : Int) ≤ (bt116.2.2.1.length : Int) then ((slices_ContainsFunc_string_string.f k l).bind fun t122 => (some (!t122))) else (some false)) else (some false))) (Read_ev a7 (by omega)) ?_
    by_cases c2 : (redV a7).2.2.2 = 0
    · simp only [if_pos c2]
      by_cases c3 : (l.length : Int) ≤ ((redV a7).2.2.1.length : Int)
      · simp only [if_pos c3]
        rw [decide_eq_true c3]
        exact hn
      · simp only [if_neg c3]
        rw [decide_eq_false c3]
        exact Ev.now _
    · simp only [if_neg c2]
      rw [decide_eq_false (by omega)]
      exact Ev.now _
theorem right1_ev (a0 a1 a2 a3 : Int) (a4 : ByteArray) (a5 a6 : Int) (a7 : ByteArray) (l : List ByteArray) (hf : fewP a4 a7 l) : Ev (fun k => wire_right.j1 k false a0 a1 a2 a3 a4 a5 a6 a7 l) (decide (0 ≤ a5 ∧ a5 ≤ 1099511627776) && decide (0 ≤ a6 ∧ a6 ≤ 1023) && !(decide (a5 = 0) && decide (a6 > 0)) && decide ((l.length : Int) ≤ manyM a7)) := by
  have h2 := right2_ev a0 a1 a2 a3 a4 a5 a6 a7 l hf
  by_cases c1 : 0 ≤ a5 ∧ a5 ≤ 1099511627776
  · by_cases c2 : 0 ≤ a6 ∧ a6 ≤ 1023
    · rw [decide_eq_true c1, decide_eq_true c2]
      by_cases c3 : a5 = 0
      · by_cases c4 : a6 > 0
        · rw [decide_eq_true c3, decide_eq_true c4]
          refine Ev.step (f := fun _ => some false) (fun k => ?_) (Ev.now _)
          simp only [wire_right.j1, within_f, decide_eq_true c1, decide_eq_true c2, Option.bind_some, if_true, if_pos c3, if_pos c4]
          rfl
        · rw [decide_eq_true c3, decide_eq_false c4]
          refine Ev.step (fun k => ?_) (ev_same h2 (by simp))
          simp only [wire_right.j1, within_f, decide_eq_true c1, decide_eq_true c2, Option.bind_some, if_true, if_pos c3, if_neg c4]
          rfl
      · rw [decide_eq_false c3]
        refine Ev.step (fun k => ?_) (ev_same h2 (by simp))
        simp only [wire_right.j1, within_f, decide_eq_true c1, decide_eq_true c2, Option.bind_some, if_true, if_neg c3]
        rfl
    · rw [decide_eq_false c2]
      refine Ev.step (f := fun _ => some false) (fun k => ?_) (ev_same (Ev.now _) (by simp))
      simp only [wire_right.j1, within_f, decide_eq_true c1, decide_eq_false c2, Option.bind_some, if_true]
      rfl
  · rw [decide_eq_false c1]
    refine Ev.step (f := fun _ => some false) (fun k => ?_) (ev_same (Ev.now _) (by simp))
    simp only [wire_right.j1, within_f, decide_eq_false c1, Option.bind_some]
    rfl
theorem right0_ev (a0 a1 a2 a3 : Int) (a4 : ByteArray) (a5 a6 : Int) (a7 : ByteArray) (l : List ByteArray) (hf : fewP a4 a7 l) : Ev (fun k => wire_right.j0 k false a0 a1 a2 a3 a4 a5 a6 a7 l) (decide (0 ≤ a1 ∧ a1 ≤ 1023) && decide (0 ≤ a2 ∧ a2 ≤ 1023) && decide (0 ≤ a3 ∧ a3 ≤ 1099511627776) && (decide (0 ≤ a5 ∧ a5 ≤ 1099511627776) && decide (0 ≤ a6 ∧ a6 ≤ 1023) && !(decide (a5 = 0) && decide (a6 > 0)) && decide ((l.length : Int) ≤ manyM a7))) := by
  have h1 := right1_ev a0 a1 a2 a3 a4 a5 a6 a7 l hf
  have jt : Ev (fun k => wire_right.j1 k true a0 a1 a2 a3 a4 a5 a6 a7 l) false := by
    refine Ev.step (f := fun _ => some false) (fun k => ?_) (Ev.now _)
    simp only [wire_right.j1, if_true]
  by_cases c1 : 0 ≤ a1 ∧ a1 ≤ 1023
  · by_cases c2 : 0 ≤ a2 ∧ a2 ≤ 1023
    · by_cases c3 : 0 ≤ a3 ∧ a3 ≤ 1099511627776
      · rw [decide_eq_true c1, decide_eq_true c2, decide_eq_true c3]
        refine Ev.step (fun k => ?_) (ev_same h1 (by simp))
        simp only [wire_right.j0, within_f, decide_eq_true c1, decide_eq_true c2, decide_eq_true c3, Option.bind_some, if_true]
        rfl
      · rw [decide_eq_false c3]
        refine Ev.step (fun k => ?_) (ev_same jt (by simp))
        simp only [wire_right.j0, within_f, decide_eq_true c1, decide_eq_true c2, decide_eq_false c3, Option.bind_some, if_true]
        rfl
    · rw [decide_eq_false c2]
      refine Ev.step (fun k => ?_) (ev_same jt (by simp))
      simp only [wire_right.j0, within_f, decide_eq_true c1, decide_eq_false c2, Option.bind_some, if_true]
      rfl
  · rw [decide_eq_false c1]
    refine Ev.step (fun k => ?_) (ev_same jt (by simp))
    simp only [wire_right.j0, within_f, decide_eq_false c1, Option.bind_some]
    rfl
theorem right_ev (a0 a1 a2 a3 : Int) (a4 : ByteArray) (a5 a6 : Int) (a7 : ByteArray) (l : List ByteArray) (hf : fewP a4 a7 l) : Ev (fun k => wire_right.f k a0 a1 a2 a3 a4 a5 a6 a7 l) (rightB a0 a1 a2 a3 a4 a5 a6 a7 l.length) := by
  have h0 := right0_ev a0 a1 a2 a3 a4 a5 a6 a7 l hf
  have jt : Ev (fun k => wire_right.j0 k true a0 a1 a2 a3 a4 a5 a6 a7 l) false := by
    refine Ev.step (f := fun _ => some false) (fun k => ?_) (Ev.now _)
    simp only [wire_right.j0, if_true]
  unfold rightB
  by_cases c1 : a0 < 1
  · rw [decide_eq_false (p := 1 ≤ a0 ∧ a0 ≤ 4) (by omega)]
    exact Ev.congr (fun k => by unfold wire_right.f; rw [if_pos c1]) (ev_same jt (by simp))
  · by_cases c2 : a0 > 4
    · rw [decide_eq_false (p := 1 ≤ a0 ∧ a0 ≤ 4) (by omega)]
      exact Ev.congr (fun k => by unfold wire_right.f; rw [if_neg c1, if_pos c2]) (ev_same jt (by simp))
    · rw [decide_eq_true (p := 1 ≤ a0 ∧ a0 ≤ 4) (by omega)]
      refine Ev.congr (f := fun k => (bands_Name.f k a4).bind fun t109 => (wire_right.j0 k (t109 != 0) a0 a1 a2 a3 a4 a5 a6 a7 l)) (fun k => by unfold wire_right.f; rw [if_neg c1, if_neg c2]) ?_
      refine Ev.bind (f := fun k t109 => (wire_right.j0 k (t109 != 0) a0 a1 a2 a3 a4 a5 a6 a7 l)) (Name_ev a4 (by have := hf.2.1; omega)) ?_
      by_cases c3 : namV a4 = 0
      · rw [show (namV a4 != 0) = false from by rw [c3]; rfl, show (namV a4 == 0) = true from by rw [c3]; rfl]
        exact ev_same h0 (by simp only [Bool.true_and, Bool.and_assoc])
      · rw [show (namV a4 != 0) = true from bne_iff_ne.mpr c3, show (namV a4 == 0) = false from beq_eq_false_iff_ne.mpr c3]
        exact ev_same jt (by simp)
/-- The bytes of the first i bands and their sizes. -/
def wtot (l : List ByteArray) : Nat → Nat
  | 0 => 0
  | i + 1 => wtot l i + 4 + (rdOf ByteArray.empty l (i : Int)).size
theorem wtot_le {l : List ByteArray} (n : Nat) (h : ∀ j, j < n → (rdOf ByteArray.empty l (j : Int)).size ≤ 5000) : ∀ i, i ≤ n → wtot l i ≤ 5004 * i
  | 0, _ => Nat.le_refl _
  | i + 1, hi => by
    have h1 := wtot_le n h i (by omega)
    have h2 := h i (by omega)
    unfold wtot
    omega
theorem wbands_size (l : List ByteArray) (s : ByteArray) : ∀ i, (wbands l s i).size = s.size + wtot l i
  | 0 => rfl
  | i + 1 => by
    show (wtext _ 4 (wbands l s i)).size = _
    unfold wtext wtot
    rw [ByteArray.size_append, wnum_size, wbands_size l s i]
    omega
/-- A message's bytes behind the sum. -/
def wbody (a0 a1 a2 a3 : Int) (a4 : ByteArray) (a5 a6 : Int) (a7 : ByteArray) (l : List ByteArray) : ByteArray := wbands l (wenc a0 a1 a2 a3 a4 a5 a6 a7 (l.length : Int)) l.length
theorem wbody_size (a0 a1 a2 a3 : Int) (a4 : ByteArray) (a5 a6 : Int) (a7 : ByteArray) (l : List ByteArray) : (wbody a0 a1 a2 a3 a4 a5 a6 a7 l).size = 30 + a4.size + a7.size + wtot l l.length := by
  unfold wbody
  rw [wbands_size, wenc_size]
theorem wbody_le (a0 a1 a2 a3 : Int) (a4 : ByteArray) (a5 a6 : Int) (a7 : ByteArray) (l : List ByteArray) (hf : fewP a4 a7 l) : (wbody a0 a1 a2 a3 a4 a5 a6 a7 l).size ≤ 200000 := by
  obtain ⟨f1, f2, f3, f4⟩ := hf
  have := wtot_le l.length f4 l.length (Nat.le_refl _)
  rw [wbody_size]
  omega
def encV (a0 a1 a2 a3 : Int) (a4 : ByteArray) (a5 a6 : Int) (a7 : ByteArray) (l : List ByteArray) : ByteArray × Int := if rightB a0 a1 a2 a3 a4 a5 a6 a7 l.length = true then (wnum (crc (wbody a0 a1 a2 a3 a4 a5 a6 a7 l)) 4 ByteArray.empty ++ wbody a0 a1 a2 a3 a4 a5 a6 a7 l, 0) else (⟨#[]⟩, 60)
theorem Enc_ev (a0 a1 a2 a3 : Int) (a4 : ByteArray) (a5 a6 : Int) (a7 : ByteArray) (l : List ByteArray) (hf : fewP a4 a7 l) : Ev (fun k => wire_Encode.f k a0 a1 a2 a3 a4 a5 a6 a7 l) (encV a0 a1 a2 a3 a4 a5 a6 a7 l) := by
  have hz := wbody_le a0 a1 a2 a3 a4 a5 a6 a7 l hf
  unfold wire_Encode.f encV
  refine Ev.bind (right_ev a0 a1 a2 a3 a4 a5 a6 a7 l hf) ?_
  cases rightB a0 a1 a2 a3 a4 a5 a6 a7 l.length with
  | false => exact Ev.now _
  | true =>
    rw [if_pos rfl]
    refine Ev.congr (f := fun k => (bits_Crc.f k (wbody a0 a1 a2 a3 a4 a5 a6 a7 l)).bind fun c => some (wnum c 4 ByteArray.empty ++ wbody a0 a1 a2 a3 a4 a5 a6 a7 l, (0 : Int))) (fun k => ?_) ?_
    · rw [if_pos rfl]
      exact if_pos (show (wbody a0 a1 a2 a3 a4 a5 a6 a7 l).size ≤ 1099511627776 by omega)
    · exact Ev.bind (f := fun _ c => some (wnum c 4 ByteArray.empty ++ wbody a0 a1 a2 a3 a4 a5 a6 a7 l, (0 : Int))) (Crc_ev _ (by omega)) (Ev.now _)
theorem awake20 : Ev (fun k => vitrinelaw20_awake.f k) true := ev_true (fun k => vitrinelaw20_awake.mono k) 600 (by kernel_rfl)

end Go.Proofs.Ytnimhhhbefpifaa.Pure
