/- WireSame, plain: whether two messages are the same is the document's answer. Condition: as the law's own few. -/
import Derived.Test.YtnimhhhbefpifaaPL20Sx2
import Derived.Test.YtnimhhhbefpifaaPL20Sx20
import Derived.Test.YtnimhhhbefpifaaPL20Sx21
import Derived.Test.YtnimhhhbefpifaaPL20Sx22
import Derived.Test.YtnimhhhbefpifaaPL20Sx23
import Derived.Test.YtnimhhhbefpifaaPureFew20
namespace Go.Proofs.Ytnimhhhbefpifaa.Pure
open Go.RowKit Go.Proofs.YtnimhhhbefpifaaW.PrintWords Go.Proofs.YtnimhhhbefpifaaW.PrintLast Go.Proofs.YtnimhhhbefpifaaW.PrintMore Go.Proofs.Ytnimhhhbefpifaa.PL20S
set_option linter.unusedVariables false
set_option linter.unusedSimpArgs false
theorem ev_if {α : Type} {c : Prop} [Decidable c] {g e : Nat → Option α} {r : α} (h : c) (hg : Ev g r) : Ev (fun k => if c then g k else e k) r := Ev.congr (fun k => if_pos h) hg
theorem ev_no {α : Type} {c : Prop} [Decidable c] {g e : Nat → Option α} {r : α} (h : ¬ c) (hg : Ev e r) : Ev (fun k => if c then g k else e k) r := Ev.congr (fun k => if_neg h) hg
def eqN (l m : List ByteArray) : Nat → Nat → Bool
  | 0, _ => true
  | d + 1, i => if (rdOf ByteArray.empty l (i : Int)).toList = (rdOf ByteArray.empty m (i : Int)).toList then eqN l m d (i + 1) else false
def eqB (l m : List ByteArray) : Bool := if l.length = m.length then eqN l m l.length 0 else false
theorem eqN_refl (l : List ByteArray) : ∀ d i, eqN l l d i = true
  | 0, _ => rfl
  | d + 1, i => by unfold eqN; rw [if_pos rfl]; exact eqN_refl l d (i + 1)
theorem eqB_refl (l : List ByteArray) : eqB l l = true := by unfold eqB; rw [if_pos rfl]; exact eqN_refl l _ _
theorem equal_loop (l m : List ByteArray) (hl : l.length ≤ 20) (hm : l.length = m.length) : ∀ d i : Nat, i + d = l.length → Ev (fun k => slices_Equal_string_string.l0 k l m (l.length : Int) (i : Int)) (eqN l m d i) := by
  intro d
  induction d with
  | zero =>
    intro i hi
    refine Ev.step (f := fun _ => some true) (fun k => ?_) (Ev.now _)
    simp only [slices_Equal_string_string.l0]
    rw [if_neg (by omega)]
  | succ d ih =>
    intro i hi
    have hw : wrap64 ((i : Int) + 1) = ((i + 1 : Nat) : Int) := by rw [w64 (by omega) (by omega)]; omega
    unfold eqN
    by_cases c : (rdOf ByteArray.empty l (i : Int)).toList = (rdOf ByteArray.empty m (i : Int)).toList
    · rw [if_pos c]
      refine Ev.step (fun k => ?_) (ih (i + 1) (by omega))
      simp only [slices_Equal_string_string.l0]
      rw [if_pos (by omega), if_pos (by omega), if_pos (by omega), if_pos (by omega), if_pos c, hw]
    · rw [if_neg c]
      refine Ev.step (f := fun _ => some false) (fun k => ?_) (Ev.now _)
      simp only [slices_Equal_string_string.l0]
      rw [if_pos (by omega), if_pos (by omega), if_pos (by omega), if_pos (by omega), if_neg c]
theorem equal_ev (l m : List ByteArray) (hl : l.length ≤ 20) : Ev (fun k => slices_Equal_string_string.f k l m) (eqB l m) := by
  unfold slices_Equal_string_string.f eqB
  by_cases c : l.length = m.length
  · rw [if_pos c]
    exact ev_if (by omega) (equal_loop l m hl c l.length 0 (by omega))
  · rw [if_neg c]
    exact ev_no (by omega) (Ev.now _)
theorem rsame_loop (a0 a1 a2 a3 : Int) (a4 : ByteArray) (a5 a6 : Int) (a7 : ByteArray) (l : List ByteArray) (b0 b1 b2 b3 : Int) (b4 : ByteArray) (b5 b6 : Int) (b7 : ByteArray) (m : List ByteArray) (hl : l.length ≤ 20) (hm : l.length = m.length) : ∀ d i : Nat, i + d = l.length → Ev (fun k => vitrineref20_Same.l0 k (i : Int) a0 a1 a2 a3 a4 a5 a6 a7 l b0 b1 b2 b3 b4 b5 b6 b7 m) (eqN l m d i) := by
  intro d
  induction d with
  | zero =>
    intro i hi
    refine Ev.step (f := fun _ => some true) (fun k => ?_) (Ev.now _)
    simp only [vitrineref20_Same.l0]
    rw [if_neg (by omega)]
  | succ d ih =>
    intro i hi
    have hw : wrap64 ((i : Int) + 1) = ((i + 1 : Nat) : Int) := by rw [w64 (by omega) (by omega)]; omega
    unfold eqN
    by_cases c : (rdOf ByteArray.empty l (i : Int)).toList = (rdOf ByteArray.empty m (i : Int)).toList
    · rw [if_pos c]
      refine Ev.step (fun k => ?_) (ih (i + 1) (by omega))
      simp only [vitrineref20_Same.l0]
      rw [if_pos (by omega), if_pos (by omega), if_pos (by omega), if_pos c, hw]
    · rw [if_neg c]
      refine Ev.step (f := fun _ => some false) (fun k => ?_) (Ev.now _)
      simp only [vitrineref20_Same.l0]
      rw [if_pos (by omega), if_pos (by omega), if_pos (by omega), if_neg c]
def sameB (a0 a1 a2 a3 : Int) (a4 : ByteArray) (a5 a6 : Int) (a7 : ByteArray) (l : List ByteArray) (b0 b1 b2 b3 : Int) (b4 : ByteArray) (b5 b6 : Int) (b7 : ByteArray) (m : List ByteArray) : Bool := decide (a0 = b0) && decide (a1 = b1) && decide (a2 = b2) && decide (a3 = b3) && decide (a4.toList = b4.toList) && decide (a5 = b5) && decide (a6 = b6) && decide (a7.toList = b7.toList) && eqB l m
theorem same_ev (a0 a1 a2 a3 : Int) (a4 : ByteArray) (a5 a6 : Int) (a7 : ByteArray) (l : List ByteArray) (b0 b1 b2 b3 : Int) (b4 : ByteArray) (b5 b6 : Int) (b7 : ByteArray) (m : List ByteArray) (hl : l.length ≤ 20) : Ev (fun k => wire_Same.f k a0 a1 a2 a3 a4 a5 a6 a7 l b0 b1 b2 b3 b4 b5 b6 b7 m) (sameB a0 a1 a2 a3 a4 a5 a6 a7 l b0 b1 b2 b3 b4 b5 b6 b7 m) := by
  unfold wire_Same.f
  refine Ev.bind (equal_ev l m hl) ?_
  by_cases e0 : eqB l m = true
  · refine ev_if e0 ?_
    refine Ev.bind (show Ev (fun _ : Nat => wire_Same_1.f a0 a1 a2 a3 a4 a5 a6 a7 l) (a0, a1, a2, a3, a5) from Ev.now _) ?_
    refine Ev.bind (show Ev (fun _ : Nat => wire_Same_1.f b0 b1 b2 b3 b4 b5 b6 b7 m) (b0, b1, b2, b3, b5) from Ev.now _) ?_
    by_cases c0 : a0 = b0
    · refine ev_if c0 ?_
      by_cases c1 : a1 = b1
      · refine ev_if c1 ?_
        by_cases c2 : a2 = b2
        · refine ev_if c2 ?_
          by_cases c3 : a3 = b3
          · refine ev_if c3 ?_
            by_cases c4 : a5 = b5
            · refine ev_if c4 ?_
              by_cases c5 : a6 = b6
              · refine ev_if c5 ?_
                by_cases c6 : a4.toList = b4.toList
                · refine ev_if c6 ?_
                  refine ev_same (Ev.now _) ?_
                  by_cases c7 : a7.toList = b7.toList <;> simp [sameB, c0, c1, c2, c3, c4, c5, c6, e0, c7]
                · exact ev_no c6 (ev_same (Ev.now _) (by simp [sameB, c6]))
              · exact ev_no c5 (ev_same (Ev.now _) (by simp [sameB, c5]))
            · exact ev_no c4 (ev_same (Ev.now _) (by simp [sameB, c4]))
          · exact ev_no c3 (ev_same (Ev.now _) (by simp [sameB, c3]))
        · exact ev_no c2 (ev_same (Ev.now _) (by simp [sameB, c2]))
      · exact ev_no c1 (ev_same (Ev.now _) (by simp [sameB, c1]))
    · exact ev_no c0 (ev_same (Ev.now _) (by simp [sameB, c0]))
  · exact ev_no e0 (ev_same (Ev.now _) (by simp [sameB, e0]))
theorem rsame_ev (a0 a1 a2 a3 : Int) (a4 : ByteArray) (a5 a6 : Int) (a7 : ByteArray) (l : List ByteArray) (b0 b1 b2 b3 : Int) (b4 : ByteArray) (b5 b6 : Int) (b7 : ByteArray) (m : List ByteArray) (hl : l.length ≤ 20) : Ev (fun k => vitrineref20_Same.f k a0 a1 a2 a3 a4 a5 a6 a7 l b0 b1 b2 b3 b4 b5 b6 b7 m) (sameB a0 a1 a2 a3 a4 a5 a6 a7 l b0 b1 b2 b3 b4 b5 b6 b7 m) := by
  have jt : Ev (fun k => vitrineref20_Same.j0 k true a0 a1 a2 a3 a4 a5 a6 a7 l b0 b1 b2 b3 b4 b5 b6 b7 m) false := by
    refine Ev.step (f := fun _ => some false) (fun k => ?_) (Ev.now _)
    simp only [vitrineref20_Same.j0, if_true]
  unfold vitrineref20_Same.f
  by_cases c0 : a0 = b0
  · refine ev_if c0 ?_
    by_cases c1 : a1 = b1
    · refine ev_if c1 ?_
      by_cases c2 : a2 = b2
      · refine ev_if c2 ?_
        by_cases c3 : a3 = b3
        · refine ev_if c3 ?_
          by_cases c4 : a4.toList = b4.toList
          · refine ev_if c4 ?_
            by_cases c5 : a5 = b5 ∧ a6 = b6
            · refine ev_no (by simp [c5.1, c5.2]) ?_
              by_cases c6 : a7.toList = b7.toList
              · refine ev_if c6 ?_
                by_cases c7 : l.length = m.length
                · rw [show ((l.length : Int) != (m.length : Int)) = false from bne_eq_false_iff_eq.mpr (by omega)]
                  refine Ev.step (fun k => ?_) (ev_same (rsame_loop a0 a1 a2 a3 a4 a5 a6 a7 l b0 b1 b2 b3 b4 b5 b6 b7 m hl c7 l.length 0 (by omega)) ?_)
                  · simp only [vitrineref20_Same.j0]
                    rw [if_neg (by decide)]
                    rfl
                  · simp [sameB, c0, c1, c2, c3, c4, c5.1, c5.2, c6, eqB, c7]
                · rw [show ((l.length : Int) != (m.length : Int)) = true from bne_iff_ne.mpr (by omega)]
                  exact ev_same jt (by simp [sameB, eqB, c7])
              · exact ev_no c6 (ev_same jt (by simp [sameB, c6]))
            · refine ev_if (by by_cases h : a5 = b5 <;> simp_all) (ev_same jt ?_)
              by_cases h : a5 = b5 <;> simp_all [sameB]
          · exact ev_no c4 (ev_same jt (by simp [sameB, c4]))
        · exact ev_no c3 (ev_same jt (by simp [sameB, c3]))
      · exact ev_no c2 (ev_same jt (by simp [sameB, c2]))
    · exact ev_no c1 (ev_same jt (by simp [sameB, c1]))
  · exact ev_no c0 (ev_same jt (by simp [sameB, c0]))
theorem WireSame : ∀ (a0_0 : Int) (a0_1 : Int) (a0_2 : Int) (a0_3 : Int) (a0_4 : ByteArray) (a0_5 : Int) (a0_6 : Int) (a0_7 : ByteArray) (l0_8 : List ByteArray) (a1_0 : Int) (a1_1 : Int) (a1_2 : Int) (a1_3 : Int) (a1_4 : ByteArray) (a1_5 : Int) (a1_6 : Int) (a1_7 : ByteArray) (l1_8 : List ByteArray), ((Lit.int .i64 a0_0).wf = true) → ((Lit.int .i64 a0_1).wf = true) → ((Lit.int .i64 a0_2).wf = true) → ((Lit.int .i64 a0_3).wf = true) → (a0_4.size ≤ 140737488351232) → ((Lit.int .i64 a0_5).wf = true) → ((Lit.int .i64 a0_6).wf = true) → (a0_7.size ≤ 140737488351232) → (l0_8.length ≤ maxLen ∧ l0_8.length * 16 ≤ 140737488351232 ∧ ∀ y_ ∈ l0_8, (fun s_ : ByteArray => s_.size ≤ 140737488351232) y_) → ((Lit.int .i64 a1_0).wf = true) → ((Lit.int .i64 a1_1).wf = true) → ((Lit.int .i64 a1_2).wf = true) → ((Lit.int .i64 a1_3).wf = true) → (a1_4.size ≤ 140737488351232) → ((Lit.int .i64 a1_5).wf = true) → ((Lit.int .i64 a1_6).wf = true) → (a1_7.size ≤ 140737488351232) → (l1_8.length ≤ maxLen ∧ l1_8.length * 16 ≤ 140737488351232 ∧ ∀ y_ ∈ l1_8, (fun s_ : ByteArray => s_.size ≤ 140737488351232) y_) → ∃ k, vitrinelaw20_WireSame.f k a0_0 a0_1 a0_2 a0_3 a0_4 a0_5 a0_6 a0_7 l0_8 a1_0 a1_1 a1_2 a1_3 a1_4 a1_5 a1_6 a1_7 l1_8 = some true := by
  intro a0 a1 a2 a3 a4 a5 a6 a7 l b0 b1 b2 b3 b4 b5 b6 b7 m _ _ _ _ _ _ _ _ _ _ _ _ _ _ _ _ _ _
  refine Ev.rounds ?_
  obtain ⟨x, h1, h2⟩ := wfew_ev a0 a1 a2 a3 a4 a5 a6 a7 l
  obtain ⟨y, g1, g2⟩ := wfew_ev b0 b1 b2 b3 b4 b5 b6 b7 m
  unfold vitrinelaw20_WireSame.f
  refine Ev.bind h1 ?_
  cases x with
  | false => exact ev_no (by decide) (ev_id awake20)
  | true =>
    refine ev_if rfl ?_
    refine Ev.bind g1 ?_
    cases y with
    | false => exact ev_no (by decide) (ev_id awake20)
    | true =>
      refine ev_if rfl ?_
      have hl := (h2 rfl).1
      refine Ev.bind (same_ev a0 a1 a2 a3 a4 a5 a6 a7 l b0 b1 b2 b3 b4 b5 b6 b7 m hl) ?_
      refine Ev.bind (rsame_ev a0 a1 a2 a3 a4 a5 a6 a7 l b0 b1 b2 b3 b4 b5 b6 b7 m hl) ?_
      refine ev_if (by simp) ?_
      refine Ev.bind (same_ev a0 a1 a2 a3 a4 a5 a6 a7 l a0 a1 a2 a3 a4 a5 a6 a7 l hl) ?_
      exact ev_if (by simp [sameB, eqB_refl]) (ev_id awake20)

end Go.Proofs.Ytnimhhhbefpifaa.Pure
