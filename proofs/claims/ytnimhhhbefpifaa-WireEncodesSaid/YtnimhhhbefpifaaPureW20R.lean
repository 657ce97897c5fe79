/- The document's answer for a message's bytes, plain. Conditions: as few says. -/
import Derived.Test.YtnimhhhbefpifaaPL20x8
import Derived.Test.YtnimhhhbefpifaaPL20x14
import Derived.Test.YtnimhhhbefpifaaPL20x15
import Derived.Test.YtnimhhhbefpifaaPL20x16
import Derived.Test.YtnimhhhbefpifaaPureW20
import Derived.Test.YtnimhhhbefpifaaPureRed20
namespace Go.Proofs.Ytnimhhhbefpifaa.Pure
open Go.RowKit Go.Proofs.YtnimhhhbefpifaaW.PrintWords Go.Proofs.YtnimhhhbefpifaaW.PrintLast Go.Proofs.YtnimhhhbefpifaaW.PrintMore Go.Proofs.Ytnimhhhbefpifaa.PL20
set_option linter.unusedVariables false
set_option linter.unusedSimpArgs false
theorem ev_if {α : Type} {c : Prop} [Decidable c] {g e : Nat → Option α} {r : α} (h : c) (hg : Ev g r) : Ev (fun k => if c then g k else e k) r := Ev.congr (fun k => if_pos h) hg
theorem ev_no {α : Type} {c : Prop} [Decidable c] {g e : Nat → Option α} {r : α} (h : ¬ c) (hg : Ev e r) : Ev (fun k => if c then g k else e k) r := Ev.congr (fun k => if_neg h) hg
theorem rlong_ev (l : List ByteArray) (hl : l.length ≤ 20) (hs : ∀ j, j < l.length → (rdOf ByteArray.empty l (j : Int)).size ≤ 5000) (a0 a1 a2 a3 : Int) (a4 : ByteArray) (a5 a6 : Int) (a7 : ByteArray) : ∀ d i : Nat, i + d = l.length → Ev (fun k => vitrineref20_Right.l0 k (i : Int) a0 a1 a2 a3 a4 a5 a6 a7 l) true := by
  intro d
  induction d with
  | zero =>
    intro i hi
    refine Ev.step (f := fun _ => some true) (fun k => ?_) (Ev.now _)
    simp only [vitrineref20_Right.l0]
    rw [if_neg (by omega)]
  | succ d ih =>
    intro i hi
    have hw : wrap64 ((i : Int) + 1) = ((i + 1 : Nat) : Int) := by rw [w64 (by omega) (by omega)]; omega
    have hb := hs i (by omega)
    refine Ev.step (fun k => ?_) (ih (i + 1) (by omega))
    simp only [vitrineref20_Right.l0]
    rw [if_pos (by omega), if_pos (by omega), if_neg (by omega), hw]
theorem rright1_ev (a0 a1 a2 a3 : Int) (a4 : ByteArray) (a5 a6 : Int) (a7 : ByteArray) (l : List ByteArray) (hf : fewP a4 a7 l) : Ev (fun k => vitrineref20_Right.j1 k false a0 a1 a2 a3 a4 a5 a6 a7 l) (decide ((l.length : Int) ≤ manyM a7)) := by
  obtain ⟨f1, f2, f3, f4⟩ := hf
  have j2 : ∀ m : Int, Ev (fun k => vitrineref20_Right.j2 k m a0 a1 a2 a3 a4 a5 a6 a7 l) (decide ((l.length : Int) ≤ m)) := by
    intro m
    by_cases c : (l.length : Int) > m
    · rw [decide_eq_false (by omega)]
      refine Ev.step (f := fun _ => some false) (fun k => ?_) (Ev.now _)
      simp only [vitrineref20_Right.j2]
      rw [if_pos c]
    · rw [decide_eq_true (by omega)]
      refine Ev.step (fun k => ?_) (rlong_ev l f1 f4 a0 a1 a2 a3 a4 a5 a6 a7 l.length 0 (by omega))
      simp only [vitrineref20_Right.j2]
      rw [if_neg c]
      rfl
  unfold manyM
  by_cases c1 : a7.toList = ([] : List UInt8)
  · rw [if_pos c1]
    refine Ev.step (fun k => ?_) (j2 0)
    simp only [vitrineref20_Right.j1]
    rw [if_neg (by decide), if_pos c1]
  · rw [if_neg c1]
    refine Ev.step (fun k => by simp only [vitrineref20_Right.j1]; rw [if_neg (by decide), if_neg c1]) ?_
    refine Ev.bind (rRead_ev a7 (by omega)) ?_
    by_cases c2 : (redV a7).2.2.2 = 0
    · rw [if_pos c2]
      exact ev_if c2 (j2 _)
    · rw [if_neg c2, decide_eq_false (by omega)]
      exact ev_no c2 (Ev.now _)
theorem rright0_ev (a0 a1 a2 a3 : Int) (a4 : ByteArray) (a5 a6 : Int) (a7 : ByteArray) (l : List ByteArray) (hf : fewP a4 a7 l) : Ev (fun k => vitrineref20_Right.j0 k false a0 a1 a2 a3 a4 a5 a6 a7 l) (decide (0 ≤ a5 ∧ a5 ≤ 1099511627776) && decide (0 ≤ a6 ∧ a6 ≤ 1023) && !(decide (a5 = 0) && decide (a6 > 0)) && decide ((l.length : Int) ≤ manyM a7)) := by
  have h1 := rright1_ev a0 a1 a2 a3 a4 a5 a6 a7 l hf
  have jt : Ev (fun k => vitrineref20_Right.j1 k true a0 a1 a2 a3 a4 a5 a6 a7 l) false := by
    refine Ev.step (f := fun _ => some false) (fun k => ?_) (Ev.now _)
    simp only [vitrineref20_Right.j1, if_true]
  refine Ev.step (fun k => by simp only [vitrineref20_Right.j0]; rw [if_neg (by decide)]) ?_
  by_cases c1 : a5 < 0
  · exact ev_if c1 (ev_same jt (by rw [decide_eq_false (p := 0 ≤ a5 ∧ a5 ≤ 1099511627776) (by omega)]; rfl))
  · refine ev_no c1 ?_
    by_cases c2 : a5 > 1099511627776
    · exact ev_if c2 (ev_same jt (by rw [decide_eq_false (p := 0 ≤ a5 ∧ a5 ≤ 1099511627776) (by omega)]; rfl))
    · refine ev_no c2 ?_
      rw [decide_eq_true (p := 0 ≤ a5 ∧ a5 ≤ 1099511627776) (by omega)]
      by_cases c3 : a6 < 0
      · exact ev_if c3 (ev_same jt (by rw [decide_eq_false (p := 0 ≤ a6 ∧ a6 ≤ 1023) (by omega)]; rfl))
      · refine ev_no c3 ?_
        by_cases c4 : a6 > 1023
        · exact ev_if c4 (ev_same jt (by rw [decide_eq_false (p := 0 ≤ a6 ∧ a6 ≤ 1023) (by omega)]; rfl))
        · refine ev_no c4 ?_
          rw [decide_eq_true (p := 0 ≤ a6 ∧ a6 ≤ 1023) (by omega)]
          by_cases c5 : a5 = 0
          · refine ev_if c5 ?_
            by_cases c6 : a6 = 0
            · rw [show (a6 != 0) = false from bne_eq_false_iff_eq.mpr c6, decide_eq_false (p := a6 > 0) (by omega)]
              exact ev_same h1 (by simp)
            · rw [show (a6 != 0) = true from bne_iff_ne.mpr c6, decide_eq_true c5, decide_eq_true (p := a6 > 0) (by omega)]
              exact jt
          · refine ev_no c5 ?_
            rw [decide_eq_false c5]
            exact ev_same h1 (by simp)
theorem rright_ev (a0 a1 a2 a3 : Int) (a4 : ByteArray) (a5 a6 : Int) (a7 : ByteArray) (l : List ByteArray) (hf : fewP a4 a7 l) : Ev (fun k => vitrineref20_Right.f k a0 a1 a2 a3 a4 a5 a6 a7 l) (rightB a0 a1 a2 a3 a4 a5 a6 a7 l.length) := by
  have h0 := rright0_ev a0 a1 a2 a3 a4 a5 a6 a7 l hf
  have jt : Ev (fun k => vitrineref20_Right.j0 k true a0 a1 a2 a3 a4 a5 a6 a7 l) false := by
    refine Ev.step (f := fun _ => some false) (fun k => ?_) (Ev.now _)
    simp only [vitrineref20_Right.j0, if_true]
  have bad : ¬ ((1 ≤ a0 ∧ a0 ≤ 4) ∧ (0 ≤ a1 ∧ a1 ≤ 1023) ∧ (0 ≤ a2 ∧ a2 ≤ 1023) ∧ (0 ≤ a3 ∧ a3 ≤ 1099511627776)) → rightB a0 a1 a2 a3 a4 a5 a6 a7 l.length = false := by
    intro h
    cases hb : rightB a0 a1 a2 a3 a4 a5 a6 a7 l.length with
    | false => rfl
    | true =>
      unfold rightB at hb
      simp only [Bool.and_eq_true, decide_eq_true_eq] at hb
      exact absurd ⟨hb.1.1.1.1.1.1.1.1, hb.1.1.1.1.1.1.2, hb.1.1.1.1.1.2, hb.1.1.1.1.2⟩ h
  unfold vitrineref20_Right.f
  by_cases c1 : a0 < 1
  · exact ev_if c1 (ev_same jt (bad (by omega)).symm)
  · refine ev_no c1 ?_
    by_cases c2 : a0 > 4
    · exact ev_if c2 (ev_same jt (bad (by omega)).symm)
    · refine ev_no c2 ?_
      by_cases c3 : a1 < 0
      · exact ev_if c3 (ev_same jt (bad (by omega)).symm)
      · refine ev_no c3 ?_
        by_cases c4 : a1 > 1023
        · exact ev_if c4 (ev_same jt (bad (by omega)).symm)
        · refine ev_no c4 ?_
          by_cases c5 : a2 < 0
          · exact ev_if c5 (ev_same jt (bad (by omega)).symm)
          · refine ev_no c5 ?_
            by_cases c6 : a2 > 1023
            · exact ev_if c6 (ev_same jt (bad (by omega)).symm)
            · refine ev_no c6 ?_
              by_cases c7 : a3 < 0
              · exact ev_if c7 (ev_same jt (bad (by omega)).symm)
              · refine ev_no c7 ?_
                by_cases c8 : a3 > 1099511627776
                · exact ev_if c8 (ev_same jt (bad (by omega)).symm)
                · refine ev_no c8 ?_
                  refine Ev.bind (rName_ev a4 (by have := hf.2.1; omega)) ?_
                  unfold rightB
                  rw [decide_eq_true (p := 1 ≤ a0 ∧ a0 ≤ 4) (by omega), decide_eq_true (p := 0 ≤ a1 ∧ a1 ≤ 1023) (by omega), decide_eq_true (p := 0 ≤ a2 ∧ a2 ≤ 1023) (by omega), decide_eq_true (p := 0 ≤ a3 ∧ a3 ≤ 1099511627776) (by omega)]
                  by_cases c9 : namV a4 = 0
                  · rw [show (namV a4 != 0) = false from by rw [c9]; rfl, show (namV a4 == 0) = true from by rw [c9]; rfl]
                    exact ev_same h0 (by simp only [Bool.true_and, Bool.and_true])
                  · rw [show (namV a4 != 0) = true from bne_iff_ne.mpr c9, show (namV a4 == 0) = false from beq_eq_false_iff_ne.mpr c9]
                    exact ev_same jt (by simp)
theorem push_app (s : ByteArray) (c : Int) : s ++ strOfNums [c] = s.push (UInt8.ofNat c.toNat) := by
  apply ByteArray.ext
  rw [ByteArray.data_append]
  rfl
theorem wnum_app (n : Int) : ∀ (j : Nat) (s : ByteArray), wnum n j s = s ++ wnum n j ByteArray.empty
  | 0, s => by show s = s ++ ByteArray.empty; rw [ByteArray.append_empty]
  | j + 1, s => by
    rw [wnum, wnum, wnum_app n j (s.push _), wnum_app n j (ByteArray.empty.push _), ← push_app, ← push_app, ByteArray.empty_append, ByteArray.append_assoc]
theorem bytes_loop (n : Int) : ∀ (j : Nat) (s : ByteArray), j ≤ 8 → s.size + j ≤ 1000 → Ev (fun k => vitrineref20_bytes.l0 k n s ((j : Int) - 1)) (wnum n j s)
  | 0, s, _, _ => by
    refine Ev.step (f := fun _ => some s) (fun k => ?_) (Ev.now _)
    simp only [vitrineref20_bytes.l0]
    rw [if_neg (by omega)]
  | j + 1, s, hj, hs => by
    have ih := bytes_loop n j (s.push (UInt8.ofNat ((shr .i64 n (8 * (j : Int))) % 256).toNat)) (by omega) (by rw [ByteArray.size_push]; omega)
    have e1 : (((j + 1 : Nat) : Int) - 1) = (j : Int) := by omega
    refine Ev.step (fun k => ?_) ih
    simp only [vitrineref20_bytes.l0]
    have e2 : wrap64 (8 * (j : Int)) = 8 * (j : Int) := w64 (by omega) (by omega)
    have e3 : wrap64 ((j : Int) - 1) = (j : Int) - 1 := w64 (by omega) (by omega)
    have e4 : (strOfNums [(shr .i64 n (8 * (j : Int))) % 256]).size = 1 := by rw [strOfNums_size]; rfl
    rw [e1, if_pos (show (j : Int) ≥ 0 by omega), e2, e3, if_pos (show 0 ≤ 8 * (j : Int) by omega), Option.bind_some, e4, if_pos (show s.size + 1 ≤ 9223372036854775807 by omega), push_app]
theorem bytes_ev (n : Int) (j : Nat) (hj : j ≤ 8) {z : Int} (hz : z = (j : Int)) : Ev (fun k => vitrineref20_bytes.f k n z) (wnum n j ByteArray.empty) := by
  subst hz
  unfold vitrineref20_bytes.f
  rw [w64 (x := (j : Int) - 1) (by omega) (by omega)]
  exact bytes_loop n j ByteArray.empty hj (by have : ByteArray.empty.size = 0 := rfl; omega)
theorem bytes1 (n : Int) : Ev (fun k => vitrineref20_bytes.f k n 1) (wnum n 1 ByteArray.empty) := bytes_ev n 1 (by decide) rfl
theorem bytes2 (n : Int) : Ev (fun k => vitrineref20_bytes.f k n 2) (wnum n 2 ByteArray.empty) := bytes_ev n 2 (by decide) rfl
theorem bytes4 (n : Int) : Ev (fun k => vitrineref20_bytes.f k n 4) (wnum n 4 ByteArray.empty) := bytes_ev n 4 (by decide) rfl
theorem bytes8 (n : Int) : Ev (fun k => vitrineref20_bytes.f k n 8) (wnum n 8 ByteArray.empty) := bytes_ev n 8 (by decide) rfl
theorem szn (n : Int) (j : Nat) : (wnum n j ByteArray.empty).size = j := by
  have : ByteArray.empty.size = 0 := rfl
  rw [wnum_size]; omega
theorem sz4 (n : Int) : (wnum n 4 ByteArray.empty).size = 4 := szn n 4
theorem renc_loop (a0 a1 a2 a3 : Int) (a4 : ByteArray) (a5 a6 : Int) (a7 : ByteArray) (l : List ByteArray) (hf : fewP a4 a7 l) (bs : ByteArray) (hb : bs.size ≤ 20000) : ∀ d i : Nat, i + d = l.length → Ev (fun k => vitrineref20_Encode.l0 k (wbands l bs i) (i : Int) a0 a1 a2 a3 a4 a5 a6 a7 l) (wnum (crc (wbands l bs l.length)) 4 ByteArray.empty ++ wbands l bs l.length, 0) := by
  obtain ⟨f1, f2, f3, f4⟩ := hf
  have he : ByteArray.empty.size = 0 := rfl
  intro d
  induction d with
  | zero =>
    intro i hi
    obtain rfl : i = l.length := by omega
    have hz := wbands_size l bs l.length
    have ht := wtot_le l.length f4 l.length (Nat.le_refl _)
    refine Ev.step (fun k => by simp only [vitrineref20_Encode.l0]; rw [if_neg (by omega)]) ?_
    refine Ev.bind (rCrc_ev _ (by omega)) ?_
    refine Ev.bind (bytes4 _) ?_
    exact ev_if (by rw [wnum_size]; omega) (Ev.now _)
  | succ d ih =>
    intro i hi
    have q1 : (i : Int) < (l.length : Int) := by omega
    have q2 : 0 ≤ (i : Int) := by omega
    have q3 : i + 1 + d = l.length := by omega
    have hj := f4 i (by omega)
    have hw : wrap64 ((i : Int) + 1) = ((i + 1 : Nat) : Int) := by
      clear hj
      rw [w64 (by omega) (by omega)]; omega
    have hS : (wbands l bs i).size ≤ 200000 := by
      have ht := wtot_le l.length f4 i (by clear hj hw; omega)
      rw [wbands_size]
      clear hw hj
      omega
    refine Ev.step (f := fun k => (vitrineref20_bytes.f k ((rdOf ByteArray.empty l (i : Int)).size : Int) 4).bind fun t161 => (if (wbands l bs i).size + t161.size ≤ 9223372036854775807 then (if ((wbands l bs i) ++ t161).size + (rdOf ByteArray.empty l (i : Int)).size ≤ 9223372036854775807 then (vitrineref20_Encode.l0 k (((wbands l bs i) ++ t161) ++ (rdOf ByteArray.empty l (i : Int))) (wrap64 ((i : Int) + 1)) a0 a1 a2 a3 a4 a5 a6 a7 l) else (none)) else (none))) (fun k => ?_) ?_
    · simp only [vitrineref20_Encode.l0]
      rw [if_pos q1, if_pos q2]
    refine Ev.bind (bytes4 _) ?_
    refine ev_if (by rw [sz4]; exact Nat.le_trans (Nat.add_le_add_right hS _) (by decide)) ?_
    refine ev_if (by rw [ByteArray.size_append, sz4]; exact Nat.le_trans (Nat.add_le_add (Nat.add_le_add_right hS 4) hj) (by decide)) ?_
    have e : (wbands l bs i ++ wnum ((rdOf ByteArray.empty l (i : Int)).size : Int) 4 ByteArray.empty) ++ rdOf ByteArray.empty l (i : Int) = wbands l bs (i + 1) := by
      show _ = wtext (rdOf ByteArray.empty l (i : Int)) 4 (wbands l bs i)
      unfold wtext
      rw [wnum_app _ 4 (wbands l bs i)]
    rw [hw, e]
    exact ih (i + 1) q3
theorem rEnc_ev (a0 a1 a2 a3 : Int) (a4 : ByteArray) (a5 a6 : Int) (a7 : ByteArray) (l : List ByteArray) (hf : fewP a4 a7 l) : Ev (fun k => vitrineref20_Encode.f k a0 a1 a2 a3 a4 a5 a6 a7 l) (encV a0 a1 a2 a3 a4 a5 a6 a7 l) := by
  have g1 := hf.2.1
  have g2 := hf.2.2.1
  unfold vitrineref20_Encode.f encV
  refine Ev.bind (rright_ev a0 a1 a2 a3 a4 a5 a6 a7 l hf) ?_
  by_cases hr : rightB a0 a1 a2 a3 a4 a5 a6 a7 l.length = true
  · rw [if_pos hr]
    refine ev_if hr ?_
    have sz := szn
    refine Ev.bind (bytes1 _) ?_
    refine Ev.bind (bytes2 _) ?_
    refine ev_if (by simp only [ByteArray.size_append, sz]; omega) ?_
    refine Ev.bind (bytes2 _) ?_
    refine ev_if (by simp only [ByteArray.size_append, sz]; omega) ?_
    refine Ev.bind (bytes8 _) ?_
    refine ev_if (by simp only [ByteArray.size_append, sz]; omega) ?_
    refine Ev.bind (bytes1 _) ?_
    refine ev_if (by simp only [ByteArray.size_append, sz]; omega) ?_
    refine ev_if (by simp only [ByteArray.size_append, sz]; omega) ?_
    refine Ev.bind (bytes8 _) ?_
    refine ev_if (by simp only [ByteArray.size_append, sz]; omega) ?_
    refine Ev.bind (bytes2 _) ?_
    refine ev_if (by simp only [ByteArray.size_append, sz]; omega) ?_
    refine Ev.bind (bytes4 _) ?_
    refine ev_if (by simp only [ByteArray.size_append, sz]; omega) ?_
    refine ev_if (by simp only [ByteArray.size_append, sz]; omega) ?_
    refine Ev.bind (bytes2 _) ?_
    refine ev_if (by simp only [ByteArray.size_append, sz]; omega) ?_
    have e : wenc a0 a1 a2 a3 a4 a5 a6 a7 (l.length : Int) = (((((((((wnum a0 1 ByteArray.empty ++ wnum a1 2 ByteArray.empty) ++ wnum a2 2 ByteArray.empty) ++ wnum a3 8 ByteArray.empty) ++ wnum (a4.size : Int) 1 ByteArray.empty) ++ a4) ++ wnum a5 8 ByteArray.empty) ++ wnum a6 2 ByteArray.empty) ++ wnum (a7.size : Int) 4 ByteArray.empty) ++ a7) ++ wnum (l.length : Int) 2 ByteArray.empty := by
      unfold wenc wtext
      rw [wnum_app (l.length : Int) 2 (_ ++ a7), wnum_app (a7.size : Int) 4 (wnum a6 2 _), wnum_app a6 2 (wnum a5 8 _), wnum_app a5 8 (_ ++ a4), wnum_app (a4.size : Int) 1 (wnum a3 8 _), wnum_app a3 8 (wnum a2 2 _), wnum_app a2 2 (wnum a1 2 _), wnum_app a1 2 (wnum a0 1 _)]
    rw [← e]
    exact renc_loop a0 a1 a2 a3 a4 a5 a6 a7 l hf (wenc a0 a1 a2 a3 a4 a5 a6 a7 (l.length : Int)) (by rw [wenc_size]; omega) l.length 0 (Nat.zero_add _)
  · rw [if_neg hr]
    exact ev_no hr (Ev.now _)

end Go.Proofs.Ytnimhhhbefpifaa.Pure
