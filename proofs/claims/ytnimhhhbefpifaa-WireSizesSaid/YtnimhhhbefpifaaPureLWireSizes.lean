/- WireSizes, plain: how long a message's bytes are. Condition: as the law's own few. -/
import Derived.Test.YtnimhhhbefpifaaPL20x8
import Derived.Test.YtnimhhhbefpifaaPL20x9
import Derived.Test.YtnimhhhbefpifaaPL20x18
import Derived.Test.YtnimhhhbefpifaaPureW20
namespace Go.Proofs.Ytnimhhhbefpifaa.Pure
open Go.RowKit Go.Proofs.YtnimhhhbefpifaaW.PrintWords Go.Proofs.YtnimhhhbefpifaaW.PrintLast Go.Proofs.YtnimhhhbefpifaaW.PrintMore Go.Proofs.Ytnimhhhbefpifaa.PL20
set_option linter.unusedVariables false
set_option linter.unusedSimpArgs false
theorem sizes_loop (s : ByteArray) (a0 a1 a2 a3 : Int) (a4 : ByteArray) (a5 a6 : Int) (a7 : ByteArray) (l : List ByteArray) (hf : fewP a4 a7 l) (hs : s.size = 34 + a4.size + a7.size + wtot l l.length) : ∀ d i : Nat, i + d = l.length → Ev (fun k => vitrinelaw20_WireSizes.l0 k s ((34 + a4.size + a7.size + wtot l i : Nat) : Int) (i : Int) a0 a1 a2 a3 a4 a5 a6 a7 l) true := by
  obtain ⟨f1, f2, f3, f4⟩ := hf
  intro d
  induction d with
  | zero =>
    intro i hi
    have hi : i = l.length := by omega
    subst hi
    refine Ev.step (f := fun k => (vitrinelaw20_awake.f k).bind fun t => some t) (fun k => ?_) (ev_id awake20)
    simp only [vitrinelaw20_WireSizes.l0]
    rw [if_neg (by omega), if_pos (by omega)]
  | succ d ih =>
    intro i hi
    have hw : wrap64 ((i : Int) + 1) = ((i + 1 : Nat) : Int) := by rw [w64 (by omega) (by omega)]; omega
    have ht := wtot_le l.length f4 i (by omega)
    have hj := f4 i (by omega)
    have he : wrap64 ((wrap64 (((34 + a4.size + a7.size + wtot l i : Nat) : Int) + 4)) + ((rdOf ByteArray.empty l (i : Int)).size : Int)) = ((34 + a4.size + a7.size + wtot l (i + 1) : Nat) : Int) := by
      rw [show wtot l (i + 1) = wtot l i + 4 + (rdOf ByteArray.empty l (i : Int)).size from rfl]
      rw [w64 (x := ((34 + a4.size + a7.size + wtot l i : Nat) : Int) + 4) (by omega) (by omega), w64 (by omega) (by omega)]
      omega
    refine Ev.step (fun k => ?_) (ih (i + 1) (by omega))
    simp only [vitrinelaw20_WireSizes.l0]
    rw [if_pos (by omega), if_pos (by omega), he, hw]
theorem WireSizes : ∀ (a0_0 : Int) (a0_1 : Int) (a0_2 : Int) (a0_3 : Int) (a0_4 : ByteArray) (a0_5 : Int) (a0_6 : Int) (a0_7 : ByteArray) (l0_8 : List ByteArray), ((Lit.int .i64 a0_0).wf = true) → ((Lit.int .i64 a0_1).wf = true) → ((Lit.int .i64 a0_2).wf = true) → ((Lit.int .i64 a0_3).wf = true) → (a0_4.size ≤ 140737488351232) → ((Lit.int .i64 a0_5).wf = true) → ((Lit.int .i64 a0_6).wf = true) → (a0_7.size ≤ 140737488351232) → (l0_8.length ≤ maxLen ∧ l0_8.length * 16 ≤ 140737488351232 ∧ ∀ y_ ∈ l0_8, (fun s_ : ByteArray => s_.size ≤ 140737488351232) y_) → ∃ k, vitrinelaw20_WireSizes.f k a0_0 a0_1 a0_2 a0_3 a0_4 a0_5 a0_6 a0_7 l0_8 = some true := by
  intro a0 a1 a2 a3 a4 a5 a6 a7 l _ _ _ _ _ _ _ _ _
  refine Ev.rounds ?_
  obtain ⟨b, h1, h2⟩ := wfew_ev a0 a1 a2 a3 a4 a5 a6 a7 l
  unfold vitrinelaw20_WireSizes.f
  refine Ev.bind h1 ?_
  cases b with
  | false => exact Ev.congr (fun k => by rw [if_neg (by decide)]) (ev_id awake20)
  | true =>
    have hf := h2 rfl
    simp only [if_true]
    refine Ev.bind (Enc_ev a0 a1 a2 a3 a4 a5 a6 a7 l hf) ?_
    unfold encV
    by_cases hr : rightB a0 a1 a2 a3 a4 a5 a6 a7 l.length = true
    · simp only [if_pos hr, if_true]
      have hz := wbody_size a0 a1 a2 a3 a4 a5 a6 a7 l
      have hz2 : (wnum (crc (wbody a0 a1 a2 a3 a4 a5 a6 a7 l)) 4 ByteArray.empty ++ wbody a0 a1 a2 a3 a4 a5 a6 a7 l).size = 34 + a4.size + a7.size + wtot l l.length := by
        have : ByteArray.empty.size = 0 := rfl
        rw [ByteArray.size_append, wnum_size, hz]
        omega
      have hw : wrap64 ((wrap64 (34 + (a4.size : Int))) + (a7.size : Int)) = ((34 + a4.size + a7.size + wtot l 0 : Nat) : Int) := by
        obtain ⟨f1, f2, f3, f4⟩ := hf
        rw [w64 (x := 34 + (a4.size : Int)) (by omega) (by omega), w64 (by omega) (by omega)]
        unfold wtot
        omega
      rw [hw]
      exact sizes_loop _ a0 a1 a2 a3 a4 a5 a6 a7 l hf hz2 l.length 0 (by omega)
    · simp only [if_neg hr]
      refine Ev.congr (fun k => ?_) (ev_id awake20)
      rw [if_neg (by decide), if_pos trivial, if_pos (by rw [toList_data])]

end Go.Proofs.Ytnimhhhbefpifaa.Pure
