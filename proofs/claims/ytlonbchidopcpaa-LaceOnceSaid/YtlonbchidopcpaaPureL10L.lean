/- Layer 10 (lace): the plain laws LacePasses, LaceSizes, LaceRows, LaceRowIs, LaceSizeIs, LacePlain. Conditions: whole numbers of 64 bits. -/
import Derived.Test.YtlonbchidopcpaaPL10x2
import Derived.Test.YtlonbchidopcpaaPL10x9
import Derived.Test.YtlonbchidopcpaaPL10x11
import Derived.Test.YtlonbchidopcpaaPL10x12
import Derived.Test.YtlonbchidopcpaaPL10x16
import Derived.Test.YtlonbchidopcpaaPL10x18
import Derived.Test.YtlonbchidopcpaaPL10x19
import Derived.Test.YtlonbchidopcpaaPL10x20
import Derived.Test.YtlonbchidopcpaaPL10x21
import Derived.Test.YtlonbchidopcpaaPureL10
import Derived.KernelRfl
namespace Go.Proofs.Ytlonbchidopcpaa.Pure
open Go.RowKit Go.Proofs.YtlonbchidopcpaaW.PrintWords Go.Proofs.YtlonbchidopcpaaW.PrintLast Go.Proofs.YtlonbchidopcpaaW.PrintMore Go.Proofs.Ytlonbchidopcpaa.PL10
set_option linter.unusedVariables false
set_option linter.unusedSimpArgs false
theorem passes_loop (l : List (S34)) (hl : l.length ≤ 7) : ∀ d i : Nat, i + d = l.length → Ev (fun k => vitrinelaw10_passes.l0 k l l (i : Int)) true := by
  intro d
  induction d with
  | zero =>
    intro i hi
    refine Ev.step (f := fun _ => some true) (fun k => ?_) (Ev.now _)
    simp only [vitrinelaw10_passes.l0]
    rw [if_neg (by omega)]
  | succ d ih =>
    intro i hi
    refine Ev.step (fun k => ?_) (ih (i + 1) (by omega))
    have hw := w_succ (i := i) (by omega)
    simp only [vitrinelaw10_passes.l0]
    rw [if_pos (by omega), if_pos (by omega), if_pos (by omega), if_neg (by simp), hw]
theorem passes_ev (l : List (S34)) (hl : l.length ≤ 7) : Ev (fun k => vitrinelaw10_passes.f k l l) true := by
  unfold vitrinelaw10_passes.f
  simp only [if_true]
  exact passes_loop l hl l.length 0 (by omega)
theorem awake_ev : Ev (fun k => vitrinelaw10_awake.f k) true := by
  unfold vitrinelaw10_awake.f
  refine Ev.bind (Passes_ev 5 1 8 0 1 (by decide)) ?_
  rw [show pss 5 1 8 0 1 = [(⟨0, 0, 8, 8, 1, 1⟩ : S34), (⟨4, 0, 8, 8, 1, 1⟩ : S34), (⟨2, 0, 4, 4, 1, 1⟩ : S34), (⟨1, 0, 2, 2, 2, 1⟩ : S34)] from by unfold pss; rw [if_pos (by decide +kernel)]; kernel_rfl]
  refine Ev.bind (passes_ev _ (by simp)) ?_
  simp only [if_true]
  refine Ev.bind (Row_ev 1 1 1 0 0 9 (by decide)) ?_
  rw [show row 1 1 1 0 0 9 = 2 by decide +kernel]
  simp only [if_true]
  refine Ev.bind (Size_ev 3 2 8 2 0 (by decide)) ?_
  exact ev_same (Ev.now _) (by decide +kernel)
theorem awake_id : Ev (fun k => (vitrinelaw10_awake.f k).bind fun t => some t) true := ev_id awake_ev
theorem LacePasses : ∀ (a0_0 : Int) (a0_1 : Int) (a0_2 : Int) (a0_3 : Int) (a0_4 : Int), ((Lit.int .i64 a0_0).wf = true) → ((Lit.int .i64 a0_1).wf = true) → ((Lit.int .i64 a0_2).wf = true) → ((Lit.int .i64 a0_3).wf = true) → ((Lit.int .i64 a0_4).wf = true) → ∃ k, vitrinelaw10_LacePasses.f k a0_0 a0_1 a0_2 a0_3 a0_4 = some true := by
  intro W H D C L _ _ _ _ hL
  refine Ev.rounds ?_
  unfold vitrinelaw10_LacePasses.f
  refine Ev.bind (Passes_ev W H D C L (wf_i64 hL)) (Ev.bind (rPasses_ev W H D C L) (Ev.bind (passes_ev _ pss_len) ?_))
  simp only [if_true]
  exact awake_id
theorem LaceSizes : ∀ (a0_0 : Int) (a0_1 : Int) (a0_2 : Int) (a0_3 : Int) (a0_4 : Int) (a1 : Int), ((Lit.int .i64 a0_0).wf = true) → ((Lit.int .i64 a0_1).wf = true) → ((Lit.int .i64 a0_2).wf = true) → ((Lit.int .i64 a0_3).wf = true) → ((Lit.int .i64 a0_4).wf = true) → ((Lit.int .i64 a1).wf = true) → ∃ k, vitrinelaw10_LaceSizes.f k a0_0 a0_1 a0_2 a0_3 a0_4 a1 = some true := by
  intro W H D C L p _ _ _ _ hL _
  refine Ev.rounds ?_
  unfold vitrinelaw10_LaceSizes.f
  refine Ev.bind (Row_ev W H D C L p (wf_i64 hL)) (Ev.bind (rRow_ev W H D C L p) ?_)
  simp only [if_true]
  refine Ev.bind (Size_ev W H D C L (wf_i64 hL)) (Ev.bind (rSize_ev W H D C L) ?_)
  simp only [if_true]
  exact awake_id
theorem LaceRowIs : ∀ (a0_0 : Int) (a0_1 : Int) (a0_2 : Int) (a0_3 : Int) (a0_4 : Int) (a1 : Int), ((Lit.int .i64 a0_0).wf = true) → ((Lit.int .i64 a0_1).wf = true) → ((Lit.int .i64 a0_2).wf = true) → ((Lit.int .i64 a0_3).wf = true) → ((Lit.int .i64 a0_4).wf = true) → ((Lit.int .i64 a1).wf = true) → ∃ k, vitrinelaw10_LaceRowIs.f k a0_0 a0_1 a0_2 a0_3 a0_4 a1 = some true := by
  intro W H D C L p _ _ _ _ hL _
  refine Ev.rounds ?_
  unfold vitrinelaw10_LaceRowIs.f
  refine Ev.bind (Row_ev W H D C L p (wf_i64 hL)) (Ev.bind (rRow_ev W H D C L p) ?_)
  simp only [if_true]
  exact awake_id
theorem LaceSizeIs : ∀ (a0_0 : Int) (a0_1 : Int) (a0_2 : Int) (a0_3 : Int) (a0_4 : Int), ((Lit.int .i64 a0_0).wf = true) → ((Lit.int .i64 a0_1).wf = true) → ((Lit.int .i64 a0_2).wf = true) → ((Lit.int .i64 a0_3).wf = true) → ((Lit.int .i64 a0_4).wf = true) → ∃ k, vitrinelaw10_LaceSizeIs.f k a0_0 a0_1 a0_2 a0_3 a0_4 = some true := by
  intro W H D C L _ _ _ _ hL
  refine Ev.rounds ?_
  unfold vitrinelaw10_LaceSizeIs.f
  refine Ev.bind (Size_ev W H D C L (wf_i64 hL)) (Ev.bind (rSize_ev W H D C L) ?_)
  simp only [if_true]
  exact awake_id
theorem LaceRows : ∀ (a0_0 : Int) (a0_1 : Int) (a0_2 : Int) (a0_3 : Int) (a0_4 : Int) (a1 : Int), ((Lit.int .i64 a0_0).wf = true) → ((Lit.int .i64 a0_1).wf = true) → ((Lit.int .i64 a0_2).wf = true) → ((Lit.int .i64 a0_3).wf = true) → ((Lit.int .i64 a0_4).wf = true) → ((Lit.int .i64 a1).wf = true) → ∃ k, vitrinelaw10_LaceRows.f k a0_0 a0_1 a0_2 a0_3 a0_4 a1 = some true := by
  intro W H D C L p _ _ _ _ hL _
  have hL := wf_i64 hL
  refine Ev.rounds ?_
  unfold vitrinelaw10_LaceRows.f
  refine Ev.bind (Passes_ev W H D C L hL) ?_
  have ht : Ev (fun k => vitrinelaw10_LaceRows.j0 k p true W H D C L) true := by
    refine Ev.step (fun k => ?_) awake_id
    simp only [vitrinelaw10_LaceRows.j0, if_true]
  by_cases h0 : ((pss W H D C L).length : Int) = 0
  · simp only [if_pos h0]; exact ht
  · simp only [if_neg h0]
    have hg : rgt W H D C L = 0 := by
      by_cases h : rgt W H D C L = 0
      · exact h
      · exact absurd (by rw [pss_nil h]; rfl) h0
    by_cases h1 : p < 1
    · simp only [if_pos h1]; exact ht
    · simp only [if_neg h1]
      by_cases h2 : p > 1023
      · rw [decide_eq_true h2]; exact ht
      · rw [decide_eq_false h2]
        obtain ⟨_, _, _, _, _, hd, _⟩ := rgt_0 hg
        have hb := dep_smp hd
        have hp := row_prod hb (p := p) (by omega) (by omega)
        have ea : row W H D C L p = (D * smp C * p + 7) / 8 := if_pos ⟨hg, by omega, by omega⟩
        have eb : row W H D C L (p + 1) = (D * smp C * (p + 1) + 7) / 8 := if_pos ⟨hg, by omega, by omega⟩
        have em : D * smp C * (p + 1) = D * smp C * p + D * smp C := by rw [Int.mul_add, Int.mul_one]
        rw [em] at eb
        have rb := row_range W H D C L p
        refine Ev.step (f := fun k => ((lace_Row.f k W H D C L p).bind fun t197 => ((lace_Row.f k W H D C L (p + 1)).bind fun t198 => (if t197 ≥ 1 then (if t198 ≥ t197 then (if t198 ≤ (wrap64 (t197 + 8)) then ((vitrinelaw10_awake.f k).bind fun t199 => (some t199)) else (some false)) else (some false)) else (some false))))) (fun k => ?_) (Ev.bind (Row_ev W H D C L p hL) (Ev.bind (Row_ev W H D C L (p + 1) hL) ?_))
        · simp only [vitrinelaw10_LaceRows.j0]
          rw [if_neg (by decide), w64 (x := p + 1) (by omega) (by omega)]
        · simp only [if_pos (show row W H D C L p ≥ 1 by omega), if_pos (show row W H D C L (p + 1) ≥ row W H D C L p by omega)]
          rw [w64 (x := row W H D C L p + 8) (by omega) (by omega)]
          simp only [if_pos (show row W H D C L (p + 1) ≤ row W H D C L p + 8 by omega)]
          exact awake_id
theorem LacePlain : ∀ (a0_0 : Int) (a0_1 : Int) (a0_2 : Int) (a0_3 : Int) (a0_4 : Int), ((Lit.int .i64 a0_0).wf = true) → ((Lit.int .i64 a0_1).wf = true) → ((Lit.int .i64 a0_2).wf = true) → ((Lit.int .i64 a0_3).wf = true) → ((Lit.int .i64 a0_4).wf = true) → ∃ k, vitrinelaw10_LacePlain.f k a0_0 a0_1 a0_2 a0_3 a0_4 = some true := by
  intro W H D C L _ _ _ _ _
  refine Ev.rounds ?_
  unfold vitrinelaw10_LacePlain.f
  refine Ev.bind (Passes_ev W H D C 0 (by omega)) ?_
  by_cases h : rgt W H D C 0 = 0
  · rw [show pss W H D C 0 = [(⟨0, 0, 1, 1, W, H⟩ : S34)] from by unfold pss; rw [if_pos h]; rfl]
    simp only [if_neg (show ¬ (([(⟨0, 0, 1, 1, W, H⟩ : S34)].length : Int) = 0) by simp)]
    refine Ev.bind (passes_ev _ (by simp)) ?_
    simp only [if_true]
    exact awake_id
  · rw [pss_nil h]
    simp only [if_pos (show (([] : List (S34)).length : Int) = 0 by rfl)]
    exact awake_id

end Go.Proofs.Ytlonbchidopcpaa.Pure
