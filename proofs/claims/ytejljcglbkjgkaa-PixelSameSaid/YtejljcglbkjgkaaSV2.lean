/- What a walk has made so far: a row that grows beside the boxes. No conditions. -/
import Derived.Test.YtejljcglbkjgkaaSV
namespace Go.Proofs.YtejljcglbkjgkaaV
open Go.RowKit Go.Proofs.YtejljcglbkjgkaaW.PrintWords Go.Proofs.YtejljcglbkjgkaaW.PrintLast Go.Proofs.YtejljcglbkjgkaaW.PrintMore
set_option linter.unusedVariables false
theorem Sv.grown {w0 w w1 : World} {L : List (Nat × Array Value × Nat)} {row : Option Nat} (h : Sv w0 L w) (hg : w.grownBy w1 row) (hr : ∀ p ∈ L, row ≠ some p.1) (hb : ∀ k, row = some k → w0.heap.size ≤ k) : Sv w0 L w1 :=
  ⟨h.1.grown hg h.1.size hb, fun p hp => ⟨(hg.block p.1 (blk_lt (h.2.1 p hp).1) (fun e => hr p hp e.symm)).trans (h.2.1 p hp).1, (h.2.1 p hp).2⟩, h.2.2⟩
theorem Sv.row {w0 w w1 : World} {L : List (Nat × Array Value × Nat)} {e size n : Nat} {v : Value} {xs : List Value} (h : Sv w0 L w) (ho : w.ownsRow w0.heap.size e size v n xs) (hg : w.grownBy w1 v.ownBlock) (ht : ∀ p ∈ L, p.2.2 ≠ e) : Sv w0 L w1 := by
  refine h.grown hg (fun p hp he => ?_) (fun k hk => own_base ho k hk)
  obtain ⟨cells, hc⟩ := own_typed ho p.1 he
  rw [(h.2.1 p hp).1] at hc
  injection hc with hc
  injection hc with _ hc _
  exact ht p hp hc
theorem Sv.keeps {w0 w : World} {L : List (Nat × Array Value × Nat)} {g : Nat} {cs : Array Value} {t : Nat} (h : Sv w0 L w) (i : Nat) (hi : L[i]? = some (g, cs, t)) {α : Type} {d : Kd α} {e base : Nat} {u : Value} {xs : List α} (ht : ∀ q, q ∈ e :: d.E → q ≠ t) (hR : d.R e w base (fun _ => True) u xs) (c : Nat) (v : Value) : d.R e (w.setCell ⟨g, c, none⟩ v) base (fun _ => True) u xs :=
  Kd.R_mono (Kd.R_far (p := ⟨g, c, none⟩) (Kd.R_types hR (h.at i hi) ht) (fun k hk => hk.2) v) (fun _ _ => trivial)
end Go.Proofs.YtejljcglbkjgkaaV
