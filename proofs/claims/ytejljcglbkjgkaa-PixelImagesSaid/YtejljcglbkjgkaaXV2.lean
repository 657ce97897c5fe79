/- What a walk has made so far: a row that grows beside the boxes. No conditions. -/
import Derived.Test.YtejljcglbkjgkaaXV
namespace Go.Proofs.YtejljcglbkjgkaaV
open Go.RowKit Go.Proofs.YtejljcglbkjgkaaW.PrintWords Go.Proofs.YtejljcglbkjgkaaW.PrintLast Go.Proofs.YtejljcglbkjgkaaW.PrintMore
set_option linter.unusedVariables false
theorem Sv.grown {w0 w w1 : World} {L : List (Nat × Array Value × Nat)} {row : Option Nat} (h : Sv w0 L w) (hg : w.grownBy w1 row) (hr : ∀ p ∈ L, row ≠ some p.1) (hb : ∀ k, row = some k → w0.heap.size ≤ k) : Sv w0 L w1 :=
  ⟨h.1.grown hg h.1.size hb, fun p hp => ⟨(hg.block p.1 (blk_lt (h.2.1 p hp).1) (fun e => hr p hp e.symm)).trans (h.2.1 p hp).1, (h.2.1 p hp).2⟩, h.2.2⟩
theorem Sv.row {w0 w w1 : World} {L : List (Nat × Array Value × Nat)} {e size n : Nat} {v : Value} {xs : List Value} (h : Sv w0 L w) (ho : w.ownsRow w0.heap.size e size v n xs) (hg : w.grownBy w1 v.ownBlock) (ht : ∀ p ∈ L, p.2.2 ≠ e) : Sv w0 L w1 := by
  refine h.grown hg (fun p hp he => ?_) (fun k hk => own_base ho k hk)
  obtain ⟨cells, hc⟩ := own_typed ho p.1 he
  rw [(h.2.1 p hp).1] at hc
  injection hc with hc
  injection hc with _ hc _
  exact ht p hp hc
end Go.Proofs.YtejljcglbkjgkaaV
