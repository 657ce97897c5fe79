/- What a walk has made so far: a whole row of a box written anew. No conditions. -/
import Derived.Test.YtejljcglbkjgkaaSV2
import Derived.Laws.CopyOwn
namespace Go.Proofs.YtejljcglbkjgkaaV
open Go.RowKit Go.Proofs.YtejljcglbkjgkaaW.PrintWords Go.Proofs.YtejljcglbkjgkaaW.PrintLast Go.Proofs.YtejljcglbkjgkaaW.PrintMore
set_option linter.unusedVariables false
theorem Sv.upd {w0 w w' : World} {L : List (Nat × Array Value × Nat)} {g : Nat} {cs cs' : Array Value} {t : Nat} (h : Sv w0 L w) (i : Nat) (hi : L[i]? = some (g, cs, t)) (hb : Below w0.heap.size w0 w') (hx : w'.heap[g]? = some (.cells cs' t (0, 0))) (hk : ∀ k, k ≠ g → w'.heap[k]? = w.heap[k]?) : Sv w0 (L.set i (g, cs', t)) w' := by
  obtain ⟨hi1, hi2⟩ := List.getElem?_eq_some_iff.1 hi
  have hge := h.ge i hi
  have hq := List.pairwise_iff_getElem.1 h.2.2
  refine ⟨hb, fun p hp => ?_, ?_⟩
  · obtain ⟨j, hj⟩ := List.getElem?_of_mem hp
    rw [List.getElem?_set] at hj
    by_cases hij : i = j
    · rw [if_pos hij, if_pos hi1] at hj
      cases hj
      exact ⟨hx, hge⟩
    · rw [if_neg hij] at hj
      have hp2 := h.2.1 p (List.mem_of_getElem? hj)
      refine ⟨(hk p.1 (fun e => ?_)).trans hp2.1, hp2.2⟩
      obtain ⟨hj1, hj2⟩ := List.getElem?_eq_some_iff.1 hj
      rcases Nat.lt_or_gt_of_ne hij with hlt | hlt
      · have := hq i j hi1 hj1 hlt
        rw [hi2, hj2] at this
        exact this e.symm
      · have := hq j i hj1 hi1 hlt
        rw [hi2, hj2] at this
        exact this e
  · rw [List.pairwise_iff_getElem]
    intro a b ha hb hab
    rw [List.length_set] at ha hb
    have key : ∀ (k : Nat) (hk : k < L.length), ((L.set i (g, cs', t))[k]'(by rw [List.length_set]; exact hk)).1 = L[k].1 := fun k hk => by
      rw [List.getElem_set]
      by_cases e : i = k
      · rw [if_pos e]
        subst e
        rw [hi2]
      · rw [if_neg e]
    rw [key a ha, key b hb]
    exact hq a b ha hb hab
theorem Sv.setRow {w0 w : World} {L : List (Nat × Array Value × Nat)} {g : Nat} {cs : Array Value} {t : Nat} (h : Sv w0 L w) (i : Nat) (hi : L[i]? = some (g, cs, t)) (cs' : Array Value) : Sv w0 (L.set i (g, cs', t)) (w.setRow g cs') := by
  have hb := h.at i hi
  refine h.upd i hi ?_ (setRow_heap w g cs cs' t (0, 0) hb) (fun k hk => ?_)
  · exact below_setRow h.1 (h.ge i hi) cs'
  · exact setRow_other w g k cs' hk
theorem Sv.base {w0 w : World} {L : List (Nat × Array Value × Nat)} {g : Nat} (h : Sv w0 L w) (hg : g < w0.heap.size) (cs : Array Value) : Sv (w0.setRow g cs) L (w.setRow g cs) := by
  have hs : (w0.setRow g cs).heap.size = w0.heap.size := setRow_size w0 g cs
  refine ⟨⟨h.1.os, h.1.tape, h.1.output, by rw [hs, setRow_size]; exact h.1.size, fun k hk => ?_⟩, fun p hp => ⟨?_, by rw [hs]; exact (h.2.1 p hp).2⟩, h.2.2⟩
  · rw [hs] at hk
    by_cases e : k = g
    · subst e
      have hb := h.1.block k hk
      unfold World.setRow
      simp only [Array.getElem?_modify]
      rw [hb]
    · rw [setRow_other _ _ _ _ e, setRow_other _ _ _ _ e]
      exact h.1.block k hk
  · have : p.1 ≠ g := fun e => by have := (h.2.1 p hp).2; omega
    rw [setRow_other _ _ _ _ this]
    exact (h.2.1 p hp).1
end Go.Proofs.YtejljcglbkjgkaaV
