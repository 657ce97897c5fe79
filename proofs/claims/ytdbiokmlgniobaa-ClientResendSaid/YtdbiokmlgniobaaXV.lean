/- What a walk has made so far: all that lay there is as it was, and some boxes hold what they hold. No conditions. -/
import Derived.Test.YtdbiokmlgniobaaXWMore
import Derived.Test.YtdbiokmlgniobaaXWLast
namespace Go.Proofs.YtdbiokmlgniobaaV
open Go.RowKit Go.Proofs.YtdbiokmlgniobaaW.PrintWords Go.Proofs.YtdbiokmlgniobaaW.PrintLast Go.Proofs.YtdbiokmlgniobaaW.PrintMore
set_option linter.unusedVariables false
def Sv (w0 : World) (L : List (Nat × Array Value × Nat)) (w : World) : Prop :=
  Below w0.heap.size w0 w ∧ (∀ p ∈ L, w.heap[p.1]? = some (.cells p.2.1 p.2.2 (0, 0)) ∧ w0.heap.size ≤ p.1) ∧ L.Pairwise (fun p q => p.1 ≠ q.1)
theorem Sv.new (w : World) : Sv w [] w := ⟨Below.refl _ _, fun _ h => absurd h List.not_mem_nil, List.Pairwise.nil⟩
theorem Sv.below {w0 w : World} {L : List (Nat × Array Value × Nat)} (h : Sv w0 L w) : Below w0.heap.size w0 w := h.1
theorem Sv.step {w0 w w' : World} {L : List (Nat × Array Value × Nat)} (h : Sv w0 L w) (hb : Below w.heap.size w w') : Sv w0 L w' :=
  ⟨below_step h.1 hb, fun p hp => ⟨blk_below (h.2.1 p hp).1 hb, (h.2.1 p hp).2⟩, h.2.2⟩
theorem Sv.drew {w0 w : World} {L : List (Nat × Array Value × Nat)} (h : Sv w0 L w) : Sv w0 L w.drew := h.step (below_drew1 (Below.refl _ _))
theorem Sv.drewN {w0 w : World} {L : List (Nat × Array Value × Nat)} (h : Sv w0 L w) (n : Nat) : Sv w0 L (w.drewN n) := h.step (pw_below_drewN (Below.refl _ _) n)
theorem Sv.alloc {w0 w : World} {L : List (Nat × Array Value × Nat)} (h : Sv w0 L w) (o : Obj) : Sv w0 L (w.alloc o) := h.step (below_alloc (Below.refl _ _) o)
theorem Sv.box {w0 w w' : World} {L : List (Nat × Array Value × Nat)} {g : Nat} {cs : Array Value} {t : Nat} (h : Sv w0 L w) (hb : Below w.heap.size w w') (hg : g = w.heap.size) (hx : w'.heap[g]? = some (.cells cs t (0, 0))) : Sv w0 ((g, cs, t) :: L) w' := by
  refine ⟨below_step h.1 hb, fun p hp => ?_, List.pairwise_cons.2 ⟨fun p hp => ?_, h.2.2⟩⟩
  · rcases List.mem_cons.1 hp with rfl | hp
    · exact ⟨hx, by show _ ≤ g; rw [hg]; exact h.1.size⟩
    · exact (h.step hb).2.1 p hp
  · show g ≠ p.1
    rw [hg]
    exact Nat.ne_of_gt (blk_lt (h.2.1 p hp).1)
theorem Sv.at {w0 w : World} {L : List (Nat × Array Value × Nat)} {g : Nat} {cs : Array Value} {t : Nat} (h : Sv w0 L w) (i : Nat) (hi : L[i]? = some (g, cs, t)) : w.heap[g]? = some (.cells cs t (0, 0)) := (h.2.1 _ (List.mem_of_getElem? hi)).1
theorem Sv.ge {w0 w : World} {L : List (Nat × Array Value × Nat)} {g : Nat} {cs : Array Value} {t : Nat} (h : Sv w0 L w) (i : Nat) (hi : L[i]? = some (g, cs, t)) : w0.heap.size ≤ g := (h.2.1 _ (List.mem_of_getElem? hi)).2
theorem Sv.lt {w0 w : World} {L : List (Nat × Array Value × Nat)} {g : Nat} {cs : Array Value} {t : Nat} (h : Sv w0 L w) (i : Nat) (hi : L[i]? = some (g, cs, t)) : g < w.heap.size := blk_lt (h.at i hi)
theorem Sv.cell {w0 w : World} {L : List (Nat × Array Value × Nat)} {g : Nat} {cs : Array Value} {t : Nat} (h : Sv w0 L w) (i : Nat) (hi : L[i]? = some (g, cs, t)) (c : Nat) : w.cell? ⟨g, c, none⟩ = cs[c]? := blk_cell (h.at i hi) c
theorem Sv.fz {w0 w : World} {L : List (Nat × Array Value × Nat)} {g : Nat} {cs : Array Value} {t : Nat} (h : Sv w0 L w) (i : Nat) (hi : L[i]? = some (g, cs, t)) (c : Nat) : w.frozen? ⟨g, c, none⟩ = false := blk_frozen (h.at i hi) c
theorem Sv.set {w0 w : World} {L : List (Nat × Array Value × Nat)} {g : Nat} {cs : Array Value} {t : Nat} (h : Sv w0 L w) (i : Nat) (hi : L[i]? = some (g, cs, t)) (c : Nat) (v : Value) : Sv w0 (L.set i (g, cs.setIfInBounds c v, t)) (w.setCell ⟨g, c, none⟩ v) := by
  obtain ⟨hi1, hi2⟩ := List.getElem?_eq_some_iff.1 hi
  have hge := h.ge i hi
  refine ⟨below_set h.1 hge, fun p hp => ?_, ?_⟩
  · obtain ⟨j, hj⟩ := List.getElem?_of_mem hp
    rw [List.getElem?_set] at hj
    by_cases hij : i = j
    · rw [if_pos hij, if_pos hi1] at hj
      cases hj
      refine ⟨?_, hge⟩
      have hb := h.at i hi
      show (w.setCell ⟨g, c, none⟩ v).heap[g]? = _
      rw [setCell_eq_setRow w g c cs t (0, 0) v hb]
      exact setRow_heap w g cs _ t (0, 0) hb
    · rw [if_neg hij] at hj
      have hp2 := h.2.1 p (List.mem_of_getElem? hj)
      refine ⟨?_, hp2.2⟩
      refine (Below.heap_setCell w ⟨g, c, none⟩ v p.1 (fun e => ?_)).trans hp2.1
      obtain ⟨hj1, hj2⟩ := List.getElem?_eq_some_iff.1 hj
      have hq := List.pairwise_iff_getElem.1 h.2.2
      rcases Nat.lt_or_gt_of_ne hij with hlt | hlt
      · have := hq i j hi1 hj1 hlt
        rw [hi2, hj2] at this
        exact this e.symm
      · have := hq j i hj1 hi1 hlt
        rw [hi2, hj2] at this
        exact this e
  · rw [List.pairwise_iff_getElem]
    intro a b ha hb hab
    rw [List.length_set] at ha hb
    have hq := List.pairwise_iff_getElem.1 h.2.2 a b ha hb hab
    have key : ∀ (k : Nat) (hk : k < L.length), (L.set i (g, cs.setIfInBounds c v, t))[k]'(by rw [List.length_set]; exact hk) = if i = k then (g, cs.setIfInBounds c v, t) else L[k] := fun k hk => List.getElem_set _
    have key2 : ∀ (k : Nat) (hk : k < L.length), ((L.set i (g, cs.setIfInBounds c v, t))[k]'(by rw [List.length_set]; exact hk)).1 = L[k].1 := fun k hk => by
      rw [key k hk]
      by_cases e : i = k
      · rw [if_pos e]
        subst e
        rw [hi2]
      · rw [if_neg e]
    rw [key2 a ha, key2 b hb]
    exact hq
end Go.Proofs.YtdbiokmlgniobaaV
