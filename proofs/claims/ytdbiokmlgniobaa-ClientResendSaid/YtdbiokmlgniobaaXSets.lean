/- A map of bools that a call makes, in which keys are only ever set to true: it is a list of its keys. Conditions: those that each lemma names.
   Own text. Ytdbiokmlgniobaa: the seat's Name. -/
import Derived.Maps.OwnOps
import Derived.Maps.OwnSet
import Derived.Maps.Views
import Derived.WalkKit
import Derived.Below
namespace Go.Proofs.YtdbiokmlgniobaaSets
open Go.Maps (Keyed has size atKey_put_same atKey_put_other has_put_same has_put_other size_put)
open Go.RowKit
set_option linter.unusedVariables false
theorem bool_inv {P : Program} {e : TypeId} (he : P.underlying e = some .bool) {v : Value} {c : Bool} {ps : List MemPlace} (h : plainElem (H := Unit) P e v = some (.lit (.bool c), ps)) : v = .bool c := by
  unfold plainElem at h
  rw [he] at h
  cases v <;> simp at h
  rw [h.1]
def IsSet {α : Type} [DecidableEq α] (P : Program) (k e : TypeId) (key : α → Value) (w : World) (b : Nat) (S : List α) : Prop :=
  ∃ (D : DataW Unit), w.ownsMap P k (plainElem P e) b S.length D ∧ size D = S.length ∧ ∀ x l, keyOf P k (key x) = some l → D.atKey l (.lit (.bool false)) = .lit (.bool (decide (x ∈ S))) ∧ has D l = decide (x ∈ S)
variable {α : Type} [DecidableEq α] {P : Program} {k e : TypeId} {key : α → Value} {w : World} {b : Nat} {S : List α}
theorem IsSet.made (P : Program) (k e : TypeId) (key : α → Value) (w : World) : IsSet P k e key (w.alloc (.map #[] 0)) w.heap.size [] :=
  ⟨.map [], World.ownsMap_made w P k _, rfl, fun x l _ => ⟨rfl, rfl⟩⟩
theorem IsSet.lt (h : IsSet P k e key w b S) : b < w.heap.size := by
  obtain ⟨D, h1, _⟩ := h
  exact h1.lt
theorem IsSet.kept {w' : World} {row : Option Nat} (h : IsSet P k e key w b S) (hg : w.grownBy w' row) (hne : some b ≠ row) : IsSet P k e key w' b S := by
  obtain ⟨D, h1, h2⟩ := h
  exact ⟨D, h1.kept hg hne, h2⟩
theorem IsSet.below {w' : World} (h : IsSet P k e key w b S) (hb : Below w.heap.size w w') : IsSet P k e key w' b S :=
  h.kept (⟨hb.os, hb.tape, hb.output, hb.size, fun i hi _ => hb.block i hi⟩ : w.grownBy w' none) (by simp)
theorem IsSet.cell {a : Addr} (h : IsSet P k e key w b S) (ha : b ≠ a.block) (u : Value) : IsSet P k e key (w.setCell a u) b S := by
  obtain ⟨D, h1, h2⟩ := h
  exact ⟨D, h1.setCell ha u, h2⟩
theorem IsSet.alloc (h : IsSet P k e key w b S) (o : Obj) : IsSet P k e key (w.alloc o) b S := by
  obtain ⟨D, h1, h2⟩ := h
  exact ⟨D, h1.alloc o, h2⟩
theorem IsSet.drew (h : IsSet P k e key w b S) : IsSet P k e key w.drew b S := h
theorem IsSet.block {w' : World} (h : IsSet P k e key w b S) (hb : w'.heap[b]? = w.heap[b]?) : IsSet P k e key w' b S := by
  obtain ⟨D, ⟨es, clock, h0, h1⟩, h2⟩ := h
  exact ⟨D, ⟨es, clock, hb.trans h0, h1⟩, h2⟩
theorem IsSet.look {t : TypeId} (h : IsSet P k e key w b S) (K : Keyed P k) (ht : P.underlying t = some (.map k e)) (he : P.underlying e = some .bool) (hz : (zeroValue e).run P w = .ok (.bool false) w) (x : α) {l : Lit} (hx : keyOf P k (key x) = some l) :
    (Instr.lookup t (.map (some b)) (key x) false).run P w = .ok (.bool (decide (x ∈ S))) w := by
  obtain ⟨D, h1, _, h3⟩ := h
  obtain ⟨v, ps, hrun, hv⟩ := h1.lookup K ht hz (plainElem_bool he false) hx
  rw [(h3 x l hx).1] at hv
  rw [hrun, bool_inv he hv]
theorem IsSet.len {t : TypeId} (h : IsSet P k e key w b S) (ht : P.underlying t = some (.map k e)) (ty : TypeId) : (Builtin.len_ #[t] ty #[.map (some b)]).run P w = .ok (.int .i64 S.length) w := by
  obtain ⟨D, h1, h2, _⟩ := h
  rw [h1.len ht ty, h2]
theorem IsSet.store {t : TypeId} (h : IsSet P k e key w b S) (K : Keyed P k) (hinj : ∀ x y, key x = key y → x = y) (ht : P.underlying t = some (.map k e)) (he : P.underlying e = some .bool) (hn : S.length < maxLen) (x : α) {l : Lit} (hx : keyOf P k (key x) = some l) (hnew : x ∉ S) :
    ∃ w', (Instr.mapUpdate t (.map (some b)) (key x) (.bool true)).run P w = .ok () w' ∧ IsSet P k e key w' b (x :: S) ∧ w.grownBy w' (some b) := by
  obtain ⟨D, h1, h2, h3⟩ := h
  obtain ⟨w', hrun, r1, r2⟩ := h1.update K ht hn hx (plainElem_bool he true)
  refine ⟨w', hrun, ⟨_, r1, ?_, fun y l' hy => ?_⟩, r2⟩
  · rw [size_put (h1.tidy K), (h3 x l hx).2, decide_eq_false hnew, h2]
    rfl
  · by_cases hxy : y = x
    · subst hxy
      have hll : l' = l := Option.some.inj (hy.symm.trans hx)
      subst hll
      rw [atKey_put_same h1.isMap (K.key hy), has_put_same h1.isMap (K.key hy), decide_eq_true List.mem_cons_self]
      exact ⟨rfl, rfl⟩
    · have hll : l' ≠ l := fun e => hxy (hinj _ _ (K.inj hy (e ▸ hx)))
      rw [atKey_put_other hll, has_put_other hll, (h3 y l' hy).1, (h3 y l' hy).2]
      have : decide (y ∈ x :: S) = decide (y ∈ S) := by
        rw [decide_eq_decide]
        simp [hxy]
      rw [this]
      exact ⟨rfl, rfl⟩
end Go.Proofs.YtdbiokmlgniobaaSets
