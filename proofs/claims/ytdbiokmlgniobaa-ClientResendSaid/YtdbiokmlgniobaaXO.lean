/- A value that reads at a type as data is a plain Lean value whose cells say so, kind by kind, and each string and slice in it is within reach. Conditions: the type's underlying form, its cells and its fields' places, each a closed fact of the program.
   Own text of this session (no print). Ytdbiokmlgniobaa: the seat's Name. -/
import Derived.Test.YtdbiokmlgniobaaXWWords
import Derived.ProofKit
import Derived.OpenShut
import Derived.SizedLaws
import Derived.ChangeArms
import Derived.WideShapes
namespace Go.Proofs.YtdbiokmlgniobaaO
open Go.RowKit Go.ChangeShapes Go.WideShapes Go.Proofs.YtdbiokmlgniobaaW.PrintWords
set_option linter.unusedVariables false

def Opn {α : Type} (P : Program) (t : TypeId) (d : Kd α) (ok : α → Prop) : Prop :=
  ∀ (H : Type) (enc : TypeId × Value → H) (w : World) (base : Nat) (spare : Nat → Bool) (held : Bool) (fuel : Nat) (cs : List Value) (x : DataW H × List MemPlace),
    DataW.trod enc P w base spare held fuel t cs = some x → (∀ n ∈ x.1.weights P t, n ≤ reachBytes) → ∃ y, d.K w y cs ∧ ok y

theorem opn_int {P : Program} {t : TypeId} {k : IntKind} (ht : P.underlying t = some (.int k)) : Opn P t (Kd.int k) (fun x => (Lit.int k x).wf = true) := by
  intro H enc w base spare held fuel cs x h _
  obtain ⟨n, rfl, _, hw⟩ := DataW.trod_int ht h
  exact ⟨n, rfl, hw⟩
theorem opn_string {P : Program} {t : TypeId} (ht : P.underlying t = some .string) : Opn P t Kd.string (fun s => s.size ≤ 140737488351232) := by
  intro H enc w base spare held fuel cs x h hw
  obtain ⟨s, rfl, rfl, _⟩ := DataW.trod_string ht h
  refine ⟨s, rfl, ?_⟩
  have := hw s.data.toList.length (by simp [DataW.weights])
  simpa [reachBytes] using this

theorem opn_arg {α : Type} {P : Program} {t : TypeId} {d : Kd α} {ok : α → Prop} (h : Opn P t d ok) {H : Type} {enc : TypeId × Value → H} {W : World} {base : Nat} {spare : Nat → Bool} {held : Bool} {v : Value} {dat : DataW H} {ps : List MemPlace} {ts : List TypeId} {ds : List (DataW H)} {j : Nat}
    (hsz : (DataW.weightsEach P ts ds).all (· ≤ reachBytes) = true) (ht : ts[j]? = some t) (hd : ds[j]? = some dat) (hT : DataW.Trod enc P W base spare held t v dat ps) : ∃ y, d.K W y v.cells.toList ∧ ok y := by
  obtain ⟨fuel, hf⟩ := hT
  refine h H enc W base spare held fuel _ _ hf (fun n hn => ?_)
  have := List.all_eq_true.1 hsz n (DataW.weights_mem_each ht hd n hn)
  simpa using this
end Go.Proofs.YtdbiokmlgniobaaO
