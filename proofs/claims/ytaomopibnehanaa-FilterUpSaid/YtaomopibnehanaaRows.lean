/-
  No cell of these rows narrows 'for every input' (looked for: loops, veiled, ifaces, maps, wideKeys, modest, calm, conditions, laid).
  DERIVED. THE GIVEN ROWS OF THIS SEAT. 7 by the template 'for every input the law returns true; each argument reads behind the call as it read before'; 0 by the template 'total and deterministic' (their statements: YtaomopibnehanaaTotals.lean).
  GIVEN WITH THE SEED: the statements are not yours to turn. If you find one false, say at which input.
  Laid BY PROGRAM, IN A SANDBOX (cutbox-rows.mjs): the forced cells as the released guide's own fill.sh prints them over the translation 10e2a906e9d31a89… (all of the seat's roots in one cut). By AI agents, Wed Nov 11 2026. No macro, syntax, notation, axiom, sorry.
-/
import Derived.Test.YtaomopibnehanaaChecked
import GoSem.Claim
import GoSem.ClaimJoined
import GoSem.ClaimMapViews
import Derived.JoinedTies
import Derived.KernelRfl
namespace Go.Proofs.Ytaomopibnehanaa
/- THE CELL 'sum', in the pinned program and in every row, IS THE sha256 OF THE DUMP (.gsa) THAT YtaomopibnehanaaProg.lean LOADS. Nothing in Lean hashes anything: it is a label: what it is worth is what the hold of that sum in a sandbox is worth. -/
noncomputable def Try.pinned : Pinned := { name := "ytaomopibnehanaa", sum := "10e2a906e9d31a89ac62c245bbba7b7ca164f54694f9f6659f1feff78e426c06", checked := Try.checked }
namespace Rows
def none {H : Type} : Left H := { results := [], args := [] }

/-- 'vitrinelaw09.FilterDoes': WHATEVER THE INPUT: true; the input reads as it did. -/
def filterDoesSpec : ChangeSpec := { name := "filterDoes", fn := fun _ => fun
  | [d] => { results := [.lit (.bool true)], args := [d] }
  | _ => none }
def filterDoesRow : OpenClaim := { program := "ytaomopibnehanaa", sum := "10e2a906e9d31a89ac62c245bbba7b7ca164f54694f9f6659f1feff78e426c06", func := "vitrine/vitrinelaw09.FilterDoes", spec := "filterDoes", apart := false }
def FilterDoesSaid : Prop := filterDoesRow.holds Try.pinned (OpenSpec.ofChange filterDoesSpec)

/-- ITS FALSE NEIGHBOUR: 'it returns false'. Refute it at one input. -/
def filterDoesWrong : ChangeSpec := { name := "filterDoes", fn := fun _ => fun
  | [d] => { results := [.lit (.bool false)], args := [d] }
  | _ => none }
def FilterDoesWrongFalsely : Prop := filterDoesRow.holds Try.pinned (OpenSpec.ofChange filterDoesWrong)

/-- 'vitrinelaw09.FilterUndoes': WHATEVER THE INPUT: true; the input reads as it did. -/
def filterUndoesSpec : ChangeSpec := { name := "filterUndoes", fn := fun _ => fun
  | [d] => { results := [.lit (.bool true)], args := [d] }
  | _ => none }
def filterUndoesRow : OpenClaim := { program := "ytaomopibnehanaa", sum := "10e2a906e9d31a89ac62c245bbba7b7ca164f54694f9f6659f1feff78e426c06", func := "vitrine/vitrinelaw09.FilterUndoes", spec := "filterUndoes", apart := false }
def FilterUndoesSaid : Prop := filterUndoesRow.holds Try.pinned (OpenSpec.ofChange filterUndoesSpec)

/-- ITS FALSE NEIGHBOUR: 'it returns false'. Refute it at one input. -/
def filterUndoesWrong : ChangeSpec := { name := "filterUndoes", fn := fun _ => fun
  | [d] => { results := [.lit (.bool false)], args := [d] }
  | _ => none }
def FilterUndoesWrongFalsely : Prop := filterUndoesRow.holds Try.pinned (OpenSpec.ofChange filterUndoesWrong)

/-- 'vitrinelaw09.FilterPicks': WHATEVER THE INPUT: true; the input reads as it did. -/
def filterPicksSpec : ChangeSpec := { name := "filterPicks", fn := fun _ => fun
  | [d] => { results := [.lit (.bool true)], args := [d] }
  | _ => none }
def filterPicksRow : OpenClaim := { program := "ytaomopibnehanaa", sum := "10e2a906e9d31a89ac62c245bbba7b7ca164f54694f9f6659f1feff78e426c06", func := "vitrine/vitrinelaw09.FilterPicks", spec := "filterPicks", apart := false }
def FilterPicksSaid : Prop := filterPicksRow.holds Try.pinned (OpenSpec.ofChange filterPicksSpec)

/-- ITS FALSE NEIGHBOUR: 'it returns false'. Refute it at one input. -/
def filterPicksWrong : ChangeSpec := { name := "filterPicks", fn := fun _ => fun
  | [d] => { results := [.lit (.bool false)], args := [d] }
  | _ => none }
def FilterPicksWrongFalsely : Prop := filterPicksRow.holds Try.pinned (OpenSpec.ofChange filterPicksWrong)

/-- 'vitrinelaw09.FilterBack': WHATEVER THE INPUT: true; the input reads as it did. -/
def filterBackSpec : ChangeSpec := { name := "filterBack", fn := fun _ => fun
  | [d] => { results := [.lit (.bool true)], args := [d] }
  | _ => none }
def filterBackRow : OpenClaim := { program := "ytaomopibnehanaa", sum := "10e2a906e9d31a89ac62c245bbba7b7ca164f54694f9f6659f1feff78e426c06", func := "vitrine/vitrinelaw09.FilterBack", spec := "filterBack", apart := false }
def FilterBackSaid : Prop := filterBackRow.holds Try.pinned (OpenSpec.ofChange filterBackSpec)

/-- ITS FALSE NEIGHBOUR: 'it returns false'. Refute it at one input. -/
def filterBackWrong : ChangeSpec := { name := "filterBack", fn := fun _ => fun
  | [d] => { results := [.lit (.bool false)], args := [d] }
  | _ => none }
def FilterBackWrongFalsely : Prop := filterBackRow.holds Try.pinned (OpenSpec.ofChange filterBackWrong)

/-- 'vitrinelaw09.FilterFirst': WHATEVER THE INPUT: true; the input reads as it did. -/
def filterFirstSpec : ChangeSpec := { name := "filterFirst", fn := fun _ => fun
  | [d] => { results := [.lit (.bool true)], args := [d] }
  | _ => none }
def filterFirstRow : OpenClaim := { program := "ytaomopibnehanaa", sum := "10e2a906e9d31a89ac62c245bbba7b7ca164f54694f9f6659f1feff78e426c06", func := "vitrine/vitrinelaw09.FilterFirst", spec := "filterFirst", apart := false }
def FilterFirstSaid : Prop := filterFirstRow.holds Try.pinned (OpenSpec.ofChange filterFirstSpec)

/-- ITS FALSE NEIGHBOUR: 'it returns false'. Refute it at one input. -/
def filterFirstWrong : ChangeSpec := { name := "filterFirst", fn := fun _ => fun
  | [d] => { results := [.lit (.bool false)], args := [d] }
  | _ => none }
def FilterFirstWrongFalsely : Prop := filterFirstRow.holds Try.pinned (OpenSpec.ofChange filterFirstWrong)

/-- 'vitrinelaw09.FilterZero': WHATEVER THE INPUT: true; the input reads as it did. -/
def filterZeroSpec : ChangeSpec := { name := "filterZero", fn := fun _ => fun
  | [d] => { results := [.lit (.bool true)], args := [d] }
  | _ => none }
def filterZeroRow : OpenClaim := { program := "ytaomopibnehanaa", sum := "10e2a906e9d31a89ac62c245bbba7b7ca164f54694f9f6659f1feff78e426c06", func := "vitrine/vitrinelaw09.FilterZero", spec := "filterZero", apart := false }
def FilterZeroSaid : Prop := filterZeroRow.holds Try.pinned (OpenSpec.ofChange filterZeroSpec)

/-- ITS FALSE NEIGHBOUR: 'it returns false'. Refute it at one input. -/
def filterZeroWrong : ChangeSpec := { name := "filterZero", fn := fun _ => fun
  | [d] => { results := [.lit (.bool false)], args := [d] }
  | _ => none }
def FilterZeroWrongFalsely : Prop := filterZeroRow.holds Try.pinned (OpenSpec.ofChange filterZeroWrong)

/-- 'vitrinelaw09.FilterUp': WHATEVER THE INPUT: true; the input reads as it did. -/
def filterUpSpec : ChangeSpec := { name := "filterUp", fn := fun _ => fun
  | [d1, d2] => { results := [.lit (.bool true)], args := [d1, d2] }
  | _ => none }
def filterUpRow : OpenClaim := { program := "ytaomopibnehanaa", sum := "10e2a906e9d31a89ac62c245bbba7b7ca164f54694f9f6659f1feff78e426c06", func := "vitrine/vitrinelaw09.FilterUp", spec := "filterUp", apart := false }
def FilterUpSaid : Prop := filterUpRow.holds Try.pinned (OpenSpec.ofChange filterUpSpec)

/-- ITS FALSE NEIGHBOUR: 'it returns false'. Refute it at one input. -/
def filterUpWrong : ChangeSpec := { name := "filterUp", fn := fun _ => fun
  | [d1, d2] => { results := [.lit (.bool false)], args := [d1, d2] }
  | _ => none }
def FilterUpWrongFalsely : Prop := filterUpRow.holds Try.pinned (OpenSpec.ofChange filterUpWrong)

/- THE SECOND FORM. 'bulk': how many values and letters a reading holds, each counted each time it is reached (what is shared counts as often as it is met; a slice's spare places count too). A statement '..UptoSaid' is the law's where the arguments, and the package variables that the reading takes, are together of bulk at most 1048576: NARROWER than '..Said'. Prove '..Said' where nothing that the law and all that it calls make is longer than what came in: it says more and counts as full. Else prove '..UptoSaid'. A law counts once. -/
mutual
def uptoBulk {H : Type} : DataW H → Nat
  | .lit (.string bytes) => bytes.length + 1
  | .lit _ => 1
  | .nil => 1
  | .ptr d => uptoBulk d + 1
  | .slice elems spare => uptoBulkAll elems + uptoBulkAll spare + 1
  | .agg parts => uptoBulkAll parts + 1
  | .iface _ d => uptoBulk d + 1
  | .map entries => uptoBulkEntries entries + 1
  | .held _ => 1
def uptoBulkAll {H : Type} : List (DataW H) → Nat
  | [] => 0
  | d :: r => uptoBulk d + uptoBulkAll r
def uptoBulkEntries {H : Type} : List (Lit × DataW H) → Nat
  | [] => 0
  | x :: r => uptoBulkEntry x + uptoBulkEntries r
def uptoBulkEntry {H : Type} : Lit × DataW H → Nat
  | (.string bytes, d) => bytes.length + uptoBulk d + 1
  | (_, d) => uptoBulk d + 1
 end
def uptoSmall : (H : Type) → List (DataW H) → Bool := fun _ ds => decide (uptoBulkAll ds ≤ 1048576)
def OpenSpec.upto (s : _root_.Go.ChangeSpec) : _root_.Go.OpenSpec := { _root_.Go.OpenSpec.ofChange s with cond := some uptoSmall }

/-- 'vitrinelaw09.FilterDoes', WHERE WHAT IT READS IS OF BULK AT MOST 1048576: true; the input reads as it did. -/
def filterDoesUptoRow : OpenClaim := { program := "ytaomopibnehanaa", sum := "10e2a906e9d31a89ac62c245bbba7b7ca164f54694f9f6659f1feff78e426c06", func := "vitrine/vitrinelaw09.FilterDoes", spec := "filterDoes", apart := false, narrowed := true }
def FilterDoesUptoSaid : Prop := filterDoesUptoRow.holds Try.pinned (OpenSpec.upto filterDoesSpec)

/-- 'vitrinelaw09.FilterUndoes', WHERE WHAT IT READS IS OF BULK AT MOST 1048576: true; the input reads as it did. -/
def filterUndoesUptoRow : OpenClaim := { program := "ytaomopibnehanaa", sum := "10e2a906e9d31a89ac62c245bbba7b7ca164f54694f9f6659f1feff78e426c06", func := "vitrine/vitrinelaw09.FilterUndoes", spec := "filterUndoes", apart := false, narrowed := true }
def FilterUndoesUptoSaid : Prop := filterUndoesUptoRow.holds Try.pinned (OpenSpec.upto filterUndoesSpec)

/-- 'vitrinelaw09.FilterPicks', WHERE WHAT IT READS IS OF BULK AT MOST 1048576: true; the input reads as it did. -/
def filterPicksUptoRow : OpenClaim := { program := "ytaomopibnehanaa", sum := "10e2a906e9d31a89ac62c245bbba7b7ca164f54694f9f6659f1feff78e426c06", func := "vitrine/vitrinelaw09.FilterPicks", spec := "filterPicks", apart := false, narrowed := true }
def FilterPicksUptoSaid : Prop := filterPicksUptoRow.holds Try.pinned (OpenSpec.upto filterPicksSpec)

/-- 'vitrinelaw09.FilterBack', WHERE WHAT IT READS IS OF BULK AT MOST 1048576: true; the input reads as it did. -/
def filterBackUptoRow : OpenClaim := { program := "ytaomopibnehanaa", sum := "10e2a906e9d31a89ac62c245bbba7b7ca164f54694f9f6659f1feff78e426c06", func := "vitrine/vitrinelaw09.FilterBack", spec := "filterBack", apart := false, narrowed := true }
def FilterBackUptoSaid : Prop := filterBackUptoRow.holds Try.pinned (OpenSpec.upto filterBackSpec)

/-- 'vitrinelaw09.FilterFirst', WHERE WHAT IT READS IS OF BULK AT MOST 1048576: true; the input reads as it did. -/
def filterFirstUptoRow : OpenClaim := { program := "ytaomopibnehanaa", sum := "10e2a906e9d31a89ac62c245bbba7b7ca164f54694f9f6659f1feff78e426c06", func := "vitrine/vitrinelaw09.FilterFirst", spec := "filterFirst", apart := false, narrowed := true }
def FilterFirstUptoSaid : Prop := filterFirstUptoRow.holds Try.pinned (OpenSpec.upto filterFirstSpec)

/-- 'vitrinelaw09.FilterZero', WHERE WHAT IT READS IS OF BULK AT MOST 1048576: true; the input reads as it did. -/
def filterZeroUptoRow : OpenClaim := { program := "ytaomopibnehanaa", sum := "10e2a906e9d31a89ac62c245bbba7b7ca164f54694f9f6659f1feff78e426c06", func := "vitrine/vitrinelaw09.FilterZero", spec := "filterZero", apart := false, narrowed := true }
def FilterZeroUptoSaid : Prop := filterZeroUptoRow.holds Try.pinned (OpenSpec.upto filterZeroSpec)

/-- 'vitrinelaw09.FilterUp', WHERE WHAT IT READS IS OF BULK AT MOST 1048576: true; the input reads as it did. -/
def filterUpUptoRow : OpenClaim := { program := "ytaomopibnehanaa", sum := "10e2a906e9d31a89ac62c245bbba7b7ca164f54694f9f6659f1feff78e426c06", func := "vitrine/vitrinelaw09.FilterUp", spec := "filterUp", apart := false, narrowed := true }
def FilterUpUptoSaid : Prop := filterUpUptoRow.holds Try.pinned (OpenSpec.upto filterUpSpec)

end Rows
end Go.Proofs.Ytaomopibnehanaa
