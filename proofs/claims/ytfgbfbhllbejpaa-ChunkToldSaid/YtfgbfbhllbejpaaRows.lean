/-
  No cell of these rows narrows 'for every input' (looked for: loops, veiled, ifaces, maps, wideKeys, modest, calm, conditions, laid).
  DERIVED. THE GIVEN ROWS OF THIS SEAT. 6 by the template 'for every input the law returns true; each argument reads behind the call as it read before'; 0 by the template 'total and deterministic' (their statements: YtfgbfbhllbejpaaTotals.lean).
  GIVEN WITH THE SEED: the statements are not yours to turn. If you find one false, say at which input.
  Laid BY PROGRAM, IN A SANDBOX (cutbox-rows.mjs): the forced cells as the released guide's own fill.sh prints them over the translation f310ddc19ca67d40… (all of the seat's roots in one cut). By AI agents, Wed Nov 11 2026. No macro, syntax, notation, axiom, sorry.
-/
import Derived.Test.YtfgbfbhllbejpaaChecked
import GoSem.Claim
import GoSem.ClaimJoined
import GoSem.ClaimMapViews
import Derived.JoinedTies
import Derived.KernelRfl
namespace Go.Proofs.Ytfgbfbhllbejpaa
/- THE CELL 'sum', in the pinned program and in every row, IS THE sha256 OF THE DUMP (.gsa) THAT YtfgbfbhllbejpaaProg.lean LOADS. Nothing in Lean hashes anything: it is a label: what it is worth is what the hold of that sum in a sandbox is worth. -/
noncomputable def Try.pinned : Pinned := { name := "ytfgbfbhllbejpaa", sum := "f310ddc19ca67d400f5e59b60d80c09e9dc261267530eedc726c13f277e5344f", checked := Try.checked }
namespace Rows
def none {H : Type} : Left H := { results := [], args := [] }

/-- 'vitrinelaw07.ChunkSplits': WHATEVER THE INPUT: true; the input reads as it did. -/
def chunkSplitsSpec : ChangeSpec := { name := "chunkSplits", fn := fun _ => fun
  | [d] => { results := [.lit (.bool true)], args := [d] }
  | _ => none }
def chunkSplitsRow : OpenClaim := { program := "ytfgbfbhllbejpaa", sum := "f310ddc19ca67d400f5e59b60d80c09e9dc261267530eedc726c13f277e5344f", func := "vitrine/vitrinelaw07.ChunkSplits", spec := "chunkSplits", inPlace := ["internal/abi.NoEscape"], apart := false }
def ChunkSplitsSaid : Prop := chunkSplitsRow.holds Try.pinned (OpenSpec.ofChange chunkSplitsSpec)

/-- ITS FALSE NEIGHBOUR: 'it returns false'. Refute it at one input. -/
def chunkSplitsWrong : ChangeSpec := { name := "chunkSplits", fn := fun _ => fun
  | [d] => { results := [.lit (.bool false)], args := [d] }
  | _ => none }
def ChunkSplitsWrongFalsely : Prop := chunkSplitsRow.holds Try.pinned (OpenSpec.ofChange chunkSplitsWrong)

/-- 'vitrinelaw07.ChunkJoins': WHATEVER THE INPUT: true; the input reads as it did. -/
def chunkJoinsSpec : ChangeSpec := { name := "chunkJoins", fn := fun _ => fun
  | [d] => { results := [.lit (.bool true)], args := [d] }
  | _ => none }
def chunkJoinsRow : OpenClaim := { program := "ytfgbfbhllbejpaa", sum := "f310ddc19ca67d400f5e59b60d80c09e9dc261267530eedc726c13f277e5344f", func := "vitrine/vitrinelaw07.ChunkJoins", spec := "chunkJoins", inPlace := ["internal/abi.NoEscape"], apart := false }
def ChunkJoinsSaid : Prop := chunkJoinsRow.holds Try.pinned (OpenSpec.ofChange chunkJoinsSpec)

/-- ITS FALSE NEIGHBOUR: 'it returns false'. Refute it at one input. -/
def chunkJoinsWrong : ChangeSpec := { name := "chunkJoins", fn := fun _ => fun
  | [d] => { results := [.lit (.bool false)], args := [d] }
  | _ => none }
def ChunkJoinsWrongFalsely : Prop := chunkJoinsRow.holds Try.pinned (OpenSpec.ofChange chunkJoinsWrong)

/-- 'vitrinelaw07.ChunkBack': WHATEVER THE INPUT: true; the input reads as it did. -/
def chunkBackSpec : ChangeSpec := { name := "chunkBack", fn := fun _ => fun
  | [d1, d2] => { results := [.lit (.bool true)], args := [d1, d2] }
  | _ => none }
def chunkBackRow : OpenClaim := { program := "ytfgbfbhllbejpaa", sum := "f310ddc19ca67d400f5e59b60d80c09e9dc261267530eedc726c13f277e5344f", func := "vitrine/vitrinelaw07.ChunkBack", spec := "chunkBack", inPlace := ["internal/abi.NoEscape"], apart := false }
def ChunkBackSaid : Prop := chunkBackRow.holds Try.pinned (OpenSpec.ofChange chunkBackSpec)

/-- ITS FALSE NEIGHBOUR: 'it returns false'. Refute it at one input. -/
def chunkBackWrong : ChangeSpec := { name := "chunkBack", fn := fun _ => fun
  | [d1, d2] => { results := [.lit (.bool false)], args := [d1, d2] }
  | _ => none }
def ChunkBackWrongFalsely : Prop := chunkBackRow.holds Try.pinned (OpenSpec.ofChange chunkBackWrong)

/-- 'vitrinelaw07.ChunkTold': WHATEVER THE INPUT: true; the input reads as it did. -/
def chunkToldSpec : ChangeSpec := { name := "chunkTold", fn := fun _ => fun
  | [d1, d2, d3] => { results := [.lit (.bool true)], args := [d1, d2, d3] }
  | _ => none }
def chunkToldRow : OpenClaim := { program := "ytfgbfbhllbejpaa", sum := "f310ddc19ca67d400f5e59b60d80c09e9dc261267530eedc726c13f277e5344f", func := "vitrine/vitrinelaw07.ChunkTold", spec := "chunkTold", inPlace := ["internal/abi.NoEscape"], apart := false }
def ChunkToldSaid : Prop := chunkToldRow.holds Try.pinned (OpenSpec.ofChange chunkToldSpec)

/-- ITS FALSE NEIGHBOUR: 'it returns false'. Refute it at one input. -/
def chunkToldWrong : ChangeSpec := { name := "chunkTold", fn := fun _ => fun
  | [d1, d2, d3] => { results := [.lit (.bool false)], args := [d1, d2, d3] }
  | _ => none }
def ChunkToldWrongFalsely : Prop := chunkToldRow.holds Try.pinned (OpenSpec.ofChange chunkToldWrong)

/-- 'vitrinelaw07.ChunkOne': WHATEVER THE INPUT: true; the input reads as it did. -/
def chunkOneSpec : ChangeSpec := { name := "chunkOne", fn := fun _ => fun
  | [d] => { results := [.lit (.bool true)], args := [d] }
  | _ => none }
def chunkOneRow : OpenClaim := { program := "ytfgbfbhllbejpaa", sum := "f310ddc19ca67d400f5e59b60d80c09e9dc261267530eedc726c13f277e5344f", func := "vitrine/vitrinelaw07.ChunkOne", spec := "chunkOne", inPlace := ["internal/abi.NoEscape"], apart := false }
def ChunkOneSaid : Prop := chunkOneRow.holds Try.pinned (OpenSpec.ofChange chunkOneSpec)

/-- ITS FALSE NEIGHBOUR: 'it returns false'. Refute it at one input. -/
def chunkOneWrong : ChangeSpec := { name := "chunkOne", fn := fun _ => fun
  | [d] => { results := [.lit (.bool false)], args := [d] }
  | _ => none }
def ChunkOneWrongFalsely : Prop := chunkOneRow.holds Try.pinned (OpenSpec.ofChange chunkOneWrong)

/-- 'vitrinelaw07.ChunkKinds': WHATEVER THE INPUT: true; the input reads as it did. -/
def chunkKindsSpec : ChangeSpec := { name := "chunkKinds", fn := fun _ => fun
  | [d] => { results := [.lit (.bool true)], args := [d] }
  | _ => none }
def chunkKindsRow : OpenClaim := { program := "ytfgbfbhllbejpaa", sum := "f310ddc19ca67d400f5e59b60d80c09e9dc261267530eedc726c13f277e5344f", func := "vitrine/vitrinelaw07.ChunkKinds", spec := "chunkKinds", inPlace := ["internal/abi.NoEscape"], apart := false }
def ChunkKindsSaid : Prop := chunkKindsRow.holds Try.pinned (OpenSpec.ofChange chunkKindsSpec)

/-- ITS FALSE NEIGHBOUR: 'it returns false'. Refute it at one input. -/
def chunkKindsWrong : ChangeSpec := { name := "chunkKinds", fn := fun _ => fun
  | [d] => { results := [.lit (.bool false)], args := [d] }
  | _ => none }
def ChunkKindsWrongFalsely : Prop := chunkKindsRow.holds Try.pinned (OpenSpec.ofChange chunkKindsWrong)

/- THE SECOND FORM. 'bulk': how many values and letters a reading holds, each counted each time it is reached (what is shared counts as often as it is met; a slice's spare places count too). A statement '..UptoSaid' is the law's where the arguments, and the package variables that the reading takes, are together of bulk at most 1048576: NARROWER than '..Said'. Prove '..Said' where nothing that the law and all that it calls make is longer than what came in: it says more and counts as full. Else prove '..UptoSaid'. A law counts once. -/
mutual
def uptoBulk {H : Type} : DataW H → Nat
  | .lit (.string bytes) => bytes.length + 1
  | .lit _ => 1
  | .nil => 1
  | .ptr d => uptoBulk d + 1
  | .slice elems spare => uptoBulkAll elems + uptoBulkAll spare + 1
  | .agg parts => uptoBulkAll parts + 1
  | .iface _ d => uptoBulk d + 1
  | .map entries => uptoBulkEntries entries + 1
  | .held _ => 1
def uptoBulkAll {H : Type} : List (DataW H) → Nat
  | [] => 0
  | d :: r => uptoBulk d + uptoBulkAll r
def uptoBulkEntries {H : Type} : List (Lit × DataW H) → Nat
  | [] => 0
  | x :: r => uptoBulkEntry x + uptoBulkEntries r
def uptoBulkEntry {H : Type} : Lit × DataW H → Nat
  | (.string bytes, d) => bytes.length + uptoBulk d + 1
  | (_, d) => uptoBulk d + 1
 end
def uptoSmall : (H : Type) → List (DataW H) → Bool := fun _ ds => decide (uptoBulkAll ds ≤ 1048576)
def OpenSpec.upto (s : _root_.Go.ChangeSpec) : _root_.Go.OpenSpec := { _root_.Go.OpenSpec.ofChange s with cond := some uptoSmall }

/-- 'vitrinelaw07.ChunkSplits', WHERE WHAT IT READS IS OF BULK AT MOST 1048576: true; the input reads as it did. -/
def chunkSplitsUptoRow : OpenClaim := { program := "ytfgbfbhllbejpaa", sum := "f310ddc19ca67d400f5e59b60d80c09e9dc261267530eedc726c13f277e5344f", func := "vitrine/vitrinelaw07.ChunkSplits", spec := "chunkSplits", inPlace := ["internal/abi.NoEscape"], apart := false, narrowed := true }
def ChunkSplitsUptoSaid : Prop := chunkSplitsUptoRow.holds Try.pinned (OpenSpec.upto chunkSplitsSpec)

/-- 'vitrinelaw07.ChunkJoins', WHERE WHAT IT READS IS OF BULK AT MOST 1048576: true; the input reads as it did. -/
def chunkJoinsUptoRow : OpenClaim := { program := "ytfgbfbhllbejpaa", sum := "f310ddc19ca67d400f5e59b60d80c09e9dc261267530eedc726c13f277e5344f", func := "vitrine/vitrinelaw07.ChunkJoins", spec := "chunkJoins", inPlace := ["internal/abi.NoEscape"], apart := false, narrowed := true }
def ChunkJoinsUptoSaid : Prop := chunkJoinsUptoRow.holds Try.pinned (OpenSpec.upto chunkJoinsSpec)

/-- 'vitrinelaw07.ChunkBack', WHERE WHAT IT READS IS OF BULK AT MOST 1048576: true; the input reads as it did. -/
def chunkBackUptoRow : OpenClaim := { program := "ytfgbfbhllbejpaa", sum := "f310ddc19ca67d400f5e59b60d80c09e9dc261267530eedc726c13f277e5344f", func := "vitrine/vitrinelaw07.ChunkBack", spec := "chunkBack", inPlace := ["internal/abi.NoEscape"], apart := false, narrowed := true }
def ChunkBackUptoSaid : Prop := chunkBackUptoRow.holds Try.pinned (OpenSpec.upto chunkBackSpec)

/-- 'vitrinelaw07.ChunkTold', WHERE WHAT IT READS IS OF BULK AT MOST 1048576: true; the input reads as it did. -/
def chunkToldUptoRow : OpenClaim := { program := "ytfgbfbhllbejpaa", sum := "f310ddc19ca67d400f5e59b60d80c09e9dc261267530eedc726c13f277e5344f", func := "vitrine/vitrinelaw07.ChunkTold", spec := "chunkTold", inPlace := ["internal/abi.NoEscape"], apart := false, narrowed := true }
def ChunkToldUptoSaid : Prop := chunkToldUptoRow.holds Try.pinned (OpenSpec.upto chunkToldSpec)

/-- 'vitrinelaw07.ChunkOne', WHERE WHAT IT READS IS OF BULK AT MOST 1048576: true; the input reads as it did. -/
def chunkOneUptoRow : OpenClaim := { program := "ytfgbfbhllbejpaa", sum := "f310ddc19ca67d400f5e59b60d80c09e9dc261267530eedc726c13f277e5344f", func := "vitrine/vitrinelaw07.ChunkOne", spec := "chunkOne", inPlace := ["internal/abi.NoEscape"], apart := false, narrowed := true }
def ChunkOneUptoSaid : Prop := chunkOneUptoRow.holds Try.pinned (OpenSpec.upto chunkOneSpec)

/-- 'vitrinelaw07.ChunkKinds', WHERE WHAT IT READS IS OF BULK AT MOST 1048576: true; the input reads as it did. -/
def chunkKindsUptoRow : OpenClaim := { program := "ytfgbfbhllbejpaa", sum := "f310ddc19ca67d400f5e59b60d80c09e9dc261267530eedc726c13f277e5344f", func := "vitrine/vitrinelaw07.ChunkKinds", spec := "chunkKinds", inPlace := ["internal/abi.NoEscape"], apart := false, narrowed := true }
def ChunkKindsUptoSaid : Prop := chunkKindsUptoRow.holds Try.pinned (OpenSpec.upto chunkKindsSpec)

end Rows
end Go.Proofs.Ytfgbfbhllbejpaa
