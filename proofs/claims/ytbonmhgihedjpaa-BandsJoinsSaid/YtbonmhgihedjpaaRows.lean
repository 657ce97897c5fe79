/-
  No cell of these rows narrows 'for every input' (looked for: loops, veiled, ifaces, maps, wideKeys, modest, calm, conditions, laid).
  DERIVED. THE GIVEN ROWS OF THIS SEAT. 6 by the template 'for every input the law returns true; each argument reads behind the call as it read before'; 0 by the template 'total and deterministic' (their statements: YtbonmhgihedjpaaTotals.lean).
  GIVEN WITH THE SEED: the statements are not yours to turn. If you find one false, say at which input.
  Laid BY PROGRAM, IN A SANDBOX (cutbox-rows.mjs): the forced cells as the released guide's own fill.sh prints them over the translation 4c5210d2d6226d9d… (all of the seat's roots in one cut). By AI agents, Wed Nov 11 2026. No macro, syntax, notation, axiom, sorry.
-/
import Derived.Test.YtbonmhgihedjpaaChecked
import GoSem.Claim
import GoSem.ClaimJoined
import GoSem.ClaimMapViews
import Derived.JoinedTies
import Derived.KernelRfl
namespace Go.Proofs.Ytbonmhgihedjpaa
/- THE CELL 'sum', in the pinned program and in every row, IS THE sha256 OF THE DUMP (.gsa) THAT YtbonmhgihedjpaaProg.lean LOADS. Nothing in Lean hashes anything: it is a label: what it is worth is what the hold of that sum in a sandbox is worth. -/
noncomputable def Try.pinned : Pinned := { name := "ytbonmhgihedjpaa", sum := "4c5210d2d6226d9d2b220d81c5fc6da83027225a261fe76ac822e57932855d80", checked := Try.checked }
namespace Rows
def none {H : Type} : Left H := { results := [], args := [] }

/-- 'vitrinelaw15.BandsCuts': WHATEVER THE INPUT: true; the input reads as it did. -/
def bandsCutsSpec : ChangeSpec := { name := "bandsCuts", fn := fun _ => fun
  | [d] => { results := [.lit (.bool true)], args := [d] }
  | _ => none }
def bandsCutsRow : OpenClaim := { program := "ytbonmhgihedjpaa", sum := "4c5210d2d6226d9d2b220d81c5fc6da83027225a261fe76ac822e57932855d80", func := "vitrine/vitrinelaw15.BandsCuts", spec := "bandsCuts", inPlace := ["internal/abi.NoEscape"], apart := false }
def BandsCutsSaid : Prop := bandsCutsRow.holds Try.pinned (OpenSpec.ofChange bandsCutsSpec)

/-- ITS FALSE NEIGHBOUR: 'it returns false'. Refute it at one input. -/
def bandsCutsWrong : ChangeSpec := { name := "bandsCuts", fn := fun _ => fun
  | [d] => { results := [.lit (.bool false)], args := [d] }
  | _ => none }
def BandsCutsWrongFalsely : Prop := bandsCutsRow.holds Try.pinned (OpenSpec.ofChange bandsCutsWrong)

/-- 'vitrinelaw15.BandsNames': WHATEVER THE INPUT: true; the input reads as it did. -/
def bandsNamesSpec : ChangeSpec := { name := "bandsNames", fn := fun _ => fun
  | [d] => { results := [.lit (.bool true)], args := [d] }
  | _ => none }
def bandsNamesRow : OpenClaim := { program := "ytbonmhgihedjpaa", sum := "4c5210d2d6226d9d2b220d81c5fc6da83027225a261fe76ac822e57932855d80", func := "vitrine/vitrinelaw15.BandsNames", spec := "bandsNames", inPlace := ["internal/abi.NoEscape"], apart := false }
def BandsNamesSaid : Prop := bandsNamesRow.holds Try.pinned (OpenSpec.ofChange bandsNamesSpec)

/-- ITS FALSE NEIGHBOUR: 'it returns false'. Refute it at one input. -/
def bandsNamesWrong : ChangeSpec := { name := "bandsNames", fn := fun _ => fun
  | [d] => { results := [.lit (.bool false)], args := [d] }
  | _ => none }
def BandsNamesWrongFalsely : Prop := bandsNamesRow.holds Try.pinned (OpenSpec.ofChange bandsNamesWrong)

/-- 'vitrinelaw15.BandsApart': WHATEVER THE INPUT: true; the input reads as it did. -/
def bandsApartSpec : ChangeSpec := { name := "bandsApart", fn := fun _ => fun
  | [d1, d2] => { results := [.lit (.bool true)], args := [d1, d2] }
  | _ => none }
def bandsApartRow : OpenClaim := { program := "ytbonmhgihedjpaa", sum := "4c5210d2d6226d9d2b220d81c5fc6da83027225a261fe76ac822e57932855d80", func := "vitrine/vitrinelaw15.BandsApart", spec := "bandsApart", inPlace := ["internal/abi.NoEscape"], apart := false }
def BandsApartSaid : Prop := bandsApartRow.holds Try.pinned (OpenSpec.ofChange bandsApartSpec)

/-- ITS FALSE NEIGHBOUR: 'it returns false'. Refute it at one input. -/
def bandsApartWrong : ChangeSpec := { name := "bandsApart", fn := fun _ => fun
  | [d1, d2] => { results := [.lit (.bool false)], args := [d1, d2] }
  | _ => none }
def BandsApartWrongFalsely : Prop := bandsApartRow.holds Try.pinned (OpenSpec.ofChange bandsApartWrong)

/-- 'vitrinelaw15.BandsManifest': WHATEVER THE INPUT: true; the input reads as it did. -/
def bandsManifestSpec : ChangeSpec := { name := "bandsManifest", fn := fun _ => fun
  | [d] => { results := [.lit (.bool true)], args := [d] }
  | _ => none }
def bandsManifestRow : OpenClaim := { program := "ytbonmhgihedjpaa", sum := "4c5210d2d6226d9d2b220d81c5fc6da83027225a261fe76ac822e57932855d80", func := "vitrine/vitrinelaw15.BandsManifest", spec := "bandsManifest", inPlace := ["internal/abi.NoEscape"], apart := false }
def BandsManifestSaid : Prop := bandsManifestRow.holds Try.pinned (OpenSpec.ofChange bandsManifestSpec)

/-- ITS FALSE NEIGHBOUR: 'it returns false'. Refute it at one input. -/
def bandsManifestWrong : ChangeSpec := { name := "bandsManifest", fn := fun _ => fun
  | [d] => { results := [.lit (.bool false)], args := [d] }
  | _ => none }
def BandsManifestWrongFalsely : Prop := bandsManifestRow.holds Try.pinned (OpenSpec.ofChange bandsManifestWrong)

/-- 'vitrinelaw15.BandsReads': WHATEVER THE INPUT: true; the input reads as it did. -/
def bandsReadsSpec : ChangeSpec := { name := "bandsReads", fn := fun _ => fun
  | [d] => { results := [.lit (.bool true)], args := [d] }
  | _ => none }
def bandsReadsRow : OpenClaim := { program := "ytbonmhgihedjpaa", sum := "4c5210d2d6226d9d2b220d81c5fc6da83027225a261fe76ac822e57932855d80", func := "vitrine/vitrinelaw15.BandsReads", spec := "bandsReads", inPlace := ["internal/abi.NoEscape"], apart := false }
def BandsReadsSaid : Prop := bandsReadsRow.holds Try.pinned (OpenSpec.ofChange bandsReadsSpec)

/-- ITS FALSE NEIGHBOUR: 'it returns false'. Refute it at one input. -/
def bandsReadsWrong : ChangeSpec := { name := "bandsReads", fn := fun _ => fun
  | [d] => { results := [.lit (.bool false)], args := [d] }
  | _ => none }
def BandsReadsWrongFalsely : Prop := bandsReadsRow.holds Try.pinned (OpenSpec.ofChange bandsReadsWrong)

/-- 'vitrinelaw15.BandsJoins': WHATEVER THE INPUT: true; the input reads as it did. -/
def bandsJoinsSpec : ChangeSpec := { name := "bandsJoins", fn := fun _ => fun
  | [d1, d2] => { results := [.lit (.bool true)], args := [d1, d2] }
  | _ => none }
def bandsJoinsRow : OpenClaim := { program := "ytbonmhgihedjpaa", sum := "4c5210d2d6226d9d2b220d81c5fc6da83027225a261fe76ac822e57932855d80", func := "vitrine/vitrinelaw15.BandsJoins", spec := "bandsJoins", inPlace := ["internal/abi.NoEscape", "internal/bytealg.MakeNoZero"], apart := false }
def BandsJoinsSaid : Prop := bandsJoinsRow.holds Try.pinned (OpenSpec.ofChange bandsJoinsSpec)

/-- ITS FALSE NEIGHBOUR: 'it returns false'. Refute it at one input. -/
def bandsJoinsWrong : ChangeSpec := { name := "bandsJoins", fn := fun _ => fun
  | [d1, d2] => { results := [.lit (.bool false)], args := [d1, d2] }
  | _ => none }
def BandsJoinsWrongFalsely : Prop := bandsJoinsRow.holds Try.pinned (OpenSpec.ofChange bandsJoinsWrong)

/- THE SECOND FORM. 'bulk': how many values and letters a reading holds, each counted each time it is reached (what is shared counts as often as it is met; a slice's spare places count too). A statement '..UptoSaid' is the law's where the arguments, and the package variables that the reading takes, are together of bulk at most 1048576: NARROWER than '..Said'. Prove '..Said' where nothing that the law and all that it calls make is longer than what came in: it says more and counts as full. Else prove '..UptoSaid'. A law counts once. -/
mutual
def uptoBulk {H : Type} : DataW H → Nat
  | .lit (.string bytes) => bytes.length + 1
  | .lit _ => 1
  | .nil => 1
  | .ptr d => uptoBulk d + 1
  | .slice elems spare => uptoBulkAll elems + uptoBulkAll spare + 1
  | .agg parts => uptoBulkAll parts + 1
  | .iface _ d => uptoBulk d + 1
  | .map entries => uptoBulkEntries entries + 1
  | .held _ => 1
def uptoBulkAll {H : Type} : List (DataW H) → Nat
  | [] => 0
  | d :: r => uptoBulk d + uptoBulkAll r
def uptoBulkEntries {H : Type} : List (Lit × DataW H) → Nat
  | [] => 0
  | x :: r => uptoBulkEntry x + uptoBulkEntries r
def uptoBulkEntry {H : Type} : Lit × DataW H → Nat
  | (.string bytes, d) => bytes.length + uptoBulk d + 1
  | (_, d) => uptoBulk d + 1
 end
def uptoSmall : (H : Type) → List (DataW H) → Bool := fun _ ds => decide (uptoBulkAll ds ≤ 1048576)
def OpenSpec.upto (s : _root_.Go.ChangeSpec) : _root_.Go.OpenSpec := { _root_.Go.OpenSpec.ofChange s with cond := some uptoSmall }

/-- 'vitrinelaw15.BandsCuts', WHERE WHAT IT READS IS OF BULK AT MOST 1048576: true; the input reads as it did. -/
def bandsCutsUptoRow : OpenClaim := { program := "ytbonmhgihedjpaa", sum := "4c5210d2d6226d9d2b220d81c5fc6da83027225a261fe76ac822e57932855d80", func := "vitrine/vitrinelaw15.BandsCuts", spec := "bandsCuts", inPlace := ["internal/abi.NoEscape"], apart := false, narrowed := true }
def BandsCutsUptoSaid : Prop := bandsCutsUptoRow.holds Try.pinned (OpenSpec.upto bandsCutsSpec)

/-- 'vitrinelaw15.BandsNames', WHERE WHAT IT READS IS OF BULK AT MOST 1048576: true; the input reads as it did. -/
def bandsNamesUptoRow : OpenClaim := { program := "ytbonmhgihedjpaa", sum := "4c5210d2d6226d9d2b220d81c5fc6da83027225a261fe76ac822e57932855d80", func := "vitrine/vitrinelaw15.BandsNames", spec := "bandsNames", inPlace := ["internal/abi.NoEscape"], apart := false, narrowed := true }
def BandsNamesUptoSaid : Prop := bandsNamesUptoRow.holds Try.pinned (OpenSpec.upto bandsNamesSpec)

/-- 'vitrinelaw15.BandsApart', WHERE WHAT IT READS IS OF BULK AT MOST 1048576: true; the input reads as it did. -/
def bandsApartUptoRow : OpenClaim := { program := "ytbonmhgihedjpaa", sum := "4c5210d2d6226d9d2b220d81c5fc6da83027225a261fe76ac822e57932855d80", func := "vitrine/vitrinelaw15.BandsApart", spec := "bandsApart", inPlace := ["internal/abi.NoEscape"], apart := false, narrowed := true }
def BandsApartUptoSaid : Prop := bandsApartUptoRow.holds Try.pinned (OpenSpec.upto bandsApartSpec)

/-- 'vitrinelaw15.BandsManifest', WHERE WHAT IT READS IS OF BULK AT MOST 1048576: true; the input reads as it did. -/
def bandsManifestUptoRow : OpenClaim := { program := "ytbonmhgihedjpaa", sum := "4c5210d2d6226d9d2b220d81c5fc6da83027225a261fe76ac822e57932855d80", func := "vitrine/vitrinelaw15.BandsManifest", spec := "bandsManifest", inPlace := ["internal/abi.NoEscape"], apart := false, narrowed := true }
def BandsManifestUptoSaid : Prop := bandsManifestUptoRow.holds Try.pinned (OpenSpec.upto bandsManifestSpec)

/-- 'vitrinelaw15.BandsReads', WHERE WHAT IT READS IS OF BULK AT MOST 1048576: true; the input reads as it did. -/
def bandsReadsUptoRow : OpenClaim := { program := "ytbonmhgihedjpaa", sum := "4c5210d2d6226d9d2b220d81c5fc6da83027225a261fe76ac822e57932855d80", func := "vitrine/vitrinelaw15.BandsReads", spec := "bandsReads", inPlace := ["internal/abi.NoEscape"], apart := false, narrowed := true }
def BandsReadsUptoSaid : Prop := bandsReadsUptoRow.holds Try.pinned (OpenSpec.upto bandsReadsSpec)

/-- 'vitrinelaw15.BandsJoins', WHERE WHAT IT READS IS OF BULK AT MOST 1048576: true; the input reads as it did. -/
def bandsJoinsUptoRow : OpenClaim := { program := "ytbonmhgihedjpaa", sum := "4c5210d2d6226d9d2b220d81c5fc6da83027225a261fe76ac822e57932855d80", func := "vitrine/vitrinelaw15.BandsJoins", spec := "bandsJoins", inPlace := ["internal/abi.NoEscape", "internal/bytealg.MakeNoZero"], apart := false, narrowed := true }
def BandsJoinsUptoSaid : Prop := bandsJoinsUptoRow.holds Try.pinned (OpenSpec.upto bandsJoinsSpec)

end Rows
end Go.Proofs.Ytbonmhgihedjpaa
