/-
  No cell of these rows narrows 'for every input' (looked for: loops, veiled, ifaces, maps, wideKeys, modest, calm, conditions, laid).
  DERIVED. THE GIVEN ROWS OF THIS SEAT. 6 by the template 'for every input the law returns true; each argument reads behind the call as it read before'; 0 by the template 'total and deterministic' (their statements: YtbpnkgidlmjkkaaTotals.lean).
  GIVEN WITH THE SEED: the statements are not yours to turn. If you find one false, say at which input.
  Laid BY PROGRAM, IN A SANDBOX (cutbox-rows.mjs): the forced cells as the released guide's own fill.sh prints them over the translation ba59ccc28375fb8e… (all of the seat's roots in one cut). By AI agents, Wed Nov 11 2026. No macro, syntax, notation, axiom, sorry.
-/
import Derived.Test.YtbpnkgidlmjkkaaChecked
import GoSem.Claim
import GoSem.ClaimJoined
import GoSem.ClaimMapViews
import Derived.JoinedTies
import Derived.KernelRfl
namespace Go.Proofs.Ytbpnkgidlmjkkaa
/- THE CELL 'sum', in the pinned program and in every row, IS THE sha256 OF THE DUMP (.gsa) THAT YtbpnkgidlmjkkaaProg.lean LOADS. Nothing in Lean hashes anything: it is a label: what it is worth is what the hold of that sum in a sandbox is worth. -/
noncomputable def Try.pinned : Pinned := { name := "ytbpnkgidlmjkkaa", sum := "ba59ccc28375fb8e529374bc6f77ab365a67757af9636134a9a79eef70e696c7", checked := Try.checked }
namespace Rows
def none {H : Type} : Left H := { results := [], args := [] }

/-- 'vitrinelaw08.HeadRight': WHATEVER THE INPUT: true; the input reads as it did. -/
def headRightSpec : ChangeSpec := { name := "headRight", fn := fun _ => fun
  | [d1, d2] => { results := [.lit (.bool true)], args := [d1, d2] }
  | _ => none }
def headRightRow : OpenClaim := { program := "ytbpnkgidlmjkkaa", sum := "ba59ccc28375fb8e529374bc6f77ab365a67757af9636134a9a79eef70e696c7", func := "vitrine/vitrinelaw08.HeadRight", spec := "headRight", inPlace := ["internal/abi.NoEscape"], unfollowed := true, recurses := true, apart := false }
def HeadRightSaid : Prop := headRightRow.holds Try.pinned (OpenSpec.ofChange headRightSpec)

/-- ITS FALSE NEIGHBOUR: 'it returns false'. Refute it at one input. -/
def headRightWrong : ChangeSpec := { name := "headRight", fn := fun _ => fun
  | [d1, d2] => { results := [.lit (.bool false)], args := [d1, d2] }
  | _ => none }
def HeadRightWrongFalsely : Prop := headRightRow.holds Try.pinned (OpenSpec.ofChange headRightWrong)

/-- 'vitrinelaw08.HeadLays': WHATEVER THE INPUT: true; the input reads as it did. -/
def headLaysSpec : ChangeSpec := { name := "headLays", fn := fun _ => fun
  | [d] => { results := [.lit (.bool true)], args := [d] }
  | _ => none }
def headLaysRow : OpenClaim := { program := "ytbpnkgidlmjkkaa", sum := "ba59ccc28375fb8e529374bc6f77ab365a67757af9636134a9a79eef70e696c7", func := "vitrine/vitrinelaw08.HeadLays", spec := "headLays", inPlace := ["internal/abi.NoEscape"], unfollowed := true, recurses := true, apart := false }
def HeadLaysSaid : Prop := headLaysRow.holds Try.pinned (OpenSpec.ofChange headLaysSpec)

/-- ITS FALSE NEIGHBOUR: 'it returns false'. Refute it at one input. -/
def headLaysWrong : ChangeSpec := { name := "headLays", fn := fun _ => fun
  | [d] => { results := [.lit (.bool false)], args := [d] }
  | _ => none }
def HeadLaysWrongFalsely : Prop := headLaysRow.holds Try.pinned (OpenSpec.ofChange headLaysWrong)

/-- 'vitrinelaw08.HeadReads': WHATEVER THE INPUT: true; the input reads as it did. -/
def headReadsSpec : ChangeSpec := { name := "headReads", fn := fun _ => fun
  | [d] => { results := [.lit (.bool true)], args := [d] }
  | _ => none }
def headReadsRow : OpenClaim := { program := "ytbpnkgidlmjkkaa", sum := "ba59ccc28375fb8e529374bc6f77ab365a67757af9636134a9a79eef70e696c7", func := "vitrine/vitrinelaw08.HeadReads", spec := "headReads", inPlace := ["internal/abi.NoEscape"], unfollowed := true, recurses := true, apart := false }
def HeadReadsSaid : Prop := headReadsRow.holds Try.pinned (OpenSpec.ofChange headReadsSpec)

/-- ITS FALSE NEIGHBOUR: 'it returns false'. Refute it at one input. -/
def headReadsWrong : ChangeSpec := { name := "headReads", fn := fun _ => fun
  | [d] => { results := [.lit (.bool false)], args := [d] }
  | _ => none }
def HeadReadsWrongFalsely : Prop := headReadsRow.holds Try.pinned (OpenSpec.ofChange headReadsWrong)

/-- 'vitrinelaw08.HeadBack': WHATEVER THE INPUT: true; the input reads as it did. -/
def headBackSpec : ChangeSpec := { name := "headBack", fn := fun _ => fun
  | [d1, d2] => { results := [.lit (.bool true)], args := [d1, d2] }
  | _ => none }
def headBackRow : OpenClaim := { program := "ytbpnkgidlmjkkaa", sum := "ba59ccc28375fb8e529374bc6f77ab365a67757af9636134a9a79eef70e696c7", func := "vitrine/vitrinelaw08.HeadBack", spec := "headBack", inPlace := ["internal/abi.NoEscape"], unfollowed := true, recurses := true, apart := false }
def HeadBackSaid : Prop := headBackRow.holds Try.pinned (OpenSpec.ofChange headBackSpec)

/-- ITS FALSE NEIGHBOUR: 'it returns false'. Refute it at one input. -/
def headBackWrong : ChangeSpec := { name := "headBack", fn := fun _ => fun
  | [d1, d2] => { results := [.lit (.bool false)], args := [d1, d2] }
  | _ => none }
def HeadBackWrongFalsely : Prop := headBackRow.holds Try.pinned (OpenSpec.ofChange headBackWrong)

/-- 'vitrinelaw08.HeadPasses': WHATEVER THE INPUT: true; the input reads as it did. -/
def headPassesSpec : ChangeSpec := { name := "headPasses", fn := fun _ => fun
  | [d1, d2, d3] => { results := [.lit (.bool true)], args := [d1, d2, d3] }
  | _ => none }
def headPassesRow : OpenClaim := { program := "ytbpnkgidlmjkkaa", sum := "ba59ccc28375fb8e529374bc6f77ab365a67757af9636134a9a79eef70e696c7", func := "vitrine/vitrinelaw08.HeadPasses", spec := "headPasses", inPlace := ["internal/abi.NoEscape"], unfollowed := true, recurses := true, apart := false }
def HeadPassesSaid : Prop := headPassesRow.holds Try.pinned (OpenSpec.ofChange headPassesSpec)

/-- ITS FALSE NEIGHBOUR: 'it returns false'. Refute it at one input. -/
def headPassesWrong : ChangeSpec := { name := "headPasses", fn := fun _ => fun
  | [d1, d2, d3] => { results := [.lit (.bool false)], args := [d1, d2, d3] }
  | _ => none }
def HeadPassesWrongFalsely : Prop := headPassesRow.holds Try.pinned (OpenSpec.ofChange headPassesWrong)

/-- 'vitrinelaw08.HeadSamples': WHATEVER THE INPUT: true; the input reads as it did. -/
def headSamplesSpec : ChangeSpec := { name := "headSamples", fn := fun _ => fun
  | [d] => { results := [.lit (.bool true)], args := [d] }
  | _ => none }
def headSamplesRow : OpenClaim := { program := "ytbpnkgidlmjkkaa", sum := "ba59ccc28375fb8e529374bc6f77ab365a67757af9636134a9a79eef70e696c7", func := "vitrine/vitrinelaw08.HeadSamples", spec := "headSamples", inPlace := ["internal/abi.NoEscape"], unfollowed := true, recurses := true, apart := false }
def HeadSamplesSaid : Prop := headSamplesRow.holds Try.pinned (OpenSpec.ofChange headSamplesSpec)

/-- ITS FALSE NEIGHBOUR: 'it returns false'. Refute it at one input. -/
def headSamplesWrong : ChangeSpec := { name := "headSamples", fn := fun _ => fun
  | [d] => { results := [.lit (.bool false)], args := [d] }
  | _ => none }
def HeadSamplesWrongFalsely : Prop := headSamplesRow.holds Try.pinned (OpenSpec.ofChange headSamplesWrong)

/- THE SECOND FORM. 'bulk': how many values and letters a reading holds, each counted each time it is reached (what is shared counts as often as it is met; a slice's spare places count too). A statement '..UptoSaid' is the law's where the arguments, and the package variables that the reading takes, are together of bulk at most 1048576: NARROWER than '..Said'. Prove '..Said' where nothing that the law and all that it calls make is longer than what came in: it says more and counts as full. Else prove '..UptoSaid'. A law counts once. -/
mutual
def uptoBulk {H : Type} : DataW H → Nat
  | .lit (.string bytes) => bytes.length + 1
  | .lit _ => 1
  | .nil => 1
  | .ptr d => uptoBulk d + 1
  | .slice elems spare => uptoBulkAll elems + uptoBulkAll spare + 1
  | .agg parts => uptoBulkAll parts + 1
  | .iface _ d => uptoBulk d + 1
  | .map entries => uptoBulkEntries entries + 1
  | .held _ => 1
def uptoBulkAll {H : Type} : List (DataW H) → Nat
  | [] => 0
  | d :: r => uptoBulk d + uptoBulkAll r
def uptoBulkEntries {H : Type} : List (Lit × DataW H) → Nat
  | [] => 0
  | x :: r => uptoBulkEntry x + uptoBulkEntries r
def uptoBulkEntry {H : Type} : Lit × DataW H → Nat
  | (.string bytes, d) => bytes.length + uptoBulk d + 1
  | (_, d) => uptoBulk d + 1
 end
def uptoSmall : (H : Type) → List (DataW H) → Bool := fun _ ds => decide (uptoBulkAll ds ≤ 1048576)
def OpenSpec.upto (s : _root_.Go.ChangeSpec) : _root_.Go.OpenSpec := { _root_.Go.OpenSpec.ofChange s with cond := some uptoSmall }

/-- 'vitrinelaw08.HeadRight', WHERE WHAT IT READS IS OF BULK AT MOST 1048576: true; the input reads as it did. -/
def headRightUptoRow : OpenClaim := { program := "ytbpnkgidlmjkkaa", sum := "ba59ccc28375fb8e529374bc6f77ab365a67757af9636134a9a79eef70e696c7", func := "vitrine/vitrinelaw08.HeadRight", spec := "headRight", inPlace := ["internal/abi.NoEscape"], unfollowed := true, recurses := true, apart := false, narrowed := true }
def HeadRightUptoSaid : Prop := headRightUptoRow.holds Try.pinned (OpenSpec.upto headRightSpec)

/-- 'vitrinelaw08.HeadLays', WHERE WHAT IT READS IS OF BULK AT MOST 1048576: true; the input reads as it did. -/
def headLaysUptoRow : OpenClaim := { program := "ytbpnkgidlmjkkaa", sum := "ba59ccc28375fb8e529374bc6f77ab365a67757af9636134a9a79eef70e696c7", func := "vitrine/vitrinelaw08.HeadLays", spec := "headLays", inPlace := ["internal/abi.NoEscape"], unfollowed := true, recurses := true, apart := false, narrowed := true }
def HeadLaysUptoSaid : Prop := headLaysUptoRow.holds Try.pinned (OpenSpec.upto headLaysSpec)

/-- 'vitrinelaw08.HeadReads', WHERE WHAT IT READS IS OF BULK AT MOST 1048576: true; the input reads as it did. -/
def headReadsUptoRow : OpenClaim := { program := "ytbpnkgidlmjkkaa", sum := "ba59ccc28375fb8e529374bc6f77ab365a67757af9636134a9a79eef70e696c7", func := "vitrine/vitrinelaw08.HeadReads", spec := "headReads", inPlace := ["internal/abi.NoEscape"], unfollowed := true, recurses := true, apart := false, narrowed := true }
def HeadReadsUptoSaid : Prop := headReadsUptoRow.holds Try.pinned (OpenSpec.upto headReadsSpec)

/-- 'vitrinelaw08.HeadBack', WHERE WHAT IT READS IS OF BULK AT MOST 1048576: true; the input reads as it did. -/
def headBackUptoRow : OpenClaim := { program := "ytbpnkgidlmjkkaa", sum := "ba59ccc28375fb8e529374bc6f77ab365a67757af9636134a9a79eef70e696c7", func := "vitrine/vitrinelaw08.HeadBack", spec := "headBack", inPlace := ["internal/abi.NoEscape"], unfollowed := true, recurses := true, apart := false, narrowed := true }
def HeadBackUptoSaid : Prop := headBackUptoRow.holds Try.pinned (OpenSpec.upto headBackSpec)

/-- 'vitrinelaw08.HeadPasses', WHERE WHAT IT READS IS OF BULK AT MOST 1048576: true; the input reads as it did. -/
def headPassesUptoRow : OpenClaim := { program := "ytbpnkgidlmjkkaa", sum := "ba59ccc28375fb8e529374bc6f77ab365a67757af9636134a9a79eef70e696c7", func := "vitrine/vitrinelaw08.HeadPasses", spec := "headPasses", inPlace := ["internal/abi.NoEscape"], unfollowed := true, recurses := true, apart := false, narrowed := true }
def HeadPassesUptoSaid : Prop := headPassesUptoRow.holds Try.pinned (OpenSpec.upto headPassesSpec)

/-- 'vitrinelaw08.HeadSamples', WHERE WHAT IT READS IS OF BULK AT MOST 1048576: true; the input reads as it did. -/
def headSamplesUptoRow : OpenClaim := { program := "ytbpnkgidlmjkkaa", sum := "ba59ccc28375fb8e529374bc6f77ab365a67757af9636134a9a79eef70e696c7", func := "vitrine/vitrinelaw08.HeadSamples", spec := "headSamples", inPlace := ["internal/abi.NoEscape"], unfollowed := true, recurses := true, apart := false, narrowed := true }
def HeadSamplesUptoSaid : Prop := headSamplesUptoRow.holds Try.pinned (OpenSpec.upto headSamplesSpec)

end Rows
end Go.Proofs.Ytbpnkgidlmjkkaa
