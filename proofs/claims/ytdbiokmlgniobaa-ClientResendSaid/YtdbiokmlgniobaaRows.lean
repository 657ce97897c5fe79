/-
  No cell of these rows narrows 'for every input' (looked for: loops, veiled, ifaces, maps, wideKeys, modest, calm, conditions, laid).
  DERIVED. THE GIVEN ROWS OF THIS SEAT. 5 by the template 'for every input the law returns true; each argument reads behind the call as it read before'; 0 by the template 'total and deterministic' (their statements: YtdbiokmlgniobaaTotals.lean).
  GIVEN WITH THE SEED: the statements are not yours to turn. If you find one false, say at which input.
  Laid BY PROGRAM, IN A SANDBOX (cutbox-rows.mjs): the forced cells as the released guide's own fill.sh prints them over the translation 0cf19ea81f8bac0e… (all of the seat's roots in one cut). By AI agents, Wed Nov 11 2026. No macro, syntax, notation, axiom, sorry.
-/
import Derived.Test.YtdbiokmlgniobaaChecked
import GoSem.Claim
import GoSem.ClaimJoined
import GoSem.ClaimMapViews
import Derived.JoinedTies
import Derived.KernelRfl
namespace Go.Proofs.Ytdbiokmlgniobaa
/- THE CELL 'sum', in the pinned program and in every row, IS THE sha256 OF THE DUMP (.gsa) THAT YtdbiokmlgniobaaProg.lean LOADS. Nothing in Lean hashes anything: it is a label: what it is worth is what the hold of that sum in a sandbox is worth. -/
noncomputable def Try.pinned : Pinned := { name := "ytdbiokmlgniobaa", sum := "0cf19ea81f8bac0ea95e49622e2512a47cfef919e025c1b27a2653366e963825", checked := Try.checked }
namespace Rows
def none {H : Type} : Left H := { results := [], args := [] }

/-- 'vitrinelaw22.ClientBusy': WHATEVER THE INPUT: true; the input reads as it did. -/
def clientBusySpec : ChangeSpec := { name := "clientBusy", fn := fun _ => fun
  | [d] => { results := [.lit (.bool true)], args := [d] }
  | _ => none }
def clientBusyRow : OpenClaim := { program := "ytdbiokmlgniobaa", sum := "0cf19ea81f8bac0ea95e49622e2512a47cfef919e025c1b27a2653366e963825", func := "vitrine/vitrinelaw22.ClientBusy", spec := "clientBusy", inPlace := ["internal/abi.NoEscape", "internal/bytealg.MakeNoZero"], apart := false }
def ClientBusySaid : Prop := clientBusyRow.holds Try.pinned (OpenSpec.ofChange clientBusySpec)

/-- ITS FALSE NEIGHBOUR: 'it returns false'. Refute it at one input. -/
def clientBusyWrong : ChangeSpec := { name := "clientBusy", fn := fun _ => fun
  | [d] => { results := [.lit (.bool false)], args := [d] }
  | _ => none }
def ClientBusyWrongFalsely : Prop := clientBusyRow.holds Try.pinned (OpenSpec.ofChange clientBusyWrong)

/-- 'vitrinelaw22.ClientNil': WHATEVER THE INPUT: true; the input reads as it did. -/
def clientNilSpec : ChangeSpec := { name := "clientNil", fn := fun _ => fun
  | [d] => { results := [.lit (.bool true)], args := [d] }
  | _ => none }
def clientNilRow : OpenClaim := { program := "ytdbiokmlgniobaa", sum := "0cf19ea81f8bac0ea95e49622e2512a47cfef919e025c1b27a2653366e963825", func := "vitrine/vitrinelaw22.ClientNil", spec := "clientNil", inPlace := ["internal/abi.NoEscape", "internal/bytealg.MakeNoZero"], apart := false }
def ClientNilSaid : Prop := clientNilRow.holds Try.pinned (OpenSpec.ofChange clientNilSpec)

/-- ITS FALSE NEIGHBOUR: 'it returns false'. Refute it at one input. -/
def clientNilWrong : ChangeSpec := { name := "clientNil", fn := fun _ => fun
  | [d] => { results := [.lit (.bool false)], args := [d] }
  | _ => none }
def ClientNilWrongFalsely : Prop := clientNilRow.holds Try.pinned (OpenSpec.ofChange clientNilWrong)

/-- 'vitrinelaw22.ClientPlays': WHATEVER THE INPUT: true; the input reads as it did. -/
def clientPlaysSpec : ChangeSpec := { name := "clientPlays", fn := fun _ => fun
  | [d1, d2, d3] => { results := [.lit (.bool true)], args := [d1, d2, d3] }
  | _ => none }
def clientPlaysRow : OpenClaim := { program := "ytdbiokmlgniobaa", sum := "0cf19ea81f8bac0ea95e49622e2512a47cfef919e025c1b27a2653366e963825", func := "vitrine/vitrinelaw22.ClientPlays", spec := "clientPlays", inPlace := ["internal/abi.NoEscape", "internal/bytealg.MakeNoZero"], apart := false }
def ClientPlaysSaid : Prop := clientPlaysRow.holds Try.pinned (OpenSpec.ofChange clientPlaysSpec)

/-- ITS FALSE NEIGHBOUR: 'it returns false'. Refute it at one input. -/
def clientPlaysWrong : ChangeSpec := { name := "clientPlays", fn := fun _ => fun
  | [d1, d2, d3] => { results := [.lit (.bool false)], args := [d1, d2, d3] }
  | _ => none }
def ClientPlaysWrongFalsely : Prop := clientPlaysRow.holds Try.pinned (OpenSpec.ofChange clientPlaysWrong)

/-- 'vitrinelaw22.ClientMost': WHATEVER THE INPUT: true; the input reads as it did. -/
def clientMostSpec : ChangeSpec := { name := "clientMost", fn := fun _ => fun
  | [d1, d2, d3] => { results := [.lit (.bool true)], args := [d1, d2, d3] }
  | _ => none }
def clientMostRow : OpenClaim := { program := "ytdbiokmlgniobaa", sum := "0cf19ea81f8bac0ea95e49622e2512a47cfef919e025c1b27a2653366e963825", func := "vitrine/vitrinelaw22.ClientMost", spec := "clientMost", inPlace := ["internal/abi.NoEscape", "internal/bytealg.MakeNoZero"], apart := false }
def ClientMostSaid : Prop := clientMostRow.holds Try.pinned (OpenSpec.ofChange clientMostSpec)

/-- ITS FALSE NEIGHBOUR: 'it returns false'. Refute it at one input. -/
def clientMostWrong : ChangeSpec := { name := "clientMost", fn := fun _ => fun
  | [d1, d2, d3] => { results := [.lit (.bool false)], args := [d1, d2, d3] }
  | _ => none }
def ClientMostWrongFalsely : Prop := clientMostRow.holds Try.pinned (OpenSpec.ofChange clientMostWrong)

/-- 'vitrinelaw22.ClientResend': WHATEVER THE INPUT: true; the input reads as it did. -/
def clientResendSpec : ChangeSpec := { name := "clientResend", fn := fun _ => fun
  | [d1, d2] => { results := [.lit (.bool true)], args := [d1, d2] }
  | _ => none }
def clientResendRow : OpenClaim := { program := "ytdbiokmlgniobaa", sum := "0cf19ea81f8bac0ea95e49622e2512a47cfef919e025c1b27a2653366e963825", func := "vitrine/vitrinelaw22.ClientResend", spec := "clientResend", inPlace := ["internal/abi.NoEscape", "internal/bytealg.MakeNoZero"], apart := false }
def ClientResendSaid : Prop := clientResendRow.holds Try.pinned (OpenSpec.ofChange clientResendSpec)

/-- ITS FALSE NEIGHBOUR: 'it returns false'. Refute it at one input. -/
def clientResendWrong : ChangeSpec := { name := "clientResend", fn := fun _ => fun
  | [d1, d2] => { results := [.lit (.bool false)], args := [d1, d2] }
  | _ => none }
def ClientResendWrongFalsely : Prop := clientResendRow.holds Try.pinned (OpenSpec.ofChange clientResendWrong)

/- THE SECOND FORM. 'bulk': how many values and letters a reading holds, each counted each time it is reached (what is shared counts as often as it is met; a slice's spare places count too). A statement '..UptoSaid' is the law's where the arguments, and the package variables that the reading takes, are together of bulk at most 1048576: NARROWER than '..Said'. Prove '..Said' where nothing that the law and all that it calls make is longer than what came in: it says more and counts as full. Else prove '..UptoSaid'. A law counts once. -/
mutual
def uptoBulk {H : Type} : DataW H → Nat
  | .lit (.string bytes) => bytes.length + 1
  | .lit _ => 1
  | .nil => 1
  | .ptr d => uptoBulk d + 1
  | .slice elems spare => uptoBulkAll elems + uptoBulkAll spare + 1
  | .agg parts => uptoBulkAll parts + 1
  | .iface _ d => uptoBulk d + 1
  | .map entries => uptoBulkEntries entries + 1
  | .held _ => 1
def uptoBulkAll {H : Type} : List (DataW H) → Nat
  | [] => 0
  | d :: r => uptoBulk d + uptoBulkAll r
def uptoBulkEntries {H : Type} : List (Lit × DataW H) → Nat
  | [] => 0
  | x :: r => uptoBulkEntry x + uptoBulkEntries r
def uptoBulkEntry {H : Type} : Lit × DataW H → Nat
  | (.string bytes, d) => bytes.length + uptoBulk d + 1
  | (_, d) => uptoBulk d + 1
 end
def uptoSmall : (H : Type) → List (DataW H) → Bool := fun _ ds => decide (uptoBulkAll ds ≤ 1048576)
def OpenSpec.upto (s : _root_.Go.ChangeSpec) : _root_.Go.OpenSpec := { _root_.Go.OpenSpec.ofChange s with cond := some uptoSmall }

/-- 'vitrinelaw22.ClientBusy', WHERE WHAT IT READS IS OF BULK AT MOST 1048576: true; the input reads as it did. -/
def clientBusyUptoRow : OpenClaim := { program := "ytdbiokmlgniobaa", sum := "0cf19ea81f8bac0ea95e49622e2512a47cfef919e025c1b27a2653366e963825", func := "vitrine/vitrinelaw22.ClientBusy", spec := "clientBusy", inPlace := ["internal/abi.NoEscape", "internal/bytealg.MakeNoZero"], apart := false, narrowed := true }
def ClientBusyUptoSaid : Prop := clientBusyUptoRow.holds Try.pinned (OpenSpec.upto clientBusySpec)

/-- 'vitrinelaw22.ClientNil', WHERE WHAT IT READS IS OF BULK AT MOST 1048576: true; the input reads as it did. -/
def clientNilUptoRow : OpenClaim := { program := "ytdbiokmlgniobaa", sum := "0cf19ea81f8bac0ea95e49622e2512a47cfef919e025c1b27a2653366e963825", func := "vitrine/vitrinelaw22.ClientNil", spec := "clientNil", inPlace := ["internal/abi.NoEscape", "internal/bytealg.MakeNoZero"], apart := false, narrowed := true }
def ClientNilUptoSaid : Prop := clientNilUptoRow.holds Try.pinned (OpenSpec.upto clientNilSpec)

/-- 'vitrinelaw22.ClientPlays', WHERE WHAT IT READS IS OF BULK AT MOST 1048576: true; the input reads as it did. -/
def clientPlaysUptoRow : OpenClaim := { program := "ytdbiokmlgniobaa", sum := "0cf19ea81f8bac0ea95e49622e2512a47cfef919e025c1b27a2653366e963825", func := "vitrine/vitrinelaw22.ClientPlays", spec := "clientPlays", inPlace := ["internal/abi.NoEscape", "internal/bytealg.MakeNoZero"], apart := false, narrowed := true }
def ClientPlaysUptoSaid : Prop := clientPlaysUptoRow.holds Try.pinned (OpenSpec.upto clientPlaysSpec)

/-- 'vitrinelaw22.ClientMost', WHERE WHAT IT READS IS OF BULK AT MOST 1048576: true; the input reads as it did. -/
def clientMostUptoRow : OpenClaim := { program := "ytdbiokmlgniobaa", sum := "0cf19ea81f8bac0ea95e49622e2512a47cfef919e025c1b27a2653366e963825", func := "vitrine/vitrinelaw22.ClientMost", spec := "clientMost", inPlace := ["internal/abi.NoEscape", "internal/bytealg.MakeNoZero"], apart := false, narrowed := true }
def ClientMostUptoSaid : Prop := clientMostUptoRow.holds Try.pinned (OpenSpec.upto clientMostSpec)

/-- 'vitrinelaw22.ClientResend', WHERE WHAT IT READS IS OF BULK AT MOST 1048576: true; the input reads as it did. -/
def clientResendUptoRow : OpenClaim := { program := "ytdbiokmlgniobaa", sum := "0cf19ea81f8bac0ea95e49622e2512a47cfef919e025c1b27a2653366e963825", func := "vitrine/vitrinelaw22.ClientResend", spec := "clientResend", inPlace := ["internal/abi.NoEscape", "internal/bytealg.MakeNoZero"], apart := false, narrowed := true }
def ClientResendUptoSaid : Prop := clientResendUptoRow.holds Try.pinned (OpenSpec.upto clientResendSpec)

end Rows
end Go.Proofs.Ytdbiokmlgniobaa
