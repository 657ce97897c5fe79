/-
  No cell of these rows narrows 'for every input' (looked for: loops, veiled, ifaces, maps, wideKeys, modest, calm, conditions, laid).
  DERIVED. THE GIVEN ROWS OF THIS SEAT. 5 by the template 'for every input the law returns true; each argument reads behind the call as it read before'; 0 by the template 'total and deterministic' (their statements: YtejljcglbkjgkaaTotals.lean).
  GIVEN WITH THE SEED: the statements are not yours to turn. If you find one false, say at which input.
  Laid BY PROGRAM, IN A SANDBOX (cutbox-rows.mjs): the forced cells as the released guide's own fill.sh prints them over the translation 44a8dcd12cce50fb… (all of the seat's roots in one cut). By AI agents, Wed Nov 11 2026. No macro, syntax, notation, axiom, sorry.
-/
import Derived.Test.YtejljcglbkjgkaaChecked
import GoSem.Claim
import GoSem.ClaimJoined
import GoSem.ClaimMapViews
import Derived.JoinedTies
import Derived.KernelRfl
namespace Go.Proofs.Ytejljcglbkjgkaa
/- THE CELL 'sum', in the pinned program and in every row, IS THE sha256 OF THE DUMP (.gsa) THAT YtejljcglbkjgkaaProg.lean LOADS. Nothing in Lean hashes anything: it is a label: what it is worth is what the hold of that sum in a sandbox is worth. -/
noncomputable def Try.pinned : Pinned := { name := "ytejljcglbkjgkaa", sum := "44a8dcd12cce50fbeeec0a4fe1ad15984e984135334586ec5069ca1df7526677", checked := Try.checked }
namespace Rows
def none {H : Type} : Left H := { results := [], args := [] }

/-- 'vitrinelaw12.PixelChecks': WHATEVER THE INPUT: true; the input reads as it did. -/
def pixelChecksSpec : ChangeSpec := { name := "pixelChecks", fn := fun _ => fun
  | [d] => { results := [.lit (.bool true)], args := [d] }
  | _ => none }
def pixelChecksRow : OpenClaim := { program := "ytejljcglbkjgkaa", sum := "44a8dcd12cce50fbeeec0a4fe1ad15984e984135334586ec5069ca1df7526677", func := "vitrine/vitrinelaw12.PixelChecks", spec := "pixelChecks", unfollowed := true, recurses := true, apart := false }
def PixelChecksSaid : Prop := pixelChecksRow.holds Try.pinned (OpenSpec.ofChange pixelChecksSpec)

/-- ITS FALSE NEIGHBOUR: 'it returns false'. Refute it at one input. -/
def pixelChecksWrong : ChangeSpec := { name := "pixelChecks", fn := fun _ => fun
  | [d] => { results := [.lit (.bool false)], args := [d] }
  | _ => none }
def PixelChecksWrongFalsely : Prop := pixelChecksRow.holds Try.pinned (OpenSpec.ofChange pixelChecksWrong)

/-- 'vitrinelaw12.PixelImages': WHATEVER THE INPUT: true; the input reads as it did. -/
def pixelImagesSpec : ChangeSpec := { name := "pixelImages", fn := fun _ => fun
  | [d1, d2] => { results := [.lit (.bool true)], args := [d1, d2] }
  | _ => none }
def pixelImagesRow : OpenClaim := { program := "ytejljcglbkjgkaa", sum := "44a8dcd12cce50fbeeec0a4fe1ad15984e984135334586ec5069ca1df7526677", func := "vitrine/vitrinelaw12.PixelImages", spec := "pixelImages", unfollowed := true, recurses := true, apart := false }
def PixelImagesSaid : Prop := pixelImagesRow.holds Try.pinned (OpenSpec.ofChange pixelImagesSpec)

/-- ITS FALSE NEIGHBOUR: 'it returns false'. Refute it at one input. -/
def pixelImagesWrong : ChangeSpec := { name := "pixelImages", fn := fun _ => fun
  | [d1, d2] => { results := [.lit (.bool false)], args := [d1, d2] }
  | _ => none }
def PixelImagesWrongFalsely : Prop := pixelImagesRow.holds Try.pinned (OpenSpec.ofChange pixelImagesWrong)

/-- 'vitrinelaw12.PixelRows': WHATEVER THE INPUT: true; the input reads as it did. -/
def pixelRowsSpec : ChangeSpec := { name := "pixelRows", fn := fun _ => fun
  | [d] => { results := [.lit (.bool true)], args := [d] }
  | _ => none }
def pixelRowsRow : OpenClaim := { program := "ytejljcglbkjgkaa", sum := "44a8dcd12cce50fbeeec0a4fe1ad15984e984135334586ec5069ca1df7526677", func := "vitrine/vitrinelaw12.PixelRows", spec := "pixelRows", unfollowed := true, recurses := true, apart := false }
def PixelRowsSaid : Prop := pixelRowsRow.holds Try.pinned (OpenSpec.ofChange pixelRowsSpec)

/-- ITS FALSE NEIGHBOUR: 'it returns false'. Refute it at one input. -/
def pixelRowsWrong : ChangeSpec := { name := "pixelRows", fn := fun _ => fun
  | [d] => { results := [.lit (.bool false)], args := [d] }
  | _ => none }
def PixelRowsWrongFalsely : Prop := pixelRowsRow.holds Try.pinned (OpenSpec.ofChange pixelRowsWrong)

/-- 'vitrinelaw12.PixelBack': WHATEVER THE INPUT: true; the input reads as it did. -/
def pixelBackSpec : ChangeSpec := { name := "pixelBack", fn := fun _ => fun
  | [d] => { results := [.lit (.bool true)], args := [d] }
  | _ => none }
def pixelBackRow : OpenClaim := { program := "ytejljcglbkjgkaa", sum := "44a8dcd12cce50fbeeec0a4fe1ad15984e984135334586ec5069ca1df7526677", func := "vitrine/vitrinelaw12.PixelBack", spec := "pixelBack", unfollowed := true, recurses := true, apart := false }
def PixelBackSaid : Prop := pixelBackRow.holds Try.pinned (OpenSpec.ofChange pixelBackSpec)

/-- ITS FALSE NEIGHBOUR: 'it returns false'. Refute it at one input. -/
def pixelBackWrong : ChangeSpec := { name := "pixelBack", fn := fun _ => fun
  | [d] => { results := [.lit (.bool false)], args := [d] }
  | _ => none }
def PixelBackWrongFalsely : Prop := pixelBackRow.holds Try.pinned (OpenSpec.ofChange pixelBackWrong)

/-- 'vitrinelaw12.PixelSame': WHATEVER THE INPUT: true; the input reads as it did. -/
def pixelSameSpec : ChangeSpec := { name := "pixelSame", fn := fun _ => fun
  | [d1, d2, d3] => { results := [.lit (.bool true)], args := [d1, d2, d3] }
  | _ => none }
def pixelSameRow : OpenClaim := { program := "ytejljcglbkjgkaa", sum := "44a8dcd12cce50fbeeec0a4fe1ad15984e984135334586ec5069ca1df7526677", func := "vitrine/vitrinelaw12.PixelSame", spec := "pixelSame", unfollowed := true, recurses := true, apart := false }
def PixelSameSaid : Prop := pixelSameRow.holds Try.pinned (OpenSpec.ofChange pixelSameSpec)

/-- ITS FALSE NEIGHBOUR: 'it returns false'. Refute it at one input. -/
def pixelSameWrong : ChangeSpec := { name := "pixelSame", fn := fun _ => fun
  | [d1, d2, d3] => { results := [.lit (.bool false)], args := [d1, d2, d3] }
  | _ => none }
def PixelSameWrongFalsely : Prop := pixelSameRow.holds Try.pinned (OpenSpec.ofChange pixelSameWrong)

/- THE SECOND FORM. 'bulk': how many values and letters a reading holds, each counted each time it is reached (what is shared counts as often as it is met; a slice's spare places count too). A statement '..UptoSaid' is the law's where the arguments, and the package variables that the reading takes, are together of bulk at most 1048576: NARROWER than '..Said'. Prove '..Said' where nothing that the law and all that it calls make is longer than what came in: it says more and counts as full. Else prove '..UptoSaid'. A law counts once. -/
mutual
def uptoBulk {H : Type} : DataW H → Nat
  | .lit (.string bytes) => bytes.length + 1
  | .lit _ => 1
  | .nil => 1
  | .ptr d => uptoBulk d + 1
  | .slice elems spare => uptoBulkAll elems + uptoBulkAll spare + 1
  | .agg parts => uptoBulkAll parts + 1
  | .iface _ d => uptoBulk d + 1
  | .map entries => uptoBulkEntries entries + 1
  | .held _ => 1
def uptoBulkAll {H : Type} : List (DataW H) → Nat
  | [] => 0
  | d :: r => uptoBulk d + uptoBulkAll r
def uptoBulkEntries {H : Type} : List (Lit × DataW H) → Nat
  | [] => 0
  | x :: r => uptoBulkEntry x + uptoBulkEntries r
def uptoBulkEntry {H : Type} : Lit × DataW H → Nat
  | (.string bytes, d) => bytes.length + uptoBulk d + 1
  | (_, d) => uptoBulk d + 1
 end
def uptoSmall : (H : Type) → List (DataW H) → Bool := fun _ ds => decide (uptoBulkAll ds ≤ 1048576)
def OpenSpec.upto (s : _root_.Go.ChangeSpec) : _root_.Go.OpenSpec := { _root_.Go.OpenSpec.ofChange s with cond := some uptoSmall }

/-- 'vitrinelaw12.PixelChecks', WHERE WHAT IT READS IS OF BULK AT MOST 1048576: true; the input reads as it did. -/
def pixelChecksUptoRow : OpenClaim := { program := "ytejljcglbkjgkaa", sum := "44a8dcd12cce50fbeeec0a4fe1ad15984e984135334586ec5069ca1df7526677", func := "vitrine/vitrinelaw12.PixelChecks", spec := "pixelChecks", unfollowed := true, recurses := true, apart := false, narrowed := true }
def PixelChecksUptoSaid : Prop := pixelChecksUptoRow.holds Try.pinned (OpenSpec.upto pixelChecksSpec)

/-- 'vitrinelaw12.PixelImages', WHERE WHAT IT READS IS OF BULK AT MOST 1048576: true; the input reads as it did. -/
def pixelImagesUptoRow : OpenClaim := { program := "ytejljcglbkjgkaa", sum := "44a8dcd12cce50fbeeec0a4fe1ad15984e984135334586ec5069ca1df7526677", func := "vitrine/vitrinelaw12.PixelImages", spec := "pixelImages", unfollowed := true, recurses := true, apart := false, narrowed := true }
def PixelImagesUptoSaid : Prop := pixelImagesUptoRow.holds Try.pinned (OpenSpec.upto pixelImagesSpec)

/-- 'vitrinelaw12.PixelRows', WHERE WHAT IT READS IS OF BULK AT MOST 1048576: true; the input reads as it did. -/
def pixelRowsUptoRow : OpenClaim := { program := "ytejljcglbkjgkaa", sum := "44a8dcd12cce50fbeeec0a4fe1ad15984e984135334586ec5069ca1df7526677", func := "vitrine/vitrinelaw12.PixelRows", spec := "pixelRows", unfollowed := true, recurses := true, apart := false, narrowed := true }
def PixelRowsUptoSaid : Prop := pixelRowsUptoRow.holds Try.pinned (OpenSpec.upto pixelRowsSpec)

/-- 'vitrinelaw12.PixelBack', WHERE WHAT IT READS IS OF BULK AT MOST 1048576: true; the input reads as it did. -/
def pixelBackUptoRow : OpenClaim := { program := "ytejljcglbkjgkaa", sum := "44a8dcd12cce50fbeeec0a4fe1ad15984e984135334586ec5069ca1df7526677", func := "vitrine/vitrinelaw12.PixelBack", spec := "pixelBack", unfollowed := true, recurses := true, apart := false, narrowed := true }
def PixelBackUptoSaid : Prop := pixelBackUptoRow.holds Try.pinned (OpenSpec.upto pixelBackSpec)

/-- 'vitrinelaw12.PixelSame', WHERE WHAT IT READS IS OF BULK AT MOST 1048576: true; the input reads as it did. -/
def pixelSameUptoRow : OpenClaim := { program := "ytejljcglbkjgkaa", sum := "44a8dcd12cce50fbeeec0a4fe1ad15984e984135334586ec5069ca1df7526677", func := "vitrine/vitrinelaw12.PixelSame", spec := "pixelSame", unfollowed := true, recurses := true, apart := false, narrowed := true }
def PixelSameUptoSaid : Prop := pixelSameUptoRow.holds Try.pinned (OpenSpec.upto pixelSameSpec)

end Rows
end Go.Proofs.Ytejljcglbkjgkaa
