/-
  No cell of these rows narrows 'for every input' (looked for: loops, veiled, ifaces, maps, wideKeys, modest, calm, conditions, laid).
  DERIVED. THE GIVEN ROWS OF THIS SEAT. 8 by the template 'for every input the law returns true; each argument reads behind the call as it read before'; 0 by the template 'total and deterministic' (their statements: YtpccfanjdbenlaaTotals.lean).
  GIVEN WITH THE SEED: the statements are not yours to turn. If you find one false, say at which input.
  Laid BY PROGRAM, IN A SANDBOX (cutbox-rows.mjs): the forced cells as the released guide's own fill.sh prints them over the translation a57291cfc94f4723… (all of the seat's roots in one cut). By AI agents, Wed Nov 11 2026. No macro, syntax, notation, axiom, sorry.
-/
import Derived.Test.YtpccfanjdbenlaaChecked
import GoSem.Claim
import GoSem.ClaimJoined
import GoSem.ClaimMapViews
import Derived.JoinedTies
import Derived.KernelRfl
namespace Go.Proofs.Ytpccfanjdbenlaa
/- THE CELL 'sum', in the pinned program and in every row, IS THE sha256 OF THE DUMP (.gsa) THAT YtpccfanjdbenlaaProg.lean LOADS. Nothing in Lean hashes anything: it is a label: what it is worth is what the hold of that sum in a sandbox is worth. -/
noncomputable def Try.pinned : Pinned := { name := "ytpccfanjdbenlaa", sum := "a57291cfc94f4723237a31ed6ad9cb73f3aa04cbf9026b8fa18713e22993f6be", checked := Try.checked }
namespace Rows
def none {H : Type} : Left H := { results := [], args := [] }

/-- 'vitrinelaw11.SamplesUnpacks': WHATEVER THE INPUT: true; the input reads as it did. -/
def samplesUnpacksSpec : ChangeSpec := { name := "samplesUnpacks", fn := fun _ => fun
  | [d1, d2, d3] => { results := [.lit (.bool true)], args := [d1, d2, d3] }
  | _ => none }
def samplesUnpacksRow : OpenClaim := { program := "ytpccfanjdbenlaa", sum := "a57291cfc94f4723237a31ed6ad9cb73f3aa04cbf9026b8fa18713e22993f6be", func := "vitrine/vitrinelaw11.SamplesUnpacks", spec := "samplesUnpacks", unfollowed := true, recurses := true, apart := false }
def SamplesUnpacksSaid : Prop := samplesUnpacksRow.holds Try.pinned (OpenSpec.ofChange samplesUnpacksSpec)

/-- ITS FALSE NEIGHBOUR: 'it returns false'. Refute it at one input. -/
def samplesUnpacksWrong : ChangeSpec := { name := "samplesUnpacks", fn := fun _ => fun
  | [d1, d2, d3] => { results := [.lit (.bool false)], args := [d1, d2, d3] }
  | _ => none }
def SamplesUnpacksWrongFalsely : Prop := samplesUnpacksRow.holds Try.pinned (OpenSpec.ofChange samplesUnpacksWrong)

/-- 'vitrinelaw11.SamplesPacks': WHATEVER THE INPUT: true; the input reads as it did. -/
def samplesPacksSpec : ChangeSpec := { name := "samplesPacks", fn := fun _ => fun
  | [d1, d2] => { results := [.lit (.bool true)], args := [d1, d2] }
  | _ => none }
def samplesPacksRow : OpenClaim := { program := "ytpccfanjdbenlaa", sum := "a57291cfc94f4723237a31ed6ad9cb73f3aa04cbf9026b8fa18713e22993f6be", func := "vitrine/vitrinelaw11.SamplesPacks", spec := "samplesPacks", unfollowed := true, recurses := true, apart := false }
def SamplesPacksSaid : Prop := samplesPacksRow.holds Try.pinned (OpenSpec.ofChange samplesPacksSpec)

/-- ITS FALSE NEIGHBOUR: 'it returns false'. Refute it at one input. -/
def samplesPacksWrong : ChangeSpec := { name := "samplesPacks", fn := fun _ => fun
  | [d1, d2] => { results := [.lit (.bool false)], args := [d1, d2] }
  | _ => none }
def SamplesPacksWrongFalsely : Prop := samplesPacksRow.holds Try.pinned (OpenSpec.ofChange samplesPacksWrong)

/-- 'vitrinelaw11.SamplesWidens': WHATEVER THE INPUT: true; the input reads as it did. -/
def samplesWidensSpec : ChangeSpec := { name := "samplesWidens", fn := fun _ => fun
  | [d1, d2] => { results := [.lit (.bool true)], args := [d1, d2] }
  | _ => none }
def samplesWidensRow : OpenClaim := { program := "ytpccfanjdbenlaa", sum := "a57291cfc94f4723237a31ed6ad9cb73f3aa04cbf9026b8fa18713e22993f6be", func := "vitrine/vitrinelaw11.SamplesWidens", spec := "samplesWidens", unfollowed := true, recurses := true, apart := false }
def SamplesWidensSaid : Prop := samplesWidensRow.holds Try.pinned (OpenSpec.ofChange samplesWidensSpec)

/-- ITS FALSE NEIGHBOUR: 'it returns false'. Refute it at one input. -/
def samplesWidensWrong : ChangeSpec := { name := "samplesWidens", fn := fun _ => fun
  | [d1, d2] => { results := [.lit (.bool false)], args := [d1, d2] }
  | _ => none }
def SamplesWidensWrongFalsely : Prop := samplesWidensRow.holds Try.pinned (OpenSpec.ofChange samplesWidensWrong)

/-- 'vitrinelaw11.SamplesPixels': WHATEVER THE INPUT: true; the input reads as it did. -/
def samplesPixelsSpec : ChangeSpec := { name := "samplesPixels", fn := fun _ => fun
  | [d1, d2] => { results := [.lit (.bool true)], args := [d1, d2] }
  | _ => none }
def samplesPixelsRow : OpenClaim := { program := "ytpccfanjdbenlaa", sum := "a57291cfc94f4723237a31ed6ad9cb73f3aa04cbf9026b8fa18713e22993f6be", func := "vitrine/vitrinelaw11.SamplesPixels", spec := "samplesPixels", unfollowed := true, recurses := true, apart := false }
def SamplesPixelsSaid : Prop := samplesPixelsRow.holds Try.pinned (OpenSpec.ofChange samplesPixelsSpec)

/-- ITS FALSE NEIGHBOUR: 'it returns false'. Refute it at one input. -/
def samplesPixelsWrong : ChangeSpec := { name := "samplesPixels", fn := fun _ => fun
  | [d1, d2] => { results := [.lit (.bool false)], args := [d1, d2] }
  | _ => none }
def SamplesPixelsWrongFalsely : Prop := samplesPixelsRow.holds Try.pinned (OpenSpec.ofChange samplesPixelsWrong)

/-- 'vitrinelaw11.SamplesBack': WHATEVER THE INPUT: true; the input reads as it did. -/
def samplesBackSpec : ChangeSpec := { name := "samplesBack", fn := fun _ => fun
  | [d1, d2] => { results := [.lit (.bool true)], args := [d1, d2] }
  | _ => none }
def samplesBackRow : OpenClaim := { program := "ytpccfanjdbenlaa", sum := "a57291cfc94f4723237a31ed6ad9cb73f3aa04cbf9026b8fa18713e22993f6be", func := "vitrine/vitrinelaw11.SamplesBack", spec := "samplesBack", unfollowed := true, recurses := true, apart := false }
def SamplesBackSaid : Prop := samplesBackRow.holds Try.pinned (OpenSpec.ofChange samplesBackSpec)

/-- ITS FALSE NEIGHBOUR: 'it returns false'. Refute it at one input. -/
def samplesBackWrong : ChangeSpec := { name := "samplesBack", fn := fun _ => fun
  | [d1, d2] => { results := [.lit (.bool false)], args := [d1, d2] }
  | _ => none }
def SamplesBackWrongFalsely : Prop := samplesBackRow.holds Try.pinned (OpenSpec.ofChange samplesBackWrong)

/-- 'vitrinelaw11.SamplesApart': WHATEVER THE INPUT: true; the input reads as it did. -/
def samplesApartSpec : ChangeSpec := { name := "samplesApart", fn := fun _ => fun
  | [d1, d2] => { results := [.lit (.bool true)], args := [d1, d2] }
  | _ => none }
def samplesApartRow : OpenClaim := { program := "ytpccfanjdbenlaa", sum := "a57291cfc94f4723237a31ed6ad9cb73f3aa04cbf9026b8fa18713e22993f6be", func := "vitrine/vitrinelaw11.SamplesApart", spec := "samplesApart", unfollowed := true, recurses := true, apart := false }
def SamplesApartSaid : Prop := samplesApartRow.holds Try.pinned (OpenSpec.ofChange samplesApartSpec)

/-- ITS FALSE NEIGHBOUR: 'it returns false'. Refute it at one input. -/
def samplesApartWrong : ChangeSpec := { name := "samplesApart", fn := fun _ => fun
  | [d1, d2] => { results := [.lit (.bool false)], args := [d1, d2] }
  | _ => none }
def SamplesApartWrongFalsely : Prop := samplesApartRow.holds Try.pinned (OpenSpec.ofChange samplesApartWrong)

/-- 'vitrinelaw11.SamplesClear': WHATEVER THE INPUT: true; the input reads as it did. -/
def samplesClearSpec : ChangeSpec := { name := "samplesClear", fn := fun _ => fun
  | [d1, d2] => { results := [.lit (.bool true)], args := [d1, d2] }
  | _ => none }
def samplesClearRow : OpenClaim := { program := "ytpccfanjdbenlaa", sum := "a57291cfc94f4723237a31ed6ad9cb73f3aa04cbf9026b8fa18713e22993f6be", func := "vitrine/vitrinelaw11.SamplesClear", spec := "samplesClear", unfollowed := true, recurses := true, apart := false }
def SamplesClearSaid : Prop := samplesClearRow.holds Try.pinned (OpenSpec.ofChange samplesClearSpec)

/-- ITS FALSE NEIGHBOUR: 'it returns false'. Refute it at one input. -/
def samplesClearWrong : ChangeSpec := { name := "samplesClear", fn := fun _ => fun
  | [d1, d2] => { results := [.lit (.bool false)], args := [d1, d2] }
  | _ => none }
def SamplesClearWrongFalsely : Prop := samplesClearRow.holds Try.pinned (OpenSpec.ofChange samplesClearWrong)

/-- 'vitrinelaw11.SamplesRow': WHATEVER THE INPUT: true; the input reads as it did. -/
def samplesRowSpec : ChangeSpec := { name := "samplesRow", fn := fun _ => fun
  | [d1, d2] => { results := [.lit (.bool true)], args := [d1, d2] }
  | _ => none }
def samplesRowRow : OpenClaim := { program := "ytpccfanjdbenlaa", sum := "a57291cfc94f4723237a31ed6ad9cb73f3aa04cbf9026b8fa18713e22993f6be", func := "vitrine/vitrinelaw11.SamplesRow", spec := "samplesRow", unfollowed := true, recurses := true, apart := false }
def SamplesRowSaid : Prop := samplesRowRow.holds Try.pinned (OpenSpec.ofChange samplesRowSpec)

/-- ITS FALSE NEIGHBOUR: 'it returns false'. Refute it at one input. -/
def samplesRowWrong : ChangeSpec := { name := "samplesRow", fn := fun _ => fun
  | [d1, d2] => { results := [.lit (.bool false)], args := [d1, d2] }
  | _ => none }
def SamplesRowWrongFalsely : Prop := samplesRowRow.holds Try.pinned (OpenSpec.ofChange samplesRowWrong)

/- THE SECOND FORM. 'bulk': how many values and letters a reading holds, each counted each time it is reached (what is shared counts as often as it is met; a slice's spare places count too). A statement '..UptoSaid' is the law's where the arguments, and the package variables that the reading takes, are together of bulk at most 1048576: NARROWER than '..Said'. Prove '..Said' where nothing that the law and all that it calls make is longer than what came in: it says more and counts as full. Else prove '..UptoSaid'. A law counts once. -/
mutual
def uptoBulk {H : Type} : DataW H → Nat
  | .lit (.string bytes) => bytes.length + 1
  | .lit _ => 1
  | .nil => 1
  | .ptr d => uptoBulk d + 1
  | .slice elems spare => uptoBulkAll elems + uptoBulkAll spare + 1
  | .agg parts => uptoBulkAll parts + 1
  | .iface _ d => uptoBulk d + 1
  | .map entries => uptoBulkEntries entries + 1
  | .held _ => 1
def uptoBulkAll {H : Type} : List (DataW H) → Nat
  | [] => 0
  | d :: r => uptoBulk d + uptoBulkAll r
def uptoBulkEntries {H : Type} : List (Lit × DataW H) → Nat
  | [] => 0
  | x :: r => uptoBulkEntry x + uptoBulkEntries r
def uptoBulkEntry {H : Type} : Lit × DataW H → Nat
  | (.string bytes, d) => bytes.length + uptoBulk d + 1
  | (_, d) => uptoBulk d + 1
 end
def uptoSmall : (H : Type) → List (DataW H) → Bool := fun _ ds => decide (uptoBulkAll ds ≤ 1048576)
def OpenSpec.upto (s : _root_.Go.ChangeSpec) : _root_.Go.OpenSpec := { _root_.Go.OpenSpec.ofChange s with cond := some uptoSmall }

/-- 'vitrinelaw11.SamplesUnpacks', WHERE WHAT IT READS IS OF BULK AT MOST 1048576: true; the input reads as it did. -/
def samplesUnpacksUptoRow : OpenClaim := { program := "ytpccfanjdbenlaa", sum := "a57291cfc94f4723237a31ed6ad9cb73f3aa04cbf9026b8fa18713e22993f6be", func := "vitrine/vitrinelaw11.SamplesUnpacks", spec := "samplesUnpacks", unfollowed := true, recurses := true, apart := false, narrowed := true }
def SamplesUnpacksUptoSaid : Prop := samplesUnpacksUptoRow.holds Try.pinned (OpenSpec.upto samplesUnpacksSpec)

/-- 'vitrinelaw11.SamplesPacks', WHERE WHAT IT READS IS OF BULK AT MOST 1048576: true; the input reads as it did. -/
def samplesPacksUptoRow : OpenClaim := { program := "ytpccfanjdbenlaa", sum := "a57291cfc94f4723237a31ed6ad9cb73f3aa04cbf9026b8fa18713e22993f6be", func := "vitrine/vitrinelaw11.SamplesPacks", spec := "samplesPacks", unfollowed := true, recurses := true, apart := false, narrowed := true }
def SamplesPacksUptoSaid : Prop := samplesPacksUptoRow.holds Try.pinned (OpenSpec.upto samplesPacksSpec)

/-- 'vitrinelaw11.SamplesWidens', WHERE WHAT IT READS IS OF BULK AT MOST 1048576: true; the input reads as it did. -/
def samplesWidensUptoRow : OpenClaim := { program := "ytpccfanjdbenlaa", sum := "a57291cfc94f4723237a31ed6ad9cb73f3aa04cbf9026b8fa18713e22993f6be", func := "vitrine/vitrinelaw11.SamplesWidens", spec := "samplesWidens", unfollowed := true, recurses := true, apart := false, narrowed := true }
def SamplesWidensUptoSaid : Prop := samplesWidensUptoRow.holds Try.pinned (OpenSpec.upto samplesWidensSpec)

/-- 'vitrinelaw11.SamplesPixels', WHERE WHAT IT READS IS OF BULK AT MOST 1048576: true; the input reads as it did. -/
def samplesPixelsUptoRow : OpenClaim := { program := "ytpccfanjdbenlaa", sum := "a57291cfc94f4723237a31ed6ad9cb73f3aa04cbf9026b8fa18713e22993f6be", func := "vitrine/vitrinelaw11.SamplesPixels", spec := "samplesPixels", unfollowed := true, recurses := true, apart := false, narrowed := true }
def SamplesPixelsUptoSaid : Prop := samplesPixelsUptoRow.holds Try.pinned (OpenSpec.upto samplesPixelsSpec)

/-- 'vitrinelaw11.SamplesBack', WHERE WHAT IT READS IS OF BULK AT MOST 1048576: true; the input reads as it did. -/
def samplesBackUptoRow : OpenClaim := { program := "ytpccfanjdbenlaa", sum := "a57291cfc94f4723237a31ed6ad9cb73f3aa04cbf9026b8fa18713e22993f6be", func := "vitrine/vitrinelaw11.SamplesBack", spec := "samplesBack", unfollowed := true, recurses := true, apart := false, narrowed := true }
def SamplesBackUptoSaid : Prop := samplesBackUptoRow.holds Try.pinned (OpenSpec.upto samplesBackSpec)

/-- 'vitrinelaw11.SamplesApart', WHERE WHAT IT READS IS OF BULK AT MOST 1048576: true; the input reads as it did. -/
def samplesApartUptoRow : OpenClaim := { program := "ytpccfanjdbenlaa", sum := "a57291cfc94f4723237a31ed6ad9cb73f3aa04cbf9026b8fa18713e22993f6be", func := "vitrine/vitrinelaw11.SamplesApart", spec := "samplesApart", unfollowed := true, recurses := true, apart := false, narrowed := true }
def SamplesApartUptoSaid : Prop := samplesApartUptoRow.holds Try.pinned (OpenSpec.upto samplesApartSpec)

/-- 'vitrinelaw11.SamplesClear', WHERE WHAT IT READS IS OF BULK AT MOST 1048576: true; the input reads as it did. -/
def samplesClearUptoRow : OpenClaim := { program := "ytpccfanjdbenlaa", sum := "a57291cfc94f4723237a31ed6ad9cb73f3aa04cbf9026b8fa18713e22993f6be", func := "vitrine/vitrinelaw11.SamplesClear", spec := "samplesClear", unfollowed := true, recurses := true, apart := false, narrowed := true }
def SamplesClearUptoSaid : Prop := samplesClearUptoRow.holds Try.pinned (OpenSpec.upto samplesClearSpec)

/-- 'vitrinelaw11.SamplesRow', WHERE WHAT IT READS IS OF BULK AT MOST 1048576: true; the input reads as it did. -/
def samplesRowUptoRow : OpenClaim := { program := "ytpccfanjdbenlaa", sum := "a57291cfc94f4723237a31ed6ad9cb73f3aa04cbf9026b8fa18713e22993f6be", func := "vitrine/vitrinelaw11.SamplesRow", spec := "samplesRow", unfollowed := true, recurses := true, apart := false, narrowed := true }
def SamplesRowUptoSaid : Prop := samplesRowUptoRow.holds Try.pinned (OpenSpec.upto samplesRowSpec)

end Rows
end Go.Proofs.Ytpccfanjdbenlaa
