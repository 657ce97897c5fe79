/-
  No cell of these rows narrows 'for every input' (looked for: loops, veiled, ifaces, maps, wideKeys, modest, calm, conditions, laid).
  DERIVED. THE GIVEN ROWS OF THIS SEAT. 7 by the template 'for every input the law returns true; each argument reads behind the call as it read before'; 0 by the template 'total and deterministic' (their statements: YtlonbchidopcpaaTotals.lean).
  GIVEN WITH THE SEED: the statements are not yours to turn. If you find one false, say at which input.
  Laid BY PROGRAM, IN A SANDBOX (cutbox-rows.mjs): the forced cells as the released guide's own fill.sh prints them over the translation e39a4febdc982aef… (all of the seat's roots in one cut). By AI agents, Wed Nov 11 2026. No macro, syntax, notation, axiom, sorry.
-/
import Derived.Test.YtlonbchidopcpaaChecked
import GoSem.Claim
import GoSem.ClaimJoined
import GoSem.ClaimMapViews
import Derived.JoinedTies
import Derived.KernelRfl
namespace Go.Proofs.Ytlonbchidopcpaa
/- THE CELL 'sum', in the pinned program and in every row, IS THE sha256 OF THE DUMP (.gsa) THAT YtlonbchidopcpaaProg.lean LOADS. Nothing in Lean hashes anything: it is a label: what it is worth is what the hold of that sum in a sandbox is worth. -/
noncomputable def Try.pinned : Pinned := { name := "ytlonbchidopcpaa", sum := "e39a4febdc982aeff4bc0cc9958558160d509cc28a0821d8a13486357a8019ce", checked := Try.checked }
namespace Rows
def none {H : Type} : Left H := { results := [], args := [] }

/-- 'vitrinelaw10.LacePasses': WHATEVER THE INPUT: true; the input reads as it did. -/
def lacePassesSpec : ChangeSpec := { name := "lacePasses", fn := fun _ => fun
  | [d] => { results := [.lit (.bool true)], args := [d] }
  | _ => none }
def lacePassesRow : OpenClaim := { program := "ytlonbchidopcpaa", sum := "e39a4febdc982aeff4bc0cc9958558160d509cc28a0821d8a13486357a8019ce", func := "vitrine/vitrinelaw10.LacePasses", spec := "lacePasses", unfollowed := true, recurses := true, plainKeys := false, apart := false }
def LacePassesSaid : Prop := lacePassesRow.holds Try.pinned (OpenSpec.ofChange lacePassesSpec)

/-- ITS FALSE NEIGHBOUR: 'it returns false'. Refute it at one input. -/
def lacePassesWrong : ChangeSpec := { name := "lacePasses", fn := fun _ => fun
  | [d] => { results := [.lit (.bool false)], args := [d] }
  | _ => none }
def LacePassesWrongFalsely : Prop := lacePassesRow.holds Try.pinned (OpenSpec.ofChange lacePassesWrong)

/-- 'vitrinelaw10.LaceSizes': WHATEVER THE INPUT: true; the input reads as it did. -/
def laceSizesSpec : ChangeSpec := { name := "laceSizes", fn := fun _ => fun
  | [d1, d2] => { results := [.lit (.bool true)], args := [d1, d2] }
  | _ => none }
def laceSizesRow : OpenClaim := { program := "ytlonbchidopcpaa", sum := "e39a4febdc982aeff4bc0cc9958558160d509cc28a0821d8a13486357a8019ce", func := "vitrine/vitrinelaw10.LaceSizes", spec := "laceSizes", unfollowed := true, recurses := true, plainKeys := false, apart := false }
def LaceSizesSaid : Prop := laceSizesRow.holds Try.pinned (OpenSpec.ofChange laceSizesSpec)

/-- ITS FALSE NEIGHBOUR: 'it returns false'. Refute it at one input. -/
def laceSizesWrong : ChangeSpec := { name := "laceSizes", fn := fun _ => fun
  | [d1, d2] => { results := [.lit (.bool false)], args := [d1, d2] }
  | _ => none }
def LaceSizesWrongFalsely : Prop := laceSizesRow.holds Try.pinned (OpenSpec.ofChange laceSizesWrong)

/-- 'vitrinelaw10.LaceOnce': WHATEVER THE INPUT: true; the input reads as it did. -/
def laceOnceSpec : ChangeSpec := { name := "laceOnce", fn := fun _ => fun
  | [d] => { results := [.lit (.bool true)], args := [d] }
  | _ => none }
def laceOnceRow : OpenClaim := { program := "ytlonbchidopcpaa", sum := "e39a4febdc982aeff4bc0cc9958558160d509cc28a0821d8a13486357a8019ce", func := "vitrine/vitrinelaw10.LaceOnce", spec := "laceOnce", unfollowed := true, recurses := true, plainKeys := false, apart := false }
def LaceOnceSaid : Prop := laceOnceRow.holds Try.pinned (OpenSpec.ofChange laceOnceSpec)

/-- ITS FALSE NEIGHBOUR: 'it returns false'. Refute it at one input. -/
def laceOnceWrong : ChangeSpec := { name := "laceOnce", fn := fun _ => fun
  | [d] => { results := [.lit (.bool false)], args := [d] }
  | _ => none }
def LaceOnceWrongFalsely : Prop := laceOnceRow.holds Try.pinned (OpenSpec.ofChange laceOnceWrong)

/-- 'vitrinelaw10.LaceRows': WHATEVER THE INPUT: true; the input reads as it did. -/
def laceRowsSpec : ChangeSpec := { name := "laceRows", fn := fun _ => fun
  | [d1, d2] => { results := [.lit (.bool true)], args := [d1, d2] }
  | _ => none }
def laceRowsRow : OpenClaim := { program := "ytlonbchidopcpaa", sum := "e39a4febdc982aeff4bc0cc9958558160d509cc28a0821d8a13486357a8019ce", func := "vitrine/vitrinelaw10.LaceRows", spec := "laceRows", unfollowed := true, recurses := true, plainKeys := false, apart := false }
def LaceRowsSaid : Prop := laceRowsRow.holds Try.pinned (OpenSpec.ofChange laceRowsSpec)

/-- ITS FALSE NEIGHBOUR: 'it returns false'. Refute it at one input. -/
def laceRowsWrong : ChangeSpec := { name := "laceRows", fn := fun _ => fun
  | [d1, d2] => { results := [.lit (.bool false)], args := [d1, d2] }
  | _ => none }
def LaceRowsWrongFalsely : Prop := laceRowsRow.holds Try.pinned (OpenSpec.ofChange laceRowsWrong)

/-- 'vitrinelaw10.LaceRowIs': WHATEVER THE INPUT: true; the input reads as it did. -/
def laceRowIsSpec : ChangeSpec := { name := "laceRowIs", fn := fun _ => fun
  | [d1, d2] => { results := [.lit (.bool true)], args := [d1, d2] }
  | _ => none }
def laceRowIsRow : OpenClaim := { program := "ytlonbchidopcpaa", sum := "e39a4febdc982aeff4bc0cc9958558160d509cc28a0821d8a13486357a8019ce", func := "vitrine/vitrinelaw10.LaceRowIs", spec := "laceRowIs", unfollowed := true, recurses := true, plainKeys := false, apart := false }
def LaceRowIsSaid : Prop := laceRowIsRow.holds Try.pinned (OpenSpec.ofChange laceRowIsSpec)

/-- ITS FALSE NEIGHBOUR: 'it returns false'. Refute it at one input. -/
def laceRowIsWrong : ChangeSpec := { name := "laceRowIs", fn := fun _ => fun
  | [d1, d2] => { results := [.lit (.bool false)], args := [d1, d2] }
  | _ => none }
def LaceRowIsWrongFalsely : Prop := laceRowIsRow.holds Try.pinned (OpenSpec.ofChange laceRowIsWrong)

/-- 'vitrinelaw10.LaceSizeIs': WHATEVER THE INPUT: true; the input reads as it did. -/
def laceSizeIsSpec : ChangeSpec := { name := "laceSizeIs", fn := fun _ => fun
  | [d] => { results := [.lit (.bool true)], args := [d] }
  | _ => none }
def laceSizeIsRow : OpenClaim := { program := "ytlonbchidopcpaa", sum := "e39a4febdc982aeff4bc0cc9958558160d509cc28a0821d8a13486357a8019ce", func := "vitrine/vitrinelaw10.LaceSizeIs", spec := "laceSizeIs", unfollowed := true, recurses := true, plainKeys := false, apart := false }
def LaceSizeIsSaid : Prop := laceSizeIsRow.holds Try.pinned (OpenSpec.ofChange laceSizeIsSpec)

/-- ITS FALSE NEIGHBOUR: 'it returns false'. Refute it at one input. -/
def laceSizeIsWrong : ChangeSpec := { name := "laceSizeIs", fn := fun _ => fun
  | [d] => { results := [.lit (.bool false)], args := [d] }
  | _ => none }
def LaceSizeIsWrongFalsely : Prop := laceSizeIsRow.holds Try.pinned (OpenSpec.ofChange laceSizeIsWrong)

/-- 'vitrinelaw10.LacePlain': WHATEVER THE INPUT: true; the input reads as it did. -/
def lacePlainSpec : ChangeSpec := { name := "lacePlain", fn := fun _ => fun
  | [d] => { results := [.lit (.bool true)], args := [d] }
  | _ => none }
def lacePlainRow : OpenClaim := { program := "ytlonbchidopcpaa", sum := "e39a4febdc982aeff4bc0cc9958558160d509cc28a0821d8a13486357a8019ce", func := "vitrine/vitrinelaw10.LacePlain", spec := "lacePlain", unfollowed := true, recurses := true, plainKeys := false, apart := false }
def LacePlainSaid : Prop := lacePlainRow.holds Try.pinned (OpenSpec.ofChange lacePlainSpec)

/-- ITS FALSE NEIGHBOUR: 'it returns false'. Refute it at one input. -/
def lacePlainWrong : ChangeSpec := { name := "lacePlain", fn := fun _ => fun
  | [d] => { results := [.lit (.bool false)], args := [d] }
  | _ => none }
def LacePlainWrongFalsely : Prop := lacePlainRow.holds Try.pinned (OpenSpec.ofChange lacePlainWrong)

/- THE SECOND FORM. 'bulk': how many values and letters a reading holds, each counted each time it is reached (what is shared counts as often as it is met; a slice's spare places count too). A statement '..UptoSaid' is the law's where the arguments, and the package variables that the reading takes, are together of bulk at most 1048576: NARROWER than '..Said'. Prove '..Said' where nothing that the law and all that it calls make is longer than what came in: it says more and counts as full. Else prove '..UptoSaid'. A law counts once. -/
mutual
def uptoBulk {H : Type} : DataW H → Nat
  | .lit (.string bytes) => bytes.length + 1
  | .lit _ => 1
  | .nil => 1
  | .ptr d => uptoBulk d + 1
  | .slice elems spare => uptoBulkAll elems + uptoBulkAll spare + 1
  | .agg parts => uptoBulkAll parts + 1
  | .iface _ d => uptoBulk d + 1
  | .map entries => uptoBulkEntries entries + 1
  | .held _ => 1
def uptoBulkAll {H : Type} : List (DataW H) → Nat
  | [] => 0
  | d :: r => uptoBulk d + uptoBulkAll r
def uptoBulkEntries {H : Type} : List (Lit × DataW H) → Nat
  | [] => 0
  | x :: r => uptoBulkEntry x + uptoBulkEntries r
def uptoBulkEntry {H : Type} : Lit × DataW H → Nat
  | (.string bytes, d) => bytes.length + uptoBulk d + 1
  | (_, d) => uptoBulk d + 1
 end
def uptoSmall : (H : Type) → List (DataW H) → Bool := fun _ ds => decide (uptoBulkAll ds ≤ 1048576)
def OpenSpec.upto (s : _root_.Go.ChangeSpec) : _root_.Go.OpenSpec := { _root_.Go.OpenSpec.ofChange s with cond := some uptoSmall }

/-- 'vitrinelaw10.LacePasses', WHERE WHAT IT READS IS OF BULK AT MOST 1048576: true; the input reads as it did. -/
def lacePassesUptoRow : OpenClaim := { program := "ytlonbchidopcpaa", sum := "e39a4febdc982aeff4bc0cc9958558160d509cc28a0821d8a13486357a8019ce", func := "vitrine/vitrinelaw10.LacePasses", spec := "lacePasses", unfollowed := true, recurses := true, plainKeys := false, apart := false, narrowed := true }
def LacePassesUptoSaid : Prop := lacePassesUptoRow.holds Try.pinned (OpenSpec.upto lacePassesSpec)

/-- 'vitrinelaw10.LaceSizes', WHERE WHAT IT READS IS OF BULK AT MOST 1048576: true; the input reads as it did. -/
def laceSizesUptoRow : OpenClaim := { program := "ytlonbchidopcpaa", sum := "e39a4febdc982aeff4bc0cc9958558160d509cc28a0821d8a13486357a8019ce", func := "vitrine/vitrinelaw10.LaceSizes", spec := "laceSizes", unfollowed := true, recurses := true, plainKeys := false, apart := false, narrowed := true }
def LaceSizesUptoSaid : Prop := laceSizesUptoRow.holds Try.pinned (OpenSpec.upto laceSizesSpec)

/-- 'vitrinelaw10.LaceOnce', WHERE WHAT IT READS IS OF BULK AT MOST 1048576: true; the input reads as it did. -/
def laceOnceUptoRow : OpenClaim := { program := "ytlonbchidopcpaa", sum := "e39a4febdc982aeff4bc0cc9958558160d509cc28a0821d8a13486357a8019ce", func := "vitrine/vitrinelaw10.LaceOnce", spec := "laceOnce", unfollowed := true, recurses := true, plainKeys := false, apart := false, narrowed := true }
def LaceOnceUptoSaid : Prop := laceOnceUptoRow.holds Try.pinned (OpenSpec.upto laceOnceSpec)

/-- 'vitrinelaw10.LaceRows', WHERE WHAT IT READS IS OF BULK AT MOST 1048576: true; the input reads as it did. -/
def laceRowsUptoRow : OpenClaim := { program := "ytlonbchidopcpaa", sum := "e39a4febdc982aeff4bc0cc9958558160d509cc28a0821d8a13486357a8019ce", func := "vitrine/vitrinelaw10.LaceRows", spec := "laceRows", unfollowed := true, recurses := true, plainKeys := false, apart := false, narrowed := true }
def LaceRowsUptoSaid : Prop := laceRowsUptoRow.holds Try.pinned (OpenSpec.upto laceRowsSpec)

/-- 'vitrinelaw10.LaceRowIs', WHERE WHAT IT READS IS OF BULK AT MOST 1048576: true; the input reads as it did. -/
def laceRowIsUptoRow : OpenClaim := { program := "ytlonbchidopcpaa", sum := "e39a4febdc982aeff4bc0cc9958558160d509cc28a0821d8a13486357a8019ce", func := "vitrine/vitrinelaw10.LaceRowIs", spec := "laceRowIs", unfollowed := true, recurses := true, plainKeys := false, apart := false, narrowed := true }
def LaceRowIsUptoSaid : Prop := laceRowIsUptoRow.holds Try.pinned (OpenSpec.upto laceRowIsSpec)

/-- 'vitrinelaw10.LaceSizeIs', WHERE WHAT IT READS IS OF BULK AT MOST 1048576: true; the input reads as it did. -/
def laceSizeIsUptoRow : OpenClaim := { program := "ytlonbchidopcpaa", sum := "e39a4febdc982aeff4bc0cc9958558160d509cc28a0821d8a13486357a8019ce", func := "vitrine/vitrinelaw10.LaceSizeIs", spec := "laceSizeIs", unfollowed := true, recurses := true, plainKeys := false, apart := false, narrowed := true }
def LaceSizeIsUptoSaid : Prop := laceSizeIsUptoRow.holds Try.pinned (OpenSpec.upto laceSizeIsSpec)

/-- 'vitrinelaw10.LacePlain', WHERE WHAT IT READS IS OF BULK AT MOST 1048576: true; the input reads as it did. -/
def lacePlainUptoRow : OpenClaim := { program := "ytlonbchidopcpaa", sum := "e39a4febdc982aeff4bc0cc9958558160d509cc28a0821d8a13486357a8019ce", func := "vitrine/vitrinelaw10.LacePlain", spec := "lacePlain", unfollowed := true, recurses := true, plainKeys := false, apart := false, narrowed := true }
def LacePlainUptoSaid : Prop := lacePlainUptoRow.holds Try.pinned (OpenSpec.upto lacePlainSpec)

end Rows
end Go.Proofs.Ytlonbchidopcpaa
