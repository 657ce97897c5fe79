/- Words that make the printed texts of this claim shorter. No conditions. -/
import Derived.Test.YtejljcglbkjgkaaProg
import Derived.Below
import Derived.Deep.Draws
import Derived.Deep.AppendLies
import Derived.Maps.AppendAt
import Derived.OwnWalk
import Derived.Laws.BytesArg
import Derived.Laws.MakeOwn
import Derived.Laws.OwnMore
import Derived.Deep.OwnRows
import Derived.Tactics
import Derived.Lib.ConvBytes
import Derived.Laws.Slices
import Derived.WalkKit
import Derived.KernelRfl
import Derived.RowKit3
import Derived.Deep.LoopGhost
import Derived.Deep.QuietTactic
import Derived.BigQuiet
import Derived.WideLaws
import Derived.Deep.DeepCutAuto
import Derived.Deep.CutBlock
import Derived.Deep.RegionHeld3
import Derived.Laws.Rows
import Derived.Lib.AppendStr
import Derived.ArgAppend
import Derived.Laws.IdiomCopy
import Derived.OrdersHeld
import Derived.Laws.BitsLemmas
import Derived.RowKit
import Derived.Test.YtejljcglbkjgkaaZWWords
import Derived.Test.YtejljcglbkjgkaaZWLast
import Derived.Test.YtejljcglbkjgkaaZWTab
import Derived.Test.YtejljcglbkjgkaaZWFour
import Derived.Test.YtejljcglbkjgkaaZWQPut
import Derived.Test.YtejljcglbkjgkaaZWApart
import Derived.Test.YtejljcglbkjgkaaZWArr
import Derived.Test.YtejljcglbkjgkaaZWZeros
import Derived.Test.YtejljcglbkjgkaaZWFoot
import Derived.Test.YtejljcglbkjgkaaZWKept
import Derived.Test.YtejljcglbkjgkaaZWShare
import Derived.Test.YtejljcglbkjgkaaZWN
import Derived.Test.YtejljcglbkjgkaaZWFootNe
import Derived.Test.YtejljcglbkjgkaaZWAt
import Derived.Test.YtejljcglbkjgkaaZWEqStruct
import Derived.Test.YtejljcglbkjgkaaZWRepsOne
import Derived.Test.YtejljcglbkjgkaaZWInv
import Derived.Test.YtejljcglbkjgkaaZWInvWords
import Derived.Test.YtejljcglbkjgkaaZWGuard
import Derived.Test.YtejljcglbkjgkaaZWNEv
import Derived.Test.YtejljcglbkjgkaaZWMore
namespace Go.Proofs.Ytejljcglbkjgkaa.PL12
open Go.RowKit Go.Proofs.YtejljcglbkjgkaaW.PrintWords Go.Proofs.YtejljcglbkjgkaaW.PrintLast Go.Proofs.YtejljcglbkjgkaaW.PrintMore
set_option linter.unusedVariables false
theorem zq1 {α : Type} {i : Nat} {a : α} {l : List α} : l.toArray.setIfInBounds i a = (l.set i a).toArray := List.setIfInBounds_toArray ..
theorem zq2 {α : Type} {x a : α} {l : List α} : (x :: l).set 0 a = a :: l := rfl
theorem zq3 {α : Type} {x a : α} {l : List α} {n : Nat} : (x :: l).set (n + 1) a = x :: l.set n a := rfl
/-- The bits of a number. -/
def bm (n k : Nat) : Array Bool := ((List.range n).map fun i => k.testBit i).toArray
theorem zp {P : Program} {ops : Array Oper} {S : World → Prop} {Q : Exit → Act → World → Prop} {ds : List Nat} {md : Region.Mode} {i : Nat} {N : Tmp} {oi : Oper} {v : Value} {fuel : Nat} {l : Array Bool} {a : Act} {w : World} (l' : Array Bool) (hi : ops[i]? = some oi) (hN : oi.dst = some N) (hc : anyB md ops l l' i = true)
    (hQ : ∀ c a w, Q (.panic c) (a.put oi.dst v) w → Q (.panic c) a w) (hy : Yields P ops oi v a) {a' : Act} (ha : a.put (some N) v = a')
    (h : wpAnyLast P md ops Q S ds fuel l' a' w) : wpAnyLast P md ops Q S ds (fuel + 1) l a w := pure_ l' hi hN hc hQ hy ha h
end Go.Proofs.Ytejljcglbkjgkaa.PL12
