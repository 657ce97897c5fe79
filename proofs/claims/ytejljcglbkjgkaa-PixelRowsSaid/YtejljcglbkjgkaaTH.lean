/- Words that make the printed texts of this claim shorter. No conditions. -/
import Derived.Test.YtejljcglbkjgkaaProg
import Derived.Below
import Derived.Deep.Draws
import Derived.Deep.AppendLies
import Derived.Maps.AppendAt
import Derived.OwnWalk
import Derived.Laws.BytesArg
import Derived.Laws.MakeOwn
import Derived.Laws.OwnMore
import Derived.Deep.OwnRows
import Derived.Tactics
import Derived.Lib.ConvBytes
import Derived.Laws.Slices
import Derived.WalkKit
import Derived.KernelRfl
import Derived.RowKit3
import Derived.Deep.LoopGhost
import Derived.Deep.QuietTactic
import Derived.BigQuiet
import Derived.WideLaws
import Derived.Deep.DeepCutAuto
import Derived.Deep.CutBlock
import Derived.Deep.RegionHeld3
import Derived.Laws.Rows
import Derived.Lib.AppendStr
import Derived.ArgAppend
import Derived.Laws.IdiomCopy
import Derived.OrdersHeld
import Derived.Laws.BitsLemmas
import Derived.RowKit
import Derived.Test.YtejljcglbkjgkaaTWWords
import Derived.Test.YtejljcglbkjgkaaTWLast
import Derived.Test.YtejljcglbkjgkaaTWTab
import Derived.Test.YtejljcglbkjgkaaTWFour
import Derived.Test.YtejljcglbkjgkaaTWQPut
import Derived.Test.YtejljcglbkjgkaaTWApart
import Derived.Test.YtejljcglbkjgkaaTWArr
import Derived.Test.YtejljcglbkjgkaaTWZeros
import Derived.Test.YtejljcglbkjgkaaTWFoot
import Derived.Test.YtejljcglbkjgkaaTWKept
import Derived.Test.YtejljcglbkjgkaaTWShare
import Derived.Test.YtejljcglbkjgkaaTWN
import Derived.Test.YtejljcglbkjgkaaTWFootNe
import Derived.Test.YtejljcglbkjgkaaTWAt
import Derived.Test.YtejljcglbkjgkaaTWEqStruct
import Derived.Test.YtejljcglbkjgkaaTWRepsOne
import Derived.Test.YtejljcglbkjgkaaTWInv
import Derived.Test.YtejljcglbkjgkaaTWInvWords
import Derived.Test.YtejljcglbkjgkaaTWGuard
import Derived.Test.YtejljcglbkjgkaaTWNEv
import Derived.Test.YtejljcglbkjgkaaTWMore
namespace Go.Proofs.Ytejljcglbkjgkaa.PL12
open Go.RowKit Go.Proofs.YtejljcglbkjgkaaW.PrintWords Go.Proofs.YtejljcglbkjgkaaW.PrintLast Go.Proofs.YtejljcglbkjgkaaW.PrintMore
set_option linter.unusedVariables false
theorem zq1 {α : Type} {i : Nat} {a : α} {l : List α} : l.toArray.setIfInBounds i a = (l.set i a).toArray := List.setIfInBounds_toArray ..
theorem zq2 {α : Type} {x a : α} {l : List α} : (x :: l).set 0 a = a :: l := rfl
theorem zq3 {α : Type} {x a : α} {l : List α} {n : Nat} : (x :: l).set (n + 1) a = x :: l.set n a := rfl
/-- The bits of a number. -/
def bm (n k : Nat) : Array Bool := ((List.range n).map fun i => k.testBit i).toArray
theorem zp {P : Program} {ops : Array Oper} {S : World → Prop} {Q : Exit → Act → World → Prop} {ds : List Nat} {md : Region.Mode} (i : Nat) (N : Tmp) {oi : Oper} {v : Value} {fuel : Nat} {l : Array Bool} {a : Act} {w : World} (l' : Array Bool) {T : Bool × List (List Nat × List Nat)} (HT : Aside0 (rtab md ops = T)) (hk : anyT T l.toList l'.toList i = true) (hi : ops[i]? = some oi) (hN : oi.dst = some N)
    (hQ : ∀ c a w, Q (.panic c) (a.put oi.dst v) w → Q (.panic c) a w) (hg : Region.wanted oi (yielded ops a.tmps) = true) {a' : Act} (hy : ∀ w, (execOp a.eval oi).run P w = .ok (.value v) w) (ha : a.put (some N) v = a')
    (h : wpAnyLast P md ops Q S ds fuel l' a' w) : wpAnyLast P md ops Q S ds (fuel + 1) l a w := pure_ l' hi hN (any_of HT.out hk) hQ (Or.inl ⟨hg, hy⟩) ha h
theorem zt {P : Program} {ops : Array Oper} {S : World → Prop} {Q : Exit → Act → World → Prop} {ds : List Nat} {md : Region.Mode} (i : Nat) (N : Tmp) {oi : Oper} {v : Value} {fuel : Nat} {l : Array Bool} {a : Act} {w : World} (l' : Array Bool) {T : Bool × List (List Nat × List Nat)} {B : List Nat} (HT : Aside0 (rtab md ops = T)) (HW : Aside0 (waitsOk T.2 B = true)) (hk : takeW T B ds l.toList l'.toList i = true) (hi : ops[i]? = some oi) (hN : oi.dst = some N)
    (hQ : ∀ c a w, Q (.panic c) (a.put oi.dst v) w → Q (.panic c) a w) (hg : Region.wanted oi (yielded ops a.tmps) = true) (hS : S w) {a' : Act} (hy : ∀ w, S w → (execOp a.eval oi).run P w = .ok (.value v) w) (ha : a.put (some N) v = a')
    (h : wpAnyLast P md ops Q S ds fuel l' a' w) : wpAnyLast P md ops Q S ds (fuel + 1) l a w := take_ l' hi hN (take_ofW HT.out HW.out hk) hQ (Or.inl ⟨hg, hy⟩) hS ha h
end Go.Proofs.Ytejljcglbkjgkaa.PL12
