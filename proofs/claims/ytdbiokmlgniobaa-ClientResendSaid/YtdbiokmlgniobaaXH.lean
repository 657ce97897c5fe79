/- Words that make the printed texts of this claim shorter. No conditions. -/
import Derived.Test.YtdbiokmlgniobaaProg
import Derived.Below
import Derived.Deep.Draws
import Derived.Deep.AppendLies
import Derived.Maps.AppendAt
import Derived.OwnWalk
import Derived.Laws.BytesArg
import Derived.Laws.MakeOwn
import Derived.Laws.OwnMore
import Derived.Deep.OwnRows
import Derived.Tactics
import Derived.Lib.ConvBytes
import Derived.Laws.Slices
import Derived.WalkKit
import Derived.KernelRfl
import Derived.RowKit3
import Derived.Deep.LoopGhost
import Derived.Deep.QuietTactic
import Derived.BigQuiet
import Derived.WideLaws
import Derived.Deep.DeepCutAuto
import Derived.Deep.CutBlock
import Derived.Deep.RegionHeld3
import Derived.Laws.Rows
import Derived.Lib.AppendStr
import Derived.ArgAppend
import Derived.Laws.IdiomCopy
import Derived.OrdersHeld
import Derived.Laws.BitsLemmas
import Derived.RowKit
import Derived.Test.YtdbiokmlgniobaaXWWords
import Derived.Test.YtdbiokmlgniobaaXWLast
import Derived.Test.YtdbiokmlgniobaaXWTab
import Derived.Test.YtdbiokmlgniobaaXWFour
import Derived.Test.YtdbiokmlgniobaaXWQPut
import Derived.Test.YtdbiokmlgniobaaXWApart
import Derived.Test.YtdbiokmlgniobaaXWArr
import Derived.Test.YtdbiokmlgniobaaXWZeros
import Derived.Test.YtdbiokmlgniobaaXWFoot
import Derived.Test.YtdbiokmlgniobaaXWKept
import Derived.Test.YtdbiokmlgniobaaXWShare
import Derived.Test.YtdbiokmlgniobaaXWN
import Derived.Test.YtdbiokmlgniobaaXWFootNe
import Derived.Test.YtdbiokmlgniobaaXWAt
import Derived.Test.YtdbiokmlgniobaaXWEqStruct
import Derived.Test.YtdbiokmlgniobaaXWRepsOne
import Derived.Test.YtdbiokmlgniobaaXWInv
import Derived.Test.YtdbiokmlgniobaaXWInvWords
import Derived.Test.YtdbiokmlgniobaaXWGuard
import Derived.Test.YtdbiokmlgniobaaXWNEv
import Derived.Test.YtdbiokmlgniobaaXWMore
namespace Go.Proofs.Ytdbiokmlgniobaa.PL22
open Go.RowKit Go.Proofs.YtdbiokmlgniobaaW.PrintWords Go.Proofs.YtdbiokmlgniobaaW.PrintLast Go.Proofs.YtdbiokmlgniobaaW.PrintMore
set_option linter.unusedVariables false
theorem zq1 {α : Type} {i : Nat} {a : α} {l : List α} : l.toArray.setIfInBounds i a = (l.set i a).toArray := List.setIfInBounds_toArray ..
theorem zq2 {α : Type} {x a : α} {l : List α} : (x :: l).set 0 a = a :: l := rfl
theorem zq3 {α : Type} {x a : α} {l : List α} {n : Nat} : (x :: l).set (n + 1) a = x :: l.set n a := rfl
/-- The bits of a number. -/
def bm (n k : Nat) : Array Bool := ((List.range n).map fun i => k.testBit i).toArray
theorem zp {P : Program} {ops : Array Oper} {S : World → Prop} {Q : Exit → Act → World → Prop} {ds : List Nat} {md : Region.Mode} (i : Nat) (N : Tmp) {oi : Oper} {v : Value} {fuel : Nat} {l : Array Bool} {a : Act} {w : World} (l' : Array Bool) {T : Bool × List (List Nat × List Nat)} {a' : Act} (h : wpAnyLast P md ops Q S ds fuel l' a' w) (HT : Aside0 (rtab md ops = T) := by assumption) (hk : anyT T l.toList l'.toList i = true := by kernel_rfl) (hi : ops[i]? = some oi := by rfl) (hN : oi.dst = some N := by rfl)
    (hQ : ∀ c a w, Q (.panic c) (a.put oi.dst v) w → Q (.panic c) a w := by exact fun _ _ _ h => h) (hg : Region.wanted oi (yielded ops a.tmps) = true := by rfl) (hy : ∀ w, (execOp a.eval oi).run P w = .ok (.value v) w := by intro w'; go_simp; with_reducible rfl) (ha : a.put (some N) v = a' := by simp only [Act.put, zq1, zq2, zq3, i64_w, i32_w]; rfl) : wpAnyLast P md ops Q S ds (fuel + 1) l a w := pure_ l' hi hN (any_of HT.out hk) hQ (Or.inl ⟨hg, hy⟩) ha h
theorem zt {P : Program} {ops : Array Oper} {S : World → Prop} {Q : Exit → Act → World → Prop} {ds : List Nat} {md : Region.Mode} (i : Nat) (N : Tmp) {oi : Oper} {v : Value} {fuel : Nat} {l : Array Bool} {a : Act} {w : World} (l' : Array Bool) {T : Bool × List (List Nat × List Nat)} {B : List Nat} {a' : Act} (hi : ops[i]? = some oi) (hy : ∀ w, S w → (execOp a.eval oi).run P w = .ok (.value v) w) (h : wpAnyLast P md ops Q S ds fuel l' a' w) (HT : Aside0 (rtab md ops = T) := by assumption) (HW : Aside0 (waitsOk T.2 B = true) := by assumption) (hk : takeW T B ds l.toList l'.toList i = true := by kernel_rfl) (hN : oi.dst = some N := by rfl)
    (hQ : ∀ c a w, Q (.panic c) (a.put oi.dst v) w → Q (.panic c) a w := by exact fun _ _ _ h => h) (hg : Region.wanted oi (yielded ops a.tmps) = true := by rfl) (hS : S w := by assumption) (ha : a.put (some N) v = a' := by simp only [Act.put, zq1, zq2, zq3, i64_w, i32_w]; rfl) : wpAnyLast P md ops Q S ds (fuel + 1) l a w := take_ l' hi hN (take_ofW HT.out HW.out hk) hQ (Or.inl ⟨hg, hy⟩) hS ha h
theorem kz {A B : Prop} (h : Aside0 A) (f : A → B := by intro h_; (with_reducible repeat (first | refine blk_drewN ?_ _ | refine blk_drew ?_ | refine blk_alloc ?_ _)); exact h_) : B := f h.out
theorem oz {A B : Prop} (h : Aside0 A) (f : A → B := by intro h_; (with_reducible repeat (first | apply Kd.R_alloc | apply Kd.R_drewN | apply Kd.R_drew)); exact h_) : B := f h.out
theorem hz {A B : Prop} (h : Aside0 A) (f : A → B := by intro h_; repeat (first | (with_reducible first | exact h_ | apply below_alloc | apply pw_below_drewN | apply below_drew1 | refine below_set ?_ (Aside0.out (by assumption))) | exact h_)) : B := f h.out
theorem gz {P : Program} {ops : Array Oper} {Q : Exit → Act → World → Prop} {rest : List Oper} {oi : Oper} {a : Act} {w : World} (n : Tmp) {f : FuncId} {fn : Func} {as_ : Array Operand} {ts : Array TypeId} (hf : P.funcs[f]? = some fn) (args : Array Value)
    (h : Calls P f args w fun e w' => ∃ v, e = .returned v ∧ wpList P ops Q rest (a.put (some n) v) w') (hd : oi.dst = some n := by rfl) (hg : oi.guard = none := by rfl) (hname : (fn.name == "runtime.NumGoroutine") = false := by kernel_rfl) (hb : fn.body.isSome = true := by rfl) (hop : oi.op = .call { callee := .value (.func f), args := as_, argTypes := ts } := by rfl)
    (hargs : as_.map a.eval = args := by (try simp only [List.map_toArray, List.map_cons, List.map_nil]); first | done | rfl | (simp only [List.length_drop, List.length_take]; rfl) | (simp only [ByteArray.size_extract, Nat.min_self]; done) | (simp only [ByteArray.size_extract, Nat.min_self]; rfl)) : wpList P ops Q (oi :: rest) a w := goesL_ (some n) hd hg hf hname hb args hop hargs h
end Go.Proofs.Ytdbiokmlgniobaa.PL22
