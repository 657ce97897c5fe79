/- Printed for this claim by a program of this session over the kit's print program: the Go functions as Lean functions, and proofs that the calls come to these answers. No conditions. -/
import Derived.Test.YtejljcglbkjgkaaSH
import Derived.RangeFuncNested
import Derived.RangeFuncBound
import Derived.RangeFuncCalls
import Derived.RangeFuncLeaves
import Derived.RangeFuncBox
import Derived.Shelf.Abstract
import Derived.Shelf.RegionOpen
import Derived.OwnWalkIn
import Derived.TacticsInMore
import Derived.LoopNIn
import Derived.LoopIn
import Derived.Maps.AppendAt
import Derived.Test.YtejljcglbkjgkaaSPL12x3
namespace Go.Proofs.Ytejljcglbkjgkaa.PL12
open Go.RowKit Go.Proofs.YtejljcglbkjgkaaW.PrintWords Go.Proofs.YtejljcglbkjgkaaW.PrintLast Go.Proofs.YtejljcglbkjgkaaW.PrintMore
attribute [local go_sem] max2_int min2_int max_two min_two max_three min_three max_four min_four   -- for this text's walks alone
set_option linter.unusedVariables false
set_option linter.unusedSimpArgs false

section
attribute [local go_sem] Oper.semAt_some
def lace_cnt (n first step : Int) : Int := mx 0 (wrap64 (Int.tdiv (wrap64 ((wrap64 ((wrap64 (n - first)) + step)) - 1)) step))
def lace_tab : List (Int × Int × Int × Int) := [(0, 0, 8, 8), (4, 0, 8, 8), (0, 4, 4, 8), (2, 0, 4, 4), (0, 2, 2, 4), (1, 0, 2, 2), (0, 1, 1, 2)]
def lace_one (W H : Int) (p : Int × Int × Int × Int) : List S53 := if wrap64 (lace_cnt W p.1 p.2.2.1 * lace_cnt H p.2.1 p.2.2.2) > 0 then [⟨p.1, p.2.1, p.2.2.1, p.2.2.2, lace_cnt W p.1 p.2.2.1, lace_cnt H p.2.1 p.2.2.2⟩] else []
def lace_upto (W H : Int) (m : Nat) : List S53 := (lace_tab.take m).flatMap (lace_one W H)
def lace_list (W H L : Int) : List S53 := if L = 0 then [⟨0, 0, 1, 1, W, H⟩] else lace_upto W H 7
theorem lace_upto_len (W H : Int) (m : Nat) (h : m < 7) : (lace_upto W H m).length < 7 := by
 have key : ∀ l : List (Int × Int × Int × Int), (l.flatMap (lace_one W H)).length ≤ l.length := by
  intro l
  induction l with
  | nil => simp
  | cons x xs ih =>
   rw [List.flatMap_cons, List.length_append, List.length_cons]
   have : (lace_one W H x).length ≤ 1 := by unfold lace_one; split <;> simp
   omega
 have h1 := key (lace_tab.take m)
 have h2 : (lace_tab.take m).length ≤ m := by rw [List.length_take]; omega
 unfold lace_upto
 omega
def lace_cells (x : S53) : Array Value := #[.int .i64 x.f0, .int .i64 x.f1, .int .i64 x.f2, .int .i64 x.f3, .int .i64 x.f4, .int .i64 x.f5]
set_option maxHeartbeats 4000000 in
theorem lace_steps_in (n : Nat) (a b c : Int) (hc : c ≠ 0) (w : World) : CallsIn Fence.wide n Try.prog 57 #[.int .i64 a, .int .i64 b, .int .i64 c] w fun e w' => e = .returned (.int .i64 (lace_cnt a b c)) ∧ w' = w := by
 have hcb : (c == 0) = false := beq_eq_false_iff_ne.mpr hc
 refine callsIn_of_wp Try.func57 rfl trivial ?_ rfl
 simp only [Try.ntmps57, List.size_toArray, List.length_cons, List.length_nil, Nat.reduceAdd, Nat.reduceSub, Array.replicate_succ, Array.replicate_zero, List.push_toArray, List.append_toArray, List.nil_append, List.cons_append]
 unfold lace_cnt mx
 gi_wp2
 all_goals go_ret
 all_goals exact ⟨rfl, rfl⟩
def lace_allA : Array Value := #[.int .i64 0, .int .i64 0, .int .i64 8, .int .i64 8, .int .i64 4, .int .i64 0, .int .i64 8, .int .i64 8, .int .i64 0, .int .i64 4, .int .i64 4, .int .i64 8, .int .i64 2, .int .i64 0, .int .i64 4, .int .i64 4, .int .i64 0, .int .i64 2, .int .i64 2, .int .i64 4, .int .i64 1, .int .i64 0, .int .i64 2, .int .i64 2, .int .i64 0, .int .i64 1, .int .i64 1, .int .i64 2]
set_option maxHeartbeats 40000000 in
set_option maxRecDepth 100000 in
theorem lace_all_calls (w : World) : Calls Try.prog 56 #[] w fun e w' => e = .returned (.agg lace_allA) ∧ Below w.heap.size w w' := by
 have hu49 := Try.underlying82
 have hu48 := Try.underlying81
 have HB := Aside0.mk (Below.refl w.heap.size w)
 go_enter Try.func56, Try.ntmps56
 go_upto_region 1 with (first | ((with_reducible refine gate_dst (N := 0) rfl ?_); refine box_event ?hg (N := 0) ?hd (cs := #[.int .i64 0, .int .i64 0, .int .i64 0, .int .i64 0, .int .i64 0, .int .i64 0, .int .i64 0, .int .i64 0, .int .i64 0, .int .i64 0, .int .i64 0, .int .i64 0, .int .i64 0, .int .i64 0, .int .i64 0, .int .i64 0, .int .i64 0, .int .i64 0, .int .i64 0, .int .i64 0, .int .i64 0, .int .i64 0, .int .i64 0, .int .i64 0, .int .i64 0, .int .i64 0, .int .i64 0, .int .i64 0]) (t := 82) ?hr ?_; (case hd => rfl); (case hg => rfl); (case hr => first | (go_simp; done) | (go_simp; rfl)); intro gb101 hg w1 hbox hb; have n0_ := Aside0.mk (below_step (hz HB) hb); have n1_ := Aside0.mk (hbox); have n2_ := Aside0.mk ((by rw [hg]; exact (below_size (hz HB)) : w.heap.size ≤ gb101)); have n3_ := Aside0.mk ((by rw [hg]; exact (below_size (hz HB)) : w.heap.size ≤ gb101)); clear HB; have HB := n0_; have BK101 := n1_; have GW101 := n2_; have GE101 := n3_; clear n0_ n1_ n2_ n3_; clear hb hbox hg))
 refine wp_region_list ?_
 refine wpList_build rfl 81 _ rfl (by kernel_rfl) ?_
 refine wpList_build rfl 81 _ rfl (by kernel_rfl) ?_
 refine wpList_build rfl 81 _ rfl (by kernel_rfl) ?_
 refine wpList_build rfl 81 _ rfl (by kernel_rfl) ?_
 refine wpList_build rfl 81 _ rfl (by kernel_rfl) ?_
 refine wpList_build rfl 81 _ rfl (by kernel_rfl) ?_
 refine wpList_build rfl 81 _ rfl (by kernel_rfl) ?_
 refine wpList_build rfl 82 _ rfl (by kernel_rfl) ?_
 refine wpList_store_row rfl 82 _ _ rfl gb101 lace_allA rfl (by kernel_rfl) 82 _ BK101.out (by kernel_rfl) rfl (by kernel_rfl) ?_
 have hrow := setRow_heap w1 gb101 _ lace_allA 82 (0, 0) BK101.out
 have hB1 : Below w.heap.size w (w1.setRow gb101 lace_allA) := ⟨HB.out.os, HB.out.tape, HB.out.output, by rw [setRow_size]; exact HB.out.size, fun k hk => (setRow_other w1 gb101 k lace_allA (by have := GE101.out; omega)).trans (HB.out.block k hk)⟩
 go_wp2
 refine bodyPost_ret (results_cell_row rfl _ _ gb101 82 lace_allA (0, 0) _ rfl hrow Try.underlying82 rfl (by kernel_rfl)) rfl ?_
 exact ⟨rfl, hB1⟩
theorem lace_all_in (n : Nat) (w : World) : CallsIn Fence.wide n Try.prog 56 #[] w fun e w' => e = .returned (.agg lace_allA) ∧ Below w.heap.size w w' :=
 callsIn_wide.2 (lace_all_calls w)
theorem lace_ix0 (w : World) : (Instr.index 82 (.agg lace_allA) (.int .i64 0)).run Try.prog w = .ok (.agg #[.int .i64 0, .int .i64 0, .int .i64 8, .int .i64 8]) w := by kernel_rfl
theorem lace_ix1 (w : World) : (Instr.index 82 (.agg lace_allA) (.int .i64 1)).run Try.prog w = .ok (.agg #[.int .i64 4, .int .i64 0, .int .i64 8, .int .i64 8]) w := by kernel_rfl
theorem lace_ix2 (w : World) : (Instr.index 82 (.agg lace_allA) (.int .i64 2)).run Try.prog w = .ok (.agg #[.int .i64 0, .int .i64 4, .int .i64 4, .int .i64 8]) w := by kernel_rfl
theorem lace_ix3 (w : World) : (Instr.index 82 (.agg lace_allA) (.int .i64 3)).run Try.prog w = .ok (.agg #[.int .i64 2, .int .i64 0, .int .i64 4, .int .i64 4]) w := by kernel_rfl
theorem lace_ix4 (w : World) : (Instr.index 82 (.agg lace_allA) (.int .i64 4)).run Try.prog w = .ok (.agg #[.int .i64 0, .int .i64 2, .int .i64 2, .int .i64 4]) w := by kernel_rfl
theorem lace_ix5 (w : World) : (Instr.index 82 (.agg lace_allA) (.int .i64 5)).run Try.prog w = .ok (.agg #[.int .i64 1, .int .i64 0, .int .i64 2, .int .i64 2]) w := by kernel_rfl
theorem lace_ix6 (w : World) : (Instr.index 82 (.agg lace_allA) (.int .i64 6)).run Try.prog w = .ok (.agg #[.int .i64 0, .int .i64 1, .int .i64 1, .int .i64 2]) w := by kernel_rfl
theorem lace_row (m : Nat) (hm : m < 7) (w : World) : ∃ p0 p1 p2 p3 : Int, (Instr.index 82 (.agg lace_allA) (.int .i64 (m : Int))).run Try.prog w = .ok (.agg #[.int .i64 p0, .int .i64 p1, .int .i64 p2, .int .i64 p3]) w ∧ p2 ≠ 0 ∧ p3 ≠ 0 ∧ ∀ a b, lace_upto a b (m + 1) = lace_upto a b m ++ lace_one a b (p0, p1, p2, p3) := by
 have up : ∀ (m : Nat) p (a b : Int), lace_tab[m]? = some p → lace_upto a b (m + 1) = lace_upto a b m ++ lace_one a b p := by
  intro m p a b h
  unfold lace_upto
  rw [List.take_add_one, h, List.flatMap_append]
  simp
 obtain h | h | h | h | h | h | h : m = 0 ∨ m = 1 ∨ m = 2 ∨ m = 3 ∨ m = 4 ∨ m = 5 ∨ m = 6 := by omega
 ·subst h; exact ⟨_, _, _, _, lace_ix0 w, by decide, by decide, fun a b => up 0 _ a b rfl⟩
 ·subst h; exact ⟨_, _, _, _, lace_ix1 w, by decide, by decide, fun a b => up 1 _ a b rfl⟩
 ·subst h; exact ⟨_, _, _, _, lace_ix2 w, by decide, by decide, fun a b => up 2 _ a b rfl⟩
 ·subst h; exact ⟨_, _, _, _, lace_ix3 w, by decide, by decide, fun a b => up 3 _ a b rfl⟩
 ·subst h; exact ⟨_, _, _, _, lace_ix4 w, by decide, by decide, fun a b => up 4 _ a b rfl⟩
 ·subst h; exact ⟨_, _, _, _, lace_ix5 w, by decide, by decide, fun a b => up 5 _ a b rfl⟩
 ·subst h; exact ⟨_, _, _, _, lace_ix6 w, by decide, by decide, fun a b => up 6 _ a b rfl⟩
def lace_Kp (Bn : Nat) (A B : World) : Prop := B.heap[Bn]? = A.heap[Bn]?
set_option maxRecDepth 100000 in
set_option maxHeartbeats 8000000 in
theorem lace_each_in (n : Nat) (hn : 1 ≤ n) (l Bn : Nat) (h0 h1 h2 h3 h4 : Int) (J Jx : List S53 → World → Prop) (W : World) (hJa : AbidesFrom W.heap.size J)
  (hY : ∀ pre x W1, J pre W1 → pre.length < 7 → YieldAt Fence.wide (n - 1) Try.prog l #[.agg (lace_cells x)] W1 fun e W' => (e = .returned (.bool true) ∧ J (pre ++ [x]) W' ∧ lace_Kp Bn W1 W') ∨ (e = .returned (.bool false) ∧ Jx (pre ++ [x]) W'))
  (hB : W.heap[Bn]? = some (.cells #[.int .i64 h0, .int .i64 h1, .int .i64 h2, .int .i64 h3, .int .i64 h4] 29 (0, 0))) (hJ : J [] W) :
  CallsIn Fence.wide n Try.prog 55 #[.func (.yield l) #[] #[], .pointer (some ⟨Bn, 0, none⟩)] W fun e W' => (∃ v, e = .returned v) ∧ ((∃ ys, ys = lace_list h0 h1 h4 ∧ J ys W') ∨ (∃ pre, True ∧ Jx pre W')) := by
 have c4 : W.cell? ⟨Bn, 4, none⟩ = some (.int .i64 h4) := (blk_cell hB 4).trans rfl
 have c0 : W.cell? ⟨Bn, 0, none⟩ = some (.int .i64 h0) := (blk_cell hB 0).trans rfl
 have c1 : W.cell? ⟨Bn, 1, none⟩ = some (.int .i64 h1) := (blk_cell hB 1).trans rfl
 refine callsIn_of_wp Try.func55 rfl trivial ?_ rfl
 simp only [Try.ntmps55, List.size_toArray, List.length_cons, List.length_nil, Nat.reduceAdd, Nat.reduceSub, Array.replicate_succ, Array.replicate_zero, List.push_toArray, List.append_toArray, List.nil_append, List.cons_append]
 by_cases hL : h4 = 0
 ·have hLb : (h4 == 0) = true := beq_iff_eq.mpr hL
  obtain ⟨fn, tmps, assign, body, hy, hR⟩ := hY [] ⟨0, 0, 1, 1, h0, h1⟩ W hJ (by simp)
  dsimp only [lace_cells] at hy
  have hlist : lace_list h0 h1 h4 = [⟨0, 0, 1, 1, h0, h1⟩] := if_pos hL
  gi_wp2
  refine hR.mono ?_
  rintro e W3 (⟨rfl, hJ3, hk3⟩ | ⟨rfl, hJx3⟩)
  ·gi_wp2
   refine bodyPost_ret (results_none rfl _ _ _) rfl ?_
   exact ⟨⟨_, rfl⟩, .inl ⟨_, hlist.symm, hJ3⟩⟩
  ·gi_wp2
   refine bodyPost_ret (results_none rfl _ _ _) rfl ?_
   exact ⟨⟨_, rfl⟩, .inr ⟨_, trivial, hJx3⟩⟩
 ·have hLb : (h4 == 0) = false := beq_eq_false_iff_ne.mpr hL
  have hlist : lace_list h0 h1 h4 = lace_upto h0 h1 7 := if_neg hL
  have hlt0 : Bn < W.heap.size := (Array.getElem?_eq_some_iff.1 hB).1
  gi_wp2_with (refine ⟨trivial, ?_⟩; gi_at_call 56; refine (lace_all_in _ _).mono ?_; rintro e w2 ⟨rfl, hb2⟩)

  gi_loopw [18] (fun p wr => ∃ m : Nat, p = .int .i64 (m : Int) ∧ m ≤ 7 ∧ wr.heap[Bn]? = some (.cells #[.int .i64 h0, .int .i64 h1, .int .i64 h2, .int .i64 h3, .int .i64 h4] 29 (0, 0)) ∧ J (lace_upto h0 h1 m) wr) (fun p wr => 7 - (intOf p).toNat)
  case atStart =>
   exact ⟨0, rfl, by omega, (hb2.block Bn hlt0).trans hB, hJa _ _ _ none hJ ⟨hb2.os, hb2.tape, hb2.output, hb2.size, fun k hk _ => hb2.block k hk⟩ (fun r e => by cases e)⟩
  case round =>
   obtain ⟨m, rfl, hm, hB', hJs⟩ := hrel
   have c0 : wr.cell? ⟨Bn, 0, none⟩ = some (.int .i64 h0) := (blk_cell hB' 0).trans rfl
   have c1 : wr.cell? ⟨Bn, 1, none⟩ = some (.int .i64 h1) := (blk_cell hB' 1).trans rfl
   by_cases h7 : m = 7
   ·subst h7
    gi_wp2
    go_end0
    exact ⟨⟨_, rfl⟩, .inl ⟨_, hlist.symm, hJs⟩⟩
   ·have hm7 : m < 7 := by omega
    have hmb : decide ((m : Int) < 7) = true := decide_eq_true (by omega)
    have hlt : Bn < wr.heap.size := (Array.getElem?_eq_some_iff.1 hB').1
    obtain ⟨p0, p1, p2, p3, hix, hp2, hp3, hup⟩ := lace_row m hm7 wr
    gi_wp2
    have hb5 : (wr.alloc (.cells #[.int .i64 p0, .int .i64 p1, .int .i64 p2, .int .i64 p3] 81)).heap[Bn]? = some (.cells #[.int .i64 h0, .int .i64 h1, .int .i64 h2, .int .i64 h3, .int .i64 h4] 29 (0, 0)) := (Below.heap_alloc wr _ Bn hlt).trans hB'
    have hp5 : (wr.alloc (.cells #[.int .i64 p0, .int .i64 p1, .int .i64 p2, .int .i64 p3] 81)).heap[wr.heap.size]? = some (.cells #[.int .i64 p0, .int .i64 p1, .int .i64 p2, .int .i64 p3] 81 (0, 0)) := World.alloc_heap_new wr _
    have hJ5 : J (lace_upto h0 h1 m) (wr.alloc (.cells #[.int .i64 p0, .int .i64 p1, .int .i64 p2, .int .i64 p3] 81)) := hJa _ _ _ none hJs (World.grownBy_alloc wr _ none) (fun r e => by cases e)
    generalize wr.alloc (.cells #[.int .i64 p0, .int .i64 p1, .int .i64 p2, .int .i64 p3] 81) = w5 at *
    generalize wr.heap.size = gp at *
    have d0 : w5.cell? ⟨Bn, 0, none⟩ = some (.int .i64 h0) := (blk_cell hb5 0).trans rfl
    have d1 : w5.cell? ⟨Bn, 1, none⟩ = some (.int .i64 h1) := (blk_cell hb5 1).trans rfl
    have e0 : w5.cell? ⟨gp, 0, none⟩ = some (.int .i64 p0) := (blk_cell hp5 0).trans rfl
    have e1 : w5.cell? ⟨gp, 1, none⟩ = some (.int .i64 p1) := (blk_cell hp5 1).trans rfl
    have e2 : w5.cell? ⟨gp, 2, none⟩ = some (.int .i64 p2) := (blk_cell hp5 2).trans rfl
    have e3 : w5.cell? ⟨gp, 3, none⟩ = some (.int .i64 p3) := (blk_cell hp5 3).trans rfl
    clear hix c0 c1
    refine wpIn_wide.2 ?_
    go_quiet ((go_at_call 57; refine Calls.quiet_of_same (callsIn_wide.1 (lace_steps_in 9 _ _ _ (by assumption) _))))
    have hJ6 : J (lace_upto h0 h1 m) (w5.drewN nq) := hJa _ _ _ none hJ5 (⟨rfl, rfl, rfl, Nat.le_refl _, fun _ _ _ => rfl⟩ : w5.grownBy (w5.drewN nq) none) (fun r e => by cases e)
    have hlen : (lace_upto h0 h1 m).length < 7 := lace_upto_len h0 h1 m hm7
    obtain ⟨fn, tmps, assign, body, hy, hR⟩ := hY _ ⟨p0, p1, p2, p3, lace_cnt h0 p0 p2, lace_cnt h1 p1 p3⟩ _ hJ6 hlen
    dsimp only [lace_cells] at hy
    have hb6 : (w5.drewN nq).heap[Bn]? = some (.cells #[.int .i64 h0, .int .i64 h1, .int .i64 h2, .int .i64 h3, .int .i64 h4] 29 (0, 0)) := hb5
    clear hb5 hp5
    have hw1 : wrap64 ((m : Int) + 1) = ((m + 1 : Nat) : Int) := by unfold wrap64; omega
    have hmm : 7 - (m + 1) < 7 - m := by omega
    gi_wp2
    ·have hpos : 0 < wrap64 (lace_cnt h0 p0 p2 * lace_cnt h1 p1 p3) := by assumption
     have hone : lace_upto h0 h1 (m + 1) = lace_upto h0 h1 m ++ [⟨p0, p1, p2, p3, lace_cnt h0 p0 p2, lace_cnt h1 p1 p3⟩] := by rw [hup]; unfold lace_one; rw [if_pos hpos]
     refine hR.mono ?_
     rintro e W3 (⟨rfl, hJ3, hk3⟩ | ⟨rfl, hJx3⟩)
     ·gi_wp2
      go_roundw
      case rel => exact ⟨m + 1, rfl, by omega, hk3.trans hb6, by rw [hone]; exact hJ3⟩
      case measure => simp only [intOf]; omega
     ·gi_wp2
      refine bodyPost_ret (results_none rfl _ _ _) rfl ?_
      exact ⟨⟨_, rfl⟩, .inr ⟨_, trivial, hJx3⟩⟩
    ·have hpos : wrap64 (lace_cnt h0 p0 p2 * lace_cnt h1 p1 p3) ≤ 0 := by assumption
     have hone : lace_upto h0 h1 (m + 1) = lace_upto h0 h1 m := by rw [hup]; unfold lace_one; rw [if_neg (Int.not_lt.mpr hpos), List.append_nil]
     refine ⟨fun _ h => (by cases h), ?_⟩
     gi_wp2
     go_roundw
     case rel => exact ⟨m + 1, rfl, by omega, hb6, by rw [hone]; exact hJ6⟩
     case measure => simp only [intOf]; omega
set_option maxHeartbeats 4000000 in
theorem lace_mk_in (n : Nat) (h0 h1 h2 h3 h4 : Int) (w : World) : CallsIn Fence.wide n Try.prog 40 #[.agg #[.int .i64 h0, .int .i64 h1, .int .i64 h2, .int .i64 h3, .int .i64 h4]] w fun e w' => e = .returned (.func (.func 55) #[] #[.pointer (some ⟨w.heap.size, 0, none⟩)]) ∧ w' = w.alloc (.cells #[.int .i64 h0, .int .i64 h1, .int .i64 h2, .int .i64 h3, .int .i64 h4] 29) := by
 refine callsIn_of_wp Try.func40 rfl trivial ?_ rfl
 simp only [Try.ntmps40, List.size_toArray, List.length_cons, List.length_nil, Nat.reduceAdd, Nat.reduceSub, Array.replicate_succ, Array.replicate_zero, List.push_toArray, List.append_toArray, List.nil_append, List.cons_append]
 gi_wp2
 go_ret
 exact ⟨rfl, rfl⟩
theorem lace_stops (n : Nat) (hn : 1 ≤ n) (Bn : Nat) (h0 h1 h2 h3 h4 : Int) (w : World) (hBn : Bn < w.heap.size) (hB : w.heap[Bn]? = some (.cells #[.int .i64 h0, .int .i64 h1, .int .i64 h2, .int .i64 h3, .int .i64 h4] 29 (0, 0))) :
  SeqStopsK Fence.wide n Try.prog 55 #[.pointer (some ⟨Bn, 0, none⟩)] (fun x : S53 => #[Value.agg (lace_cells x)]) (lace_Kp Bn) (fun ys => ys = lace_list h0 h1 h4) (fun _ => True) 7 w := fun l J Jx W hW hJa _ hY hJ =>
 lace_each_in n hn l Bn h0 h1 h2 h3 h4 J Jx W hJa hY ((hW.block Bn hBn).trans hB) hJ
theorem lace_heads_own {β : Type} {B : Nat} {cs : Array Value} {t : TypeId} : Own (fun (_ : β) (W : World) => W.heap[B]? = some (.cells cs t (0, 0))) := by
 intro s X Y row hs hg hr
 refine (hg.block B (Array.getElem?_eq_some_iff.1 hs).1 (fun e => ?_)).trans hs
 obtain ⟨o, ho, hc⟩ := hr B e.symm
 rw [hs] at ho
 cases ho
 cases hc
theorem lace_reps {R : S53 → List Value → Prop} (hR : ∀ x, R x (lace_cells x).toList) : ∀ ys xs : List S53, Reps R 6 xs (xs.flatMap fun x => (lace_cells x).toList) → Reps R 6 (xs ++ ys) ((xs ++ ys).flatMap fun x => (lace_cells x).toList) := by
 intro ys
 induction ys with
 | nil => intro xs h; rw [List.append_nil]; exact h
 | cons y ys ih =>
  intro xs h
  have h2 := ih (xs ++ [y]) (by rw [List.flatMap_append]; simpa using h.snoc (hR y) rfl)
  simpa using h2
def lace_Passes.f (k : Nat) (a0_0 a0_1 a0_2 a0_3 a0_4 : Int) : Option (List S53) := (head_Right.f k a0_0 a0_1 a0_2 a0_3 a0_4).bind fun t => if t = 0 then some (lace_list a0_0 a0_1 a0_4) else some []
theorem lace_Passes.mono : ∀ a0 a1 a2 a3 a4 k, LeO (lace_Passes.f k a0 a1 a2 a3 a4) (lace_Passes.f (k + 1) a0 a1 a2 a3 a4) := by
 intro a0 a1 a2 a3 a4 k
 unfold lace_Passes.f
 exact LeO.bind (head_Right.mono _ _ _ _ _ _) (fun _ => LeO.refl _)
set_option maxRecDepth 100000 in
set_option maxHeartbeats 8000000 in
theorem lace_Passes.calls (k : Nat) (a0_0 : Int) (a0_1 : Int) (a0_2 : Int) (a0_3 : Int) (a0_4 : Int) (r : List (S53)) (w : World) (h : lace_Passes.f k a0_0 a0_1 a0_2 a0_3 a0_4 = some r) :
  Calls Try.prog 22 #[.agg #[.int .i64 a0_0, .int .i64 a0_1, .int .i64 a0_2, .int .i64 a0_3, .int .i64 a0_4]] w fun e w' => ∃ v0_ : Value, e = .returned (v0_) ∧ Kd.R k53 53 w' w.heap.size (fun _ => True) v0_ r ∧ Below w.heap.size w w' := by
 unfold lace_Passes.f at h
 obtain ⟨t, ht, h⟩ := Option.bind_eq_some_iff.mp h
 refine (callsIn_wide (n := 5)).1 ?_
 refine callsIn_of_wp_marks Try.func22 rfl trivial ?_ rfl
 simp only [Try.ntmps22, List.size_toArray, List.length_cons, List.length_nil, Nat.reduceAdd, Nat.reduceSub, Array.replicate_succ, Array.replicate_zero, List.push_toArray, List.append_toArray, List.nil_append, List.cons_append]
 have hbx := World.alloc_heap_new w (.cells #[.int .i64 a0_0, .int .i64 a0_1, .int .i64 a0_2, .int .i64 a0_3, .int .i64 a0_4] 29)
 by_cases h0 : t = 0
 ·rw [if_pos h0] at h
  obtain rfl := Option.some.inj h
  have hb0 : (t != 0) = false := bne_eq_false_iff_eq.mpr h0
  gi_wp2_with (first | (refine ⟨trivial, ?_⟩; gi_at_call 18; refine (callsIn_wide.2 (head_Right.calls k _ _ _ _ _ t _ ht)).mono ?_; rintro e w2 ⟨rfl, hb2⟩; have hbx2 := (hb2.block w.heap.size (by simp)).trans hbx; have q0 := (blk_cell hbx2 0).trans rfl; have q1 := (blk_cell hbx2 1).trans rfl; have q2 := (blk_cell hbx2 2).trans rfl; have q3 := (blk_cell hbx2 3).trans rfl; have q4 := (blk_cell hbx2 4).trans rfl; have hbx3 := (Below.heap_alloc w2 (.cells #[.slice none 0 0] 50) w.heap.size (Array.getElem?_eq_some_iff.1 hbx2).1).trans hbx2; have p0 := (blk_cell hbx3 0).trans rfl; have p1 := (blk_cell hbx3 1).trans rfl; have p2 := (blk_cell hbx3 2).trans rfl; have p3 := (blk_cell hbx3 3).trans rfl; have p4 := (blk_cell hbx3 4).trans rfl) | (refine ⟨trivial, ?_⟩; gi_at_call 40; refine (lace_mk_in _ _ _ _ _ _ _).mono ?_; rintro e w3 ⟨rfl, rfl⟩))
  have hsz2 : w.heap.size < w2.heap.size := (Array.getElem?_eq_some_iff.1 hbx2).1
  have bO : Boxed ((w2.alloc (.cells #[.slice none 0 0] 50)).alloc (.cells #[.int .i64 a0_0, .int .i64 a0_1, .int .i64 a0_2, .int .i64 a0_3, .int .i64 a0_4] 29)) w2.heap.size 50 (.slice none 0 0) := (Boxed.new w2 50 (.slice none 0 0)).alloc _
  have hBn := World.alloc_heap_new (w2.alloc (.cells #[.slice none 0 0] 50)) (.cells #[.int .i64 a0_0, .int .i64 a0_1, .int .i64 a0_2, .int .i64 a0_3, .int .i64 a0_4] 29)
  have hB0 : Below w.heap.size w ((w2.alloc (.cells #[.slice none 0 0] 50)).alloc (.cells #[.int .i64 a0_0, .int .i64 a0_1, .int .i64 a0_2, .int .i64 a0_3, .int .i64 a0_4] 29)) := ((((Below.refl _ w).alloc (Nat.le_refl _) _).trans (hb2.mono (by simp))).alloc (by omega) _).alloc (by simp; omega) _
  have hs0 : ((w2.alloc (.cells #[.slice none 0 0] 50)).alloc (.cells #[.int .i64 a0_0, .int .i64 a0_1, .int .i64 a0_2, .int .i64 a0_3, .int .i64 a0_4] 29)).heap.size = w2.heap.size + 2 := by simp
  rw [World.size_alloc] at hBn
  generalize (w2.alloc (.cells #[.slice none 0 0] 50)).alloc (.cells #[.int .i64 a0_0, .int .i64 a0_1, .int .i64 a0_2, .int .i64 a0_3, .int .i64 a0_4] 29) = W0 at *
  refine wpIn_rangeFunc_ownH rfl (by omega) (gf := 55) (lb := #[.pointer (some ⟨w2.heap.size + 1, 0, none⟩)]) rfl trivial (enters_of Try.func55 (by kernel_rfl) rfl)
   (lace_stops 4 (by omega) (w2.heap.size + 1) a0_0 a0_1 a0_2 a0_3 a0_4 W0 (by omega) hBn) (fun h1 h2 => h2.trans h1)
   (fun W l o o' hl hlo _ _ => World.putObj_heap_other (by omega)) (Below.refl _ _) (fun _ => rfl)
   (fun pre W => (∃ v, Boxed W w2.heap.size 50 v ∧ W.ownsRow w.heap.size 53 6 v pre.length (pre.flatMap fun x => (lace_cells x).toList) ∧ True) ∧ W.heap[w2.heap.size + 1]? = some (.cells #[.int .i64 a0_0, .int .i64 a0_1, .int .i64 a0_2, .int .i64 a0_3, .int .i64 a0_4] 29 (0, 0)) ∧ Below w.heap.size w W)
   (fun _ _ _ => False)
   (OwnFrom.and (Own.from (holdsRow_own w.heap.size w2.heap.size 50 53 6 (fun pre : List S53 => pre.length) (fun pre => pre.flatMap fun x => (lace_cells x).toList) (fun _ _ => True)) _) (OwnFrom.and (Own.from lace_heads_own _) (ownFrom_below (Nat.le_refl _) (by omega))))
   (fun _ _ _ _ _ hs _ _ => hs)
   ⟨⟨_, bO, World.ownsRow_nil _ _ _ _, trivial⟩, hBn, hB0⟩
   (fun x a' W => ∃ Bx, W.heap[Bx]? = some (.cells (lace_cells x) 53 (0, 0)) ∧ a' = { tmps := #[.agg #[.int .i64 a0_0, .int .i64 a0_1, .int .i64 a0_2, .int .i64 a0_3, .int .i64 a0_4], .pointer (some ⟨w.heap.size, 0, none⟩), .slice none 0 0, .pointer (some ⟨w2.heap.size, 0, none⟩), .pointer (some ⟨Bx, 0, none⟩), .agg #[.int .i64 a0_0, .int .i64 a0_1, .int .i64 a0_2, .int .i64 a0_3, .int .i64 a0_4], .int .i64 0, .bool false, .agg #[.int .i64 a0_0, .int .i64 a0_1, .int .i64 a0_2, .int .i64 a0_3, .int .i64 a0_4], .func (.func 55) #[] #[.pointer (some ⟨w2.heap.size + 1, 0, none⟩)], .agg (lace_cells x), undef, undef, undef, undef, undef], defers := [] })
   ?hAx ?assign ?body ?done ?stop
  case hAx =>
   rintro x a' _ X Y row ⟨Bx, hx, ha⟩ hg hr
   refine ⟨Bx, (hg.block Bx (Array.getElem?_eq_some_iff.1 hx).1 (fun e => ?_)).trans hx, ha⟩
   obtain ⟨_, o, ho, hc⟩ := hr Bx e.symm
   rw [hx] at ho
   cases ho
   cases hc
  case assign =>
   rintro l pre x W K ⟨⟨v, hv, hrow, _⟩, hH, hB⟩ hK
   simp only [lace_cells]
   gi_wp2
   refine hK _ _ ((KeepsOthers.alloc _ _).from _) ?_ ⟨⟨v, hv.alloc _, hrow.alloc _, trivial⟩, (Below.heap_alloc W _ _ (Array.getElem?_eq_some_iff.1 hH).1).trans hH, hB.alloc (by have := hB.size; omega) _⟩ ⟨W.heap.size, World.alloc_heap_new W _, rfl⟩
   exact Below.heap_alloc W _ _ (Array.getElem?_eq_some_iff.1 hH).1
  case body =>
   rintro l pre x a' W hl hr ⟨⟨v, hv, hrow, _⟩, hH, hB⟩ ⟨Bx, hx, rfl⟩ hlt
   have hc := hv.cell
   have x0 : W.cell? ⟨Bx, 0, none⟩ = some (.int .i64 x.f0) := (blk_cell hx 0).trans rfl
   have x1 : W.cell? ⟨Bx, 1, none⟩ = some (.int .i64 x.f1) := (blk_cell hx 1).trans rfl
   have x2 : W.cell? ⟨Bx, 2, none⟩ = some (.int .i64 x.f2) := (blk_cell hx 2).trans rfl
   have x3 : W.cell? ⟨Bx, 3, none⟩ = some (.int .i64 x.f3) := (blk_cell hx 3).trans rfl
   have x4 : W.cell? ⟨Bx, 4, none⟩ = some (.int .i64 x.f4) := (blk_cell hx 4).trans rfl
   have x5 : W.cell? ⟨Bx, 5, none⟩ = some (.int .i64 x.f5) := (blk_cell hx 5).trans rfl
   obtain ⟨i0, hi, hz0, hz1, hz2⟩ := info_parts (show (Try.prog.info? 53).map (fun i => (i.zero, i.size, i.bytes)) = some (some (.agg #[.int .i64 0, .int .i64 0, .int .i64 0, .int .i64 0, .int .i64 0, .int .i64 0]), 6, 48) by kernel_rfl)
   have hb1 : pre.length + 1 ≤ maxLen := by simp only [maxLen]; omega
   have hb2_ : (pre.length + 1) * 48 ≤ 140737488355328 := by omega
   have hb3 : ∀ o, w.heap.size ≤ (W.alloc o).heap.size := fun o => by have := hB.size; have h_ := hB0.size; simp; omega
   gi_wp2_with (gi_at_builtin; refine wpListIn_append_own _ rfl _ _ 50 rfl w.heap.size 53 i0 _ 6 48 Try.underlying50 hi hz0 hz1 hz2 rfl (by decide) _ _ _ rfl (hrow.alloc _) ⟨W.heap.size, 0, none⟩ 1 1 [.int .i64 x.f0, .int .i64 x.f1, .int .i64 x.f2, .int .i64 x.f3, .int .i64 x.f4, .int .i64 x.f5] rfl rfl (by simpa using World.news_of_block (cs := #[.int .i64 x.f0, .int .i64 x.f1, .int .i64 x.f2, .int .i64 x.f3, .int .i64 x.f4, .int .i64 x.f5]) (t := 53) (fr := (0, 0)) (World.alloc_heap_new W (.cells #[.int .i64 x.f0, .int .i64 x.f1, .int .i64 x.f2, .int .i64 x.f3, .int .i64 x.f4, .int .i64 x.f5] 53))) (by simp [Value.oneCell']) hb1 hb2_ (hb3 _) ?_; intro v' w1 hown' hgrow _; obtain ⟨g', cap', rfl⟩ := ownsRow_succ hown'; obtain ⟨hv1, hv2, hr2, hk2, hb2'⟩ := hv.appended (by decide) hrow hB.size (by omega) hown' hgrow; have hc1 := hv1.cell; have hf1 := hv1.frozen)
   have hkp : lace_Kp (w2.heap.size + 1) W (w1.setCell ⟨w2.heap.size, 0, none⟩ (.slice (some ⟨g', 0, none⟩) (pre.length + 1) cap')) := by
    have hltB := (Array.getElem?_eq_some_iff.1 hH).1
    refine (Below.heap_setCell w1 ⟨w2.heap.size, 0, none⟩ _ (w2.heap.size + 1) (by simp)).trans ?_
    refine (hgrow.block (w2.heap.size + 1) (by rw [World.size_alloc]; omega) (own_ne hrow hH (by decide))).trans ?_
    exact Below.heap_alloc W _ _ hltB
   exact ⟨hk2.from _, hkp, ⟨_, hv2, by simpa [lace_cells] using hr2, trivial⟩, hkp.trans hH, hB.trans hb2'⟩
  case done =>
   rintro D ys W hD rfl ⟨⟨v, hv, hrow, _⟩, hH, hB⟩ hK
   have hc := hv.cell
   gi_wp2
   refine ⟨by simp, .inl ⟨_, _, rfl, run_takeDeferred hK, ?_⟩⟩
   refine ⟨_, results_tmp rfl _ _ _, v, rfl, ⟨fun _ _ => trivial, _, ownsRow_putObj hrow _ hK rfl, ?_⟩, hB.trans (belowK_b (w := w) (Nat.le_refl _) W D _ _ (by have := hB0.size; omega) hK rfl rfl)⟩
   exact lace_reps (fun x => k53_mkM _ _ _ x) _ [] (Reps.none _ _)
  case stop =>
   rintro D c pre W _ _ h _
   exact h.elim
 ·rw [if_neg h0] at h
  obtain rfl := Option.some.inj h
  have hb0 : (t != 0) = true := bne_iff_ne.mpr h0
  gi_wp2_with (refine ⟨trivial, ?_⟩; gi_at_call 18; refine (callsIn_wide.2 (head_Right.calls k _ _ _ _ _ t _ ht)).mono ?_; rintro e w2 ⟨rfl, hb2⟩)
  have hsz2 : w.heap.size < w2.heap.size := Nat.lt_of_lt_of_le (by simp) hb2.size
  refine ⟨_, results_tmp rfl _ _ _, _, rfl, Kd.R_nil _ _ _ _ _, ?_⟩
  exact ((Below.refl _ w).alloc (Nat.le_refl _) _).trans (hb2.mono (by simp))
end

end Go.Proofs.Ytejljcglbkjgkaa.PL12

namespace Go.Proofs.Ytejljcglbkjgkaa.PL12
open Go.RowKit Go.Proofs.YtejljcglbkjgkaaW.PrintWords Go.Proofs.YtejljcglbkjgkaaW.PrintLast Go.Proofs.YtejljcglbkjgkaaW.PrintMore
attribute [local go_sem] max2_int min2_int max_two min_two max_three min_three max_four min_four   -- for this text's walks alone
set_option linter.unusedVariables false
set_option linter.unusedSimpArgs false

def head_Samples.f (k : Nat) (a0 : Int) : Option (Int) := (slices_Index_int_int.f k (([0, 4, 2, 6] : List Int)) a0).bind fun t122 => (if a0 = 3 then (some (0 + 1)) else (some (wrap64 (t122 + 1))))
theorem head_Samples.mono : ∀ a0 k, LeO (head_Samples.f k a0) (head_Samples.f (k + 1) a0) := by
 intro a0 k
 unfold head_Samples.f
 repeat' first
   | (with_reducible exact slices_Index_int_int.mono _ _ _)
   | (with_reducible exact LeO.refl _)
   | (with_reducible exact LeO.none _)
   | (with_reducible refine LeO.ite ?_ ?_)
   | (with_reducible refine LeO.bind ?_ (fun _ => ?_))
   | exact slices_Index_int_int.mono _ _ _
   | exact LeO.none _
   | refine LeO.ite ?_ ?_
   | refine LeO.bind ?_ (fun _ => ?_)
set_option maxHeartbeats 40000000 in
set_option maxRecDepth 100000 in
theorem head_Samples.calls (k : Nat) (a0 : Int) (r : Int) (w : World) (h : head_Samples.f k a0 = some r) :
  Calls Try.prog 54 #[.int .i64 a0] w fun e w' => e = .returned (.int .i64 r) ∧ Below w.heap.size w w' := by
 have HB := Aside0.mk (Below.refl w.heap.size w)
 have H : ((slices_Index_int_int.f k (([0, 4, 2, 6] : List Int)) a0).bind fun t122 => (if a0 = 3 then (some (0 + 1)) else (some (wrap64 (t122 + 1))))) = some r := h
 clear h
 obtain ⟨y119, hy119⟩ : ∃ y_ : List Int, y_ = (([0, 4, 2, 6] : List Int)) := ⟨_, rfl⟩
 replace H : ((slices_Index_int_int.f k y119 a0).bind fun t122 => (if a0 = 3 then (some (0 + 1)) else (some (wrap64 (t122 + 1))))) = some r := by first | (rw [hy119]; with_reducible exact H) | (have H2_ := (Option.bind_some _ _).symm.trans H; rw [hy119]; with_reducible exact H2_) | (have H2_ := (Option.bind_some _ _).symm.trans H; with_reducible exact H2_) | with_reducible exact H | (rw [hy119]; exact H) | exact H
 have Ny119 := Aside0.mk hy119
 clear hy119
 replace H := Option.bind_eq_some_iff.mp H
 obtain ⟨t122, A20, H⟩ := H
 replace H : (if a0 = 3 then (some (0 + 1)) else (some (wrap64 (t122 + 1)))) = some r := H
 have A2 := Aside0.mk A20
 clear A20
 by_cases c3 : a0 = 3
 ·rw [if_pos c3] at H
  have c3b0 : (a0 == 3) = true := beq_iff_eq.mpr c3
  have c3b1 : (a0 != 3) = false := bne_eq_false_iff_eq.mpr c3
  clear c3
  obtain rfl := Option.some.inj H
  go_enter Try.func54, Try.ntmps54
  go_wp2_with (first | ((with_reducible refine gate_dst (N := 4) rfl ?_); refine Kd.R_lit (Kd.int .i64) _ 3 ?hg (N := 4) ?hd (xs := ([0, 4, 2, 6] : List Int)) (inner := [.int .i64 0, .int .i64 4, .int .i64 2, .int .i64 6]) (ok := fun _ => True) (okp := fun _ => True) ?hr ?hp (fun _ hk => hk) trivial (Below.refl _ _) (Nat.le_refl _) (by simp) ?_; (case hd => rfl); (case hg => rfl); (case hr => first | (go_simp; done) | (go_simp; rfl)); (case hp => exact (Reps.one (show Kd.M (Kd.int .i64) _ _ _ 0 [.int .i64 0] from rfl) (Reps.one (show Kd.M (Kd.int .i64) _ _ _ 4 [.int .i64 4] from rfl) (Reps.one (show Kd.M (Kd.int .i64) _ _ _ 2 [.int .i64 2] from rfl) (Reps.one (show Kd.M (Kd.int .i64) _ _ _ 6 [.int .i64 6] from rfl) (Reps.none _ _)))))); intro v120 w4 ho5 hb hg_ hnew_; clear hg_ hnew_; (first | rw [← Ny119.out] at ho5 | (simp only [Int.reduceToNat] at ho5; rw [← Ny119.out] at ho5)); have n0_ := Aside0.mk (Kd.R_lower ho5 (below_size (hz HB))); have n1_ := Aside0.mk (below_step (hz HB) hb); clear HB; have HO121 := n0_; have HB := n1_; clear n0_ n1_; clear hb ho5; obtain ⟨Ao6, co6, eo6⟩ := Kd.R_slice HO121.out; subst eo6) | ((with_reducible refine gate_callee (f := 53) rfl ?_); refine gz 6 Try.func53 #[.slice Ao6 y119.length co6, .int .i64 a0] ?_; (with_reducible refine (slices_Index_int_int.calls k _ _ y119 a0 t122 _ ?side1 ?side2 A2.out).mono ?_); (case side1 => repeat (first | exact (Kd.R_reads' HO121.out).2.2 | (with_reducible refine Kd.C_alloc ?_ _) | (with_reducible refine Kd.C_drewN ?_ _) | (with_reducible refine Kd.C_drew ?_))); (case side2 => exact (Kd.R_reads' HO121.out).2.1); rintro e w' ⟨rfl, ⟨nd, rfl⟩⟩; refine ⟨_, rfl, ?_⟩))
  go_ret
  exact ⟨by first | rfl | (simp [errW_none, errW_some] <;> rfl) | (simp [*, errW_none, errW_some] <;> rfl), by repeat (first | (with_reducible first | exact HB.out | apply below_alloc | apply pw_below_drewN | apply below_drew1) | exact HB.out)⟩
 ·rw [if_neg c3] at H
  have c3b0 : (a0 == 3) = false := beq_eq_false_iff_ne.mpr c3
  have c3b1 : (a0 != 3) = true := bne_iff_ne.mpr c3
  obtain rfl := Option.some.inj H
  go_enter Try.func54, Try.ntmps54
  go_wp2_with (first | ((with_reducible refine gate_dst (N := 4) rfl ?_); refine Kd.R_lit (Kd.int .i64) _ 3 ?hg (N := 4) ?hd (xs := ([0, 4, 2, 6] : List Int)) (inner := [.int .i64 0, .int .i64 4, .int .i64 2, .int .i64 6]) (ok := fun _ => True) (okp := fun _ => True) ?hr ?hp (fun _ hk => hk) trivial (Below.refl _ _) (Nat.le_refl _) (by simp) ?_; (case hd => rfl); (case hg => rfl); (case hr => first | (go_simp; done) | (go_simp; rfl)); (case hp => exact (Reps.one (show Kd.M (Kd.int .i64) _ _ _ 0 [.int .i64 0] from rfl) (Reps.one (show Kd.M (Kd.int .i64) _ _ _ 4 [.int .i64 4] from rfl) (Reps.one (show Kd.M (Kd.int .i64) _ _ _ 2 [.int .i64 2] from rfl) (Reps.one (show Kd.M (Kd.int .i64) _ _ _ 6 [.int .i64 6] from rfl) (Reps.none _ _)))))); intro v120 w7 ho8 hb hg_ hnew_; clear hg_ hnew_; (first | rw [← Ny119.out] at ho8 | (simp only [Int.reduceToNat] at ho8; rw [← Ny119.out] at ho8)); have n0_ := Aside0.mk (Kd.R_lower ho8 (below_size (hz HB))); have n1_ := Aside0.mk (below_step (hz HB) hb); clear HB; have HO121 := n0_; have HB := n1_; clear n0_ n1_; clear hb ho8; obtain ⟨Ao9, co9, eo9⟩ := Kd.R_slice HO121.out; subst eo9) | ((with_reducible refine gate_callee (f := 53) rfl ?_); refine gz 6 Try.func53 #[.slice Ao9 y119.length co9, .int .i64 a0] ?_; (with_reducible refine (slices_Index_int_int.calls k _ _ y119 a0 t122 _ ?side1 ?side2 A2.out).mono ?_); (case side1 => repeat (first | exact (Kd.R_reads' HO121.out).2.2 | (with_reducible refine Kd.C_alloc ?_ _) | (with_reducible refine Kd.C_drewN ?_ _) | (with_reducible refine Kd.C_drew ?_))); (case side2 => exact (Kd.R_reads' HO121.out).2.1); rintro e w' ⟨rfl, ⟨nd, rfl⟩⟩; refine ⟨_, rfl, ?_⟩))
  go_ret
  exact ⟨by first | rfl | (simp [errW_none, errW_some] <;> rfl) | (simp [*, errW_none, errW_some] <;> rfl), by repeat (first | (with_reducible first | exact HB.out | apply below_alloc | apply pw_below_drewN | apply below_drew1) | exact HB.out)⟩

def lace_Row.j0 : Nat → Int → Bool → Int → Int → Int → Int → Int → Option (Int)
 | 0, _, _, _, _, _, _, _ => none
 | k + 1, x1, x16, x124000, x124001, x124002, x124003, x124004 => if x16 = true then (some 0) else ((head_Samples.f k x124003).bind fun t125 => (some ((wrap64 ((wrap64 ((wrap64 (x124002 * t125)) * x1)) + 7)) / 8)))
def lace_Row.f (k : Nat) (a0_0 : Int) (a0_1 : Int) (a0_2 : Int) (a0_3 : Int) (a0_4 : Int) (a1 : Int) : Option (Int) := if a1 < 1 then (lace_Row.j0 k a1 true a0_0 a0_1 a0_2 a0_3 a0_4) else (if a1 > 1024 then (lace_Row.j0 k a1 true a0_0 a0_1 a0_2 a0_3 a0_4) else ((head_Right.f k a0_0 a0_1 a0_2 a0_3 a0_4).bind fun t124 => (lace_Row.j0 k a1 (t124 != 0) a0_0 a0_1 a0_2 a0_3 a0_4)))
theorem lace_Row.mono_l : ∀ k, (∀ y0 y1 y2 y3 y4 y5 y6, LeO (lace_Row.j0 k y0 y1 y2 y3 y4 y5 y6) (lace_Row.j0 (k + 1) y0 y1 y2 y3 y4 y5 y6))
 | 0 => fun _ _ _ _ _ _ _ r h => by simp [lace_Row.j0] at h
 | k + 1 => by
  have ih0 := lace_Row.mono_l k
  ·intro y0 y1 y2 y3 y4 y5 y6
   unfold lace_Row.j0
   repeat' first
   | (with_reducible exact ih0 _ _ _ _ _ _ _)
   | (with_reducible exact head_Right.mono _ _ _ _ _ _)
   | (with_reducible exact head_Samples.mono _ _)
   | (with_reducible exact LeO.refl _)
   | (with_reducible exact LeO.none _)
   | (with_reducible refine LeO.ite ?_ ?_)
   | (with_reducible refine LeO.bind ?_ (fun _ => ?_))
   | exact ih0 _ _ _ _ _ _ _
   | exact head_Right.mono _ _ _ _ _ _
   | exact head_Samples.mono _ _
   | exact LeO.none _
   | refine LeO.ite ?_ ?_
   | refine LeO.bind ?_ (fun _ => ?_)
theorem lace_Row.mono : ∀ a0 a1 a2 a3 a4 a5 k, LeO (lace_Row.f k a0 a1 a2 a3 a4 a5) (lace_Row.f (k + 1) a0 a1 a2 a3 a4 a5) := by
 intro a0 a1 a2 a3 a4 a5 k
 have ih0 := lace_Row.mono_l k
 unfold lace_Row.f
 repeat' first
   | (with_reducible exact ih0 _ _ _ _ _ _ _)
   | (with_reducible exact head_Right.mono _ _ _ _ _ _)
   | (with_reducible exact head_Samples.mono _ _)
   | (with_reducible exact LeO.refl _)
   | (with_reducible exact LeO.none _)
   | (with_reducible refine LeO.ite ?_ ?_)
   | (with_reducible refine LeO.bind ?_ (fun _ => ?_))
   | exact ih0 _ _ _ _ _ _ _
   | exact head_Right.mono _ _ _ _ _ _
   | exact head_Samples.mono _ _
   | exact LeO.none _
   | refine LeO.ite ?_ ?_
   | refine LeO.bind ?_ (fun _ => ?_)
def lace_Row.T3 : Bool × List (List Nat × List Nat) := (true, [([], []), ([0], [0]), ([], []), ([2], [2]), ([3], [3]), ([1, 4], [1, 4]), ([], []), ([5, 6], [5, 6]), ([7, 4, 0, 1, 2, 3, 4, 5, 6, 7], [7])])
def lace_Row.B3 : List Nat := [0, 1, 0, 4, 12, 31, 0, 127, 255]
theorem lace_Row.tab3 : rtab .any (opsOf Try.f39 3) = lace_Row.T3 := by kernel_rfl
theorem lace_Row.bits3 : waitsOk lace_Row.T3.2 lace_Row.B3 = true := by kernel_rfl
set_option maxHeartbeats 40000000 in
set_option maxRecDepth 100000 in
theorem lace_Row.calls (k : Nat) (a0_0 : Int) (a0_1 : Int) (a0_2 : Int) (a0_3 : Int) (a0_4 : Int) (a1 : Int) (r : Int) (w : World) (h : lace_Row.f k a0_0 a0_1 a0_2 a0_3 a0_4 a1 = some r) :
  Calls Try.prog 39 #[.agg #[.int .i64 a0_0, .int .i64 a0_1, .int .i64 a0_2, .int .i64 a0_3, .int .i64 a0_4], .int .i64 a1] w fun e w' => e = .returned (.int .i64 r) ∧ Below w.heap.size w w' := by
 have hu29 := Try.underlying29
 have HB := Aside0.mk (Below.refl w.heap.size w)
 have H : (if a1 < 1 then (lace_Row.j0 k a1 true a0_0 a0_1 a0_2 a0_3 a0_4) else (if a1 > 1024 then (lace_Row.j0 k a1 true a0_0 a0_1 a0_2 a0_3 a0_4) else ((head_Right.f k a0_0 a0_1 a0_2 a0_3 a0_4).bind fun t124 => (lace_Row.j0 k a1 (t124 != 0) a0_0 a0_1 a0_2 a0_3 a0_4)))) = some r := h
 clear h
 have HC3 := Aside0.mk H
 clear H
 go_enter Try.func39, Try.ntmps39
 go_upto_region 1 with (first | ((with_reducible refine gate_dst (N := 2) rfl ?_); refine box_event ?hg (N := 2) ?hd (cs := #[.int .i64 a0_0, .int .i64 a0_1, .int .i64 a0_2, .int .i64 a0_3, .int .i64 a0_4]) (t := 29) ?hr ?_; (case hd => rfl); (case hg => rfl); (case hr => first | (go_simp; done) | (go_simp; rfl)); intro gb123 hg w4 hbox hb; have n0_ := Aside0.mk (below_step (hz HB) hb); have n1_ := Aside0.mk (hbox); have n2_ := Aside0.mk ((by rw [hg]; exact (below_size (hz HB)) : w.heap.size ≤ gb123)); have n3_ := Aside0.mk ((by rw [hg]; exact (below_size (hz HB)) : w.heap.size ≤ gb123)); clear HB; have HB := n0_; have BK123 := n1_; have GW123 := n2_; have GE123 := n3_; clear n0_ n1_ n2_ n3_; clear hb hbox hg))
 (try simp only [Act.put, List.setIfInBounds_toArray, List.set_cons_zero, List.set_cons_succ])
 go_cut [16] (fun v16 wc => ∃ (kq : Nat) (x16_2 : Bool), v16 = .bool x16_2 ∧ Aside0 (lace_Row.j0 kq a1 x16_2 a0_0 a0_1 a0_2 a0_3 a0_4 = some r) ∧ Aside0 (kq ≤ k) ∧ Aside0 (wc.heap[gb123]? = some (.cells #[.int .i64 a0_0, .int .i64 a0_1, .int .i64 a0_2, .int .i64 a0_3, .int .i64 a0_4] 29 (0, 0))) ∧ Aside0 (Below w.heap.size w wc))
 case first =>
  have H := HC3.out
  clear HC3
  by_cases c5 : a1 < 1
  ·rw [if_pos c5] at H
   have c5b0 : decide (a1 < 1) = true := decide_eq_true c5
   clear c5
   (first | rw [c5b0] | (simp only [i64_w, i32_w]; rw [c5b0]) | skip)
   have H' := Aside0.mk H
   clear H
   go_wp2
   go_meet
   case rel => exact ⟨_, (true), (by first | rfl | (simp; done) | (simp [*]; done)), H', ⟨by first | omega | exact Nat.le_refl _⟩, ⟨kz BK123⟩, ⟨hz HB⟩⟩
  ·rw [if_neg c5] at H
   have c5b0 : decide (a1 < 1) = false := decide_eq_false c5
   clear c5
   (first | rw [c5b0] | (simp only [i64_w, i32_w]; rw [c5b0]) | skip)
   by_cases c6 : a1 > 1024
   ·rw [if_pos c6] at H
    have c6b0 : decide (1024 < a1) = true := decide_eq_true c6
    clear c6
    have H' := Aside0.mk H
    clear H
    go_wp2
    go_meet
    case rel => exact ⟨_, (true), (by first | rfl | (simp; done) | (simp [*]; done)), H', ⟨by first | omega | exact Nat.le_refl _⟩, ⟨kz BK123⟩, ⟨hz HB⟩⟩
   ·rw [if_neg c6] at H
    have c6b0 : decide (1024 < a1) = false := decide_eq_false c6
    clear c6
    replace H := Option.bind_eq_some_iff.mp H
    obtain ⟨t124, A70, H⟩ := H
    replace H : (lace_Row.j0 k a1 (t124 != 0) a0_0 a0_1 a0_2 a0_3 a0_4) = some r := H
    have A7 := Aside0.mk A70
    clear A70
    have H' := Aside0.mk H
    clear H
    have hcz8_0 : w4.cell? ⟨gb123, 0, none⟩ = some (.int .i64 a0_0) := (blk_cell BK123.out 0).trans rfl
    have hcz8_1 : w4.cell? ⟨gb123, 1, none⟩ = some (.int .i64 a0_1) := (blk_cell BK123.out 1).trans rfl
    have hcz8_2 : w4.cell? ⟨gb123, 2, none⟩ = some (.int .i64 a0_2) := (blk_cell BK123.out 2).trans rfl
    have hcz8_3 : w4.cell? ⟨gb123, 3, none⟩ = some (.int .i64 a0_3) := (blk_cell BK123.out 3).trans rfl
    have hcz8_4 : w4.cell? ⟨gb123, 4, none⟩ = some (.int .i64 a0_4) := (blk_cell BK123.out 4).trans rfl
    have hfz8_0 := blk_frozen BK123.out 0
    have hfz8_1 := blk_frozen BK123.out 1
    have hfz8_2 := blk_frozen BK123.out 2
    have hfz8_3 := blk_frozen BK123.out 3
    have hfz8_4 := blk_frozen BK123.out 4
    go_wp2_with (first | (go_at_call 18; (with_reducible refine (head_Right.calls k a0_0 a0_1 a0_2 a0_3 a0_4 t124 _ A7.out).mono ?_); rintro e w9 ⟨rfl, hb⟩; have n0_ := Aside0.mk (blk_below (g := gb123) (o := .cells #[.int .i64 a0_0, .int .i64 a0_1, .int .i64 a0_2, .int .i64 a0_3, .int .i64 a0_4] 29 (0, 0)) (kz BK123) hb); have n1_ := Aside0.mk (below_step (hz HB) hb); clear BK123; clear HB; have BK123 := n0_; have HB := n1_; clear n0_ n1_; (try clear hb); (try clear hb2); (try clear hk); (try clear hi)))
    go_meet
    case rel => exact ⟨_, ((t124 != 0)), (by first | rfl | (simp; done) | (simp [*]; done)), H', ⟨by first | omega | exact Nat.le_refl _⟩, ⟨kz BK123⟩, ⟨hz HB⟩⟩
 case rest =>
  clear HC3
  obtain ⟨kq, x16_2, rfl, HA, HJ2, BK123, HB⟩ := hcut
  cases kq with
  | zero => exact absurd HA.out (by simp [lace_Row.j0])
  | succ kj2 =>
   have H := HA.out
   clear HA
   simp only [lace_Row.j0] at H
   by_cases c10 : x16_2 = true
   ·subst c10
    have H1 : (some 0) = some r := by rw [if_pos rfl] at H; exact H
    clear H
    have H := H1
    clear H1
    obtain rfl := Option.some.inj H
    go_wp2
    go_ret
    exact ⟨by first | rfl | (simp [errW_none, errW_some] <;> rfl) | (simp [*, errW_none, errW_some] <;> rfl), by repeat (first | (with_reducible first | exact HB.out | apply below_alloc | apply pw_below_drewN | apply below_drew1 | refine below_set ?_ GE123.out) | exact HB.out)⟩
   ·replace c10 := Bool.eq_false_iff.mpr c10
    subst c10
    have H1 : ((head_Samples.f kj2 a0_3).bind fun t125 => (some ((wrap64 ((wrap64 ((wrap64 (a0_2 * t125)) * a1)) + 7)) / 8))) = some r := by rw [if_neg (show ¬ (false = true) by decide)] at H; exact H
    clear H
    have H := H1
    clear H1
    replace H := Option.bind_eq_some_iff.mp H
    obtain ⟨t125, A110, H⟩ := H
    replace H : (some ((wrap64 ((wrap64 ((wrap64 (a0_2 * t125)) * a1)) + 7)) / 8)) = some r := H
    have A11 := Aside0.mk A110
    clear A110
    obtain rfl := Option.some.inj H
    try go_wp2
    have n0_ := Aside0.mk (blk_drew BK123.out)
    have n1_ := Aside0.mk (below_drew1 HB.out)
    clear BK123
    clear HB
    have BK123 := n0_
    have HB := n1_
    clear n0_ n1_
    refine start_ (n := 9) (S := fun w' => w'.cell? ⟨gb123, 0, none⟩ = some (.int .i64 a0_0) ∧ w'.cell? ⟨gb123, 1, none⟩ = some (.int .i64 a0_1) ∧ w'.cell? ⟨gb123, 2, none⟩ = some (.int .i64 a0_2) ∧ w'.cell? ⟨gb123, 3, none⟩ = some (.int .i64 a0_3) ∧ w'.cell? ⟨gb123, 4, none⟩ = some (.int .i64 a0_4)) (ds := []) (bm 9 0) (by kernel_rfl) rfl rfl ⟨(blk_cell BK123.out 0).trans rfl, (blk_cell BK123.out 1).trans rfl, (blk_cell BK123.out 2).trans rfl, (blk_cell BK123.out 3).trans rfl, (blk_cell BK123.out 4).trans rfl⟩ (fun hHeld => ?_); refine with_tabW lace_Row.tab3 lace_Row.bits3 (fun HT_ HW_ => ?_)
    generalize wc.drew = w12 at BK123 HB hHeld ⊢
    refine zp 0 17 (bm 9 1) ?_
    refine zp 2 19 (bm 9 5) ?_
    refine zp 6 23 (bm 9 69) ?_
    refine zt 1 18 (bm 9 71) rfl (by rintro w' ⟨s0, s1, s2, s3, s4⟩; go_simp; with_reducible rfl) ?_
    refine zt 3 20 (bm 9 79) rfl (by rintro w' ⟨s0, s1, s2, s3, s4⟩; go_simp; with_reducible rfl) ?_
    refine one_ (i := 4) (N := some 21) (bm 9 95) rfl rfl (one_of HT_.out (by kernel_rfl)) (by decide) (fun K hK => ?_)
    refine goes_ Try.func54 (by kernel_rfl) rfl #[.int .i64 a0_3] (by rfl) rfl rfl (by (try simp only [List.map_toArray, List.map_cons, List.map_nil]); first | done | rfl | (simp only [List.length_drop, List.length_take]; rfl) | (simp only [ByteArray.size_extract, Nat.min_self]; done) | (simp only [ByteArray.size_extract, Nat.min_self]; rfl)) ?_
    with_reducible refine (head_Samples.calls kj2 a0_3 t125 _ A11.out).mono ?_
    rintro e w13 ⟨rfl, hb⟩
    refine ⟨_, rfl, ?_⟩
    have n0_ := Aside0.mk (blk_below (g := gb123) (o := .cells #[.int .i64 a0_0, .int .i64 a0_1, .int .i64 a0_2, .int .i64 a0_3, .int .i64 a0_4] 29 (0, 0)) (kz BK123) hb)
    have n1_ := Aside0.mk (below_step (hz HB) hb)
    clear BK123
    clear HB
    have BK123 := n0_
    have HB := n1_
    clear n0_ n1_
    (try clear hb)
    refine hK.out _ _ ⟨(blk_cell BK123.out 0).trans rfl, (blk_cell BK123.out 1).trans rfl, (blk_cell BK123.out 2).trans rfl, (blk_cell BK123.out 3).trans rfl, (blk_cell BK123.out 4).trans rfl⟩ (fun hHeld => ?_)
    clear hK K
    refine norm_ (a' := ?_) ?_ ?_
    rotate_left
    ·show Act.put _ (some 21) _ = _
     simp only [Act.put, zq1, zq2, zq3, i64_w, i32_w]
     rfl
    refine zp 5 22 (bm 9 127) ?_
    refine zp 7 24 (bm 9 255) ?_
    refine zp 8 5 (bm 9 511) ?_
    refine done_ (done_of HT_.out (by kernel_rfl)) ?_
    try go_wp2
    go_ret
    exact ⟨by first | rfl | (simp [errW_none, errW_some] <;> rfl) | (simp [*, errW_none, errW_some] <;> rfl), by repeat (first | (with_reducible first | exact HB.out | apply below_alloc | apply pw_below_drewN | apply below_drew1 | refine below_set ?_ GE123.out) | exact HB.out)⟩

end Go.Proofs.Ytejljcglbkjgkaa.PL12

namespace Go.Proofs.Ytejljcglbkjgkaa.PL12
open Go.RowKit Go.Proofs.YtejljcglbkjgkaaW.PrintWords Go.Proofs.YtejljcglbkjgkaaW.PrintLast Go.Proofs.YtejljcglbkjgkaaW.PrintMore
attribute [local go_sem] max2_int min2_int max_two min_two max_three min_three max_four min_four   -- for this text's walks alone
set_option linter.unusedVariables false
set_option linter.unusedSimpArgs false

def lace_Size.l0 : Nat → Int → List (S53) → Int → Int → Int → Int → Int → Int → Int → Option (Int)
 | 0, _, _, _, _, _, _, _, _, _ => none
 | k + 1, x3, x7, x8, x9, x127000, x127001, x127002, x127003, x127004 => if x9 < x8 then (if 0 ≤ x9 then (if x9 < (x7.length : Int) then ((lace_Row.f k x127000 x127001 x127002 x127003 x127004 ((rd_T53 x7 x9).f4)).bind fun t132 => (lace_Size.l0 k (wrap64 (x3 + (wrap64 (((rd_T53 x7 x9).f5) + (wrap64 (((rd_T53 x7 x9).f5) * t132)))))) x7 x8 (wrap64 (x9 + 1)) x127000 x127001 x127002 x127003 x127004)) else (none)) else (none)) else (some x3)
def lace_Size.f (k : Nat) (a0_0 : Int) (a0_1 : Int) (a0_2 : Int) (a0_3 : Int) (a0_4 : Int) : Option (Int) := (lace_Passes.f k a0_0 a0_1 a0_2 a0_3 a0_4).bind fun t127 => (lace_Size.l0 k 0 t127 (t127.length : Int) 0 a0_0 a0_1 a0_2 a0_3 a0_4)
theorem lace_Size.mono_l : ∀ k, (∀ y0 y1 y2 y3 y4 y5 y6 y7 y8, LeO (lace_Size.l0 k y0 y1 y2 y3 y4 y5 y6 y7 y8) (lace_Size.l0 (k + 1) y0 y1 y2 y3 y4 y5 y6 y7 y8))
 | 0 => fun _ _ _ _ _ _ _ _ _ r h => by simp [lace_Size.l0] at h
 | k + 1 => by
  have ih0 := lace_Size.mono_l k
  ·intro y0 y1 y2 y3 y4 y5 y6 y7 y8
   unfold lace_Size.l0
   repeat' first
   | (with_reducible exact ih0 _ _ _ _ _ _ _ _ _)
   | (with_reducible exact lace_Passes.mono _ _ _ _ _ _)
   | (with_reducible exact lace_Row.mono _ _ _ _ _ _ _)
   | (with_reducible exact LeO.refl _)
   | (with_reducible exact LeO.none _)
   | (with_reducible refine LeO.ite ?_ ?_)
   | (with_reducible refine LeO.bind ?_ (fun _ => ?_))
   | exact ih0 _ _ _ _ _ _ _ _ _
   | exact lace_Passes.mono _ _ _ _ _ _
   | exact lace_Row.mono _ _ _ _ _ _ _
   | exact LeO.none _
   | refine LeO.ite ?_ ?_
   | refine LeO.bind ?_ (fun _ => ?_)
theorem lace_Size.mono : ∀ a0 a1 a2 a3 a4 k, LeO (lace_Size.f k a0 a1 a2 a3 a4) (lace_Size.f (k + 1) a0 a1 a2 a3 a4) := by
 intro a0 a1 a2 a3 a4 k
 have ih0 := lace_Size.mono_l k
 unfold lace_Size.f
 repeat' first
   | (with_reducible exact ih0 _ _ _ _ _ _ _ _ _)
   | (with_reducible exact lace_Passes.mono _ _ _ _ _ _)
   | (with_reducible exact lace_Row.mono _ _ _ _ _ _ _)
   | (with_reducible exact LeO.refl _)
   | (with_reducible exact LeO.none _)
   | (with_reducible refine LeO.ite ?_ ?_)
   | (with_reducible refine LeO.bind ?_ (fun _ => ?_))
   | exact ih0 _ _ _ _ _ _ _ _ _
   | exact lace_Passes.mono _ _ _ _ _ _
   | exact lace_Row.mono _ _ _ _ _ _ _
   | exact LeO.none _
   | refine LeO.ite ?_ ?_
   | refine LeO.bind ?_ (fun _ => ?_)
def lace_Size.T5 : Bool × List (List Nat × List Nat) := (true, [([], []), ([], []), ([1], [1]), ([], []), ([3], [3]), ([], []), ([], []), ([6], [6]), ([5, 7], [5, 7]), ([4, 8], [4, 8]), ([2, 9], [2, 9]), ([0, 10], [0, 10]), ([11, 8, 0, 1, 2, 3, 4, 5, 6, 7, 8, 9, 10, 11], [0, 11])])
def lace_Size.B5 : List Nat := [0, 0, 2, 0, 8, 0, 0, 64, 224, 504, 1022, 2047, 4095]
theorem lace_Size.tab5 : rtab .any (opsOf Try.f21 5) = lace_Size.T5 := by kernel_rfl
theorem lace_Size.bits5 : waitsOk lace_Size.T5.2 lace_Size.B5 = true := by kernel_rfl
set_option maxHeartbeats 40000000 in
set_option maxRecDepth 100000 in
theorem lace_Size.calls (k : Nat) (a0_0 : Int) (a0_1 : Int) (a0_2 : Int) (a0_3 : Int) (a0_4 : Int) (r : Int) (w : World) (h : lace_Size.f k a0_0 a0_1 a0_2 a0_3 a0_4 = some r) :
  Calls Try.prog 21 #[.agg #[.int .i64 a0_0, .int .i64 a0_1, .int .i64 a0_2, .int .i64 a0_3, .int .i64 a0_4]] w fun e w' => e = .returned (.int .i64 r) ∧ Below w.heap.size w w' := by
 have hu29 := Try.underlying29
 have hu53 := Try.underlying53
 have HB := Aside0.mk (Below.refl w.heap.size w)
 have H : ((lace_Passes.f k a0_0 a0_1 a0_2 a0_3 a0_4).bind fun t127 => (lace_Size.l0 k 0 t127 (t127.length : Int) 0 a0_0 a0_1 a0_2 a0_3 a0_4)) = some r := h
 clear h
 replace H := Option.bind_eq_some_iff.mp H
 obtain ⟨t127, A20, H⟩ := H
 replace H : (lace_Size.l0 k 0 t127 (t127.length : Int) 0 a0_0 a0_1 a0_2 a0_3 a0_4) = some r := H
 have A2 := Aside0.mk A20
 clear A20
 have H' := Aside0.mk H
 clear H
 go_enter Try.func21, Try.ntmps21
 go_wp2_with (first | ((with_reducible refine gate_dst (N := 1) rfl ?_); refine box_event ?hg (N := 1) ?hd (cs := #[.int .i64 a0_0, .int .i64 a0_1, .int .i64 a0_2, .int .i64 a0_3, .int .i64 a0_4]) (t := 29) ?hr ?_; (case hd => rfl); (case hg => rfl); (case hr => first | (go_simp; done) | (go_simp; rfl)); intro gb126 hg w3 hbox hb; have n0_ := Aside0.mk (below_step (hz HB) hb); have n1_ := Aside0.mk (hbox); have n2_ := Aside0.mk ((by rw [hg]; exact (below_size (hz HB)) : w.heap.size ≤ gb126)); have n3_ := Aside0.mk ((by rw [hg]; exact (below_size (hz HB)) : w.heap.size ≤ gb126)); clear HB; have HB := n0_; have BK126 := n1_; have GW126 := n2_; have GE126 := n3_; clear n0_ n1_ n2_ n3_; clear hb hbox hg; have hcz4_0 : w3.cell? ⟨gb126, 0, none⟩ = some (.int .i64 a0_0) := (blk_cell BK126.out 0).trans rfl; have hcz4_1 : w3.cell? ⟨gb126, 1, none⟩ = some (.int .i64 a0_1) := (blk_cell BK126.out 1).trans rfl; have hcz4_2 : w3.cell? ⟨gb126, 2, none⟩ = some (.int .i64 a0_2) := (blk_cell BK126.out 2).trans rfl; have hcz4_3 : w3.cell? ⟨gb126, 3, none⟩ = some (.int .i64 a0_3) := (blk_cell BK126.out 3).trans rfl; have hcz4_4 : w3.cell? ⟨gb126, 4, none⟩ = some (.int .i64 a0_4) := (blk_cell BK126.out 4).trans rfl; have hfz4_0 := blk_frozen BK126.out 0; have hfz4_1 := blk_frozen BK126.out 1; have hfz4_2 := blk_frozen BK126.out 2; have hfz4_3 := blk_frozen BK126.out 3; have hfz4_4 := blk_frozen BK126.out 4) | ((with_reducible refine gate_callee (f := 22) rfl ?_); refine gz 7 Try.func22 #[.agg #[.int .i64 a0_0, .int .i64 a0_1, .int .i64 a0_2, .int .i64 a0_3, .int .i64 a0_4]] ?_; (with_reducible refine (lace_Passes.calls k a0_0 a0_1 a0_2 a0_3 a0_4 t127 _ A2.out).mono ?_); rintro e w5 ⟨v128, rfl, ho0, hb⟩; refine ⟨_, rfl, ?_⟩; have n0_ := Aside0.mk (Kd.R_lower ho0 (below_size (hz HB))); have n1_ := Aside0.mk (blk_below (g := gb126) (o := .cells #[.int .i64 a0_0, .int .i64 a0_1, .int .i64 a0_2, .int .i64 a0_3, .int .i64 a0_4] 29 (0, 0)) (kz BK126) hb); have n2_ := Aside0.mk (below_step (hz HB) hb); clear BK126; clear HB; have HO129 := n0_; have BK126 := n1_; have HB := n2_; clear n0_ n1_ n2_; (try clear hb); (try clear hb2); (try clear hk); (try clear hi); (try clear ho0); obtain ⟨Ao6, co6, eo6⟩ := Kd.R_slice HO129.out; subst eo6))
 go_loopg [3, 9] k (fun kq v3 v9 w' => ∃ (x3_1 : Int) (x9_1 : Int), v3 = .int .i64 x3_1 ∧ v9 = .int .i64 x9_1 ∧ Aside0 (lace_Size.l0 kq x3_1 t127 (t127.length : Int) x9_1 a0_0 a0_1 a0_2 a0_3 a0_4 = some r) ∧ Aside0 (kq ≤ k) ∧ Aside0 (Kd.R k53 53 w' w.heap.size (fun _ => True) (.slice Ao6 t127.length co6) t127) ∧ Aside0 (w'.heap[gb126]? = some (.cells #[.int .i64 a0_0, .int .i64 a0_1, .int .i64 a0_2, .int .i64 a0_3, .int .i64 a0_4] 29 (0, 0))) ∧ Aside0 (Below w.heap.size w w'))
 case atStart => exact ⟨(0), (0), (by first | rfl | (simp; done) | (simp [*]; done)), (by first | rfl | (simp; done) | (simp [*]; done)), H', ⟨Nat.le_refl _⟩, ⟨oz HO129⟩, ⟨kz BK126⟩, ⟨hz HB⟩⟩
 case round =>
  clear H'
  try clear hcz4_0
  try clear hcz4_1
  try clear hcz4_2
  try clear hcz4_3
  try clear hcz4_4
  try clear hfz4_0
  try clear hfz4_1
  try clear hfz4_2
  try clear hfz4_3
  try clear hfz4_4
  obtain ⟨x3_1, x9_1, rfl, rfl, HA, HK1, HO_7, BK126, HB⟩ := hrel
  cases gk with
  | zero => exact absurd HA.out (by simp [lace_Size.l0])
  | succ k1 =>
   have H := HA.out
   clear HA
   simp only [lace_Size.l0] at H
   by_cases c7 : x9_1 < (t127.length : Int)
   ·rw [if_pos c7] at H
    have c7b0 : decide (x9_1 < (t127.length : Int)) = true := decide_eq_true c7
    clear c7
    by_cases c8 : 0 ≤ x9_1
    ·rw [if_pos c8] at H
     have c8b0 : decide (0 ≤ x9_1) = true := decide_eq_true c8
     clear c8
     by_cases c9 : x9_1 < (t127.length : Int)
     ·rw [if_pos c9] at H
      have c9b0 : decide (x9_1 < (t127.length : Int)) = true := decide_eq_true c9
      clear c9
      replace H := Option.bind_eq_some_iff.mp H
      obtain ⟨t132, A100, H⟩ := H
      replace H : (lace_Size.l0 k1 (wrap64 (x3_1 + (wrap64 (((rd_T53 t127 x9_1).f5) + (wrap64 (((rd_T53 t127 x9_1).f5) * t132)))))) t127 (t127.length : Int) (wrap64 (x9_1 + 1)) a0_0 a0_1 a0_2 a0_3 a0_4) = some r := H
      have A10 := Aside0.mk A100
      clear A100
      have H' := Aside0.mk H
      clear H
      have p130 : 0 ≤ (x9_1 : Int) := of_decide_eq_true (by first | (with_reducible assumption) | assumption)
      have q130 : x9_1 < (t127.length : Int) := of_decide_eq_true (by first | (with_reducible assumption) | assumption)
      obtain ⟨ad130, e130, hx130_0, hx130_1, hx130_2, hx130_3, hx130_4, hx130_5⟩ := at_T53 (Kd.R_reads' HO_7.out).2.2 x9_1 p130 q130
      cases e130
      replace p130 := eq_true p130
      replace q130 := eq_true q130
      try go_wp2_with (first | ((with_reducible refine gate_dst (N := 5) rfl ?_); refine box_event ?hg (N := 5) ?hd (cs := #[.int .i64 0, .int .i64 0, .int .i64 0, .int .i64 0, .int .i64 0, .int .i64 0]) (t := 53) ?hr ?_; (case hd => rfl); (case hg => rfl); (case hr => first | (go_simp; done) | (go_simp; rfl)); intro gb131 hg w11 hbox hb; have n0_ := Aside0.mk (Kd.R_below (Kd.R_elderB (oz HO_7) gb131 (Nat.le_of_eq hg.symm)) hb); have n1_ := Aside0.mk (blk_below (g := gb126) (o := .cells #[.int .i64 a0_0, .int .i64 a0_1, .int .i64 a0_2, .int .i64 a0_3, .int .i64 a0_4] 29 (0, 0)) (kz BK126) hb); have n2_ := Aside0.mk (below_step (hz HB) hb); have n3_ := Aside0.mk (hbox); have n4_ := Aside0.mk ((by rw [hg]; exact (below_size (hz HB)) : w.heap.size ≤ gb131)); have n5_ := Aside0.mk ((by rw [hg]; exact (below_size (hz HB)) : w.heap.size ≤ gb131)); have n6_ := Aside0.mk ((by rw [hg]; exact Nat.ne_of_lt (blk_lt (g := gb126) (o := .cells #[.int .i64 a0_0, .int .i64 a0_1, .int .i64 a0_2, .int .i64 a0_3, .int .i64 a0_4] 29 (0, 0)) (kz BK126)) : gb126 ≠ gb131)); have n7_ := Aside0.mk ((by rw [hg]; exact Nat.ne_of_gt (blk_lt (g := gb126) (o := .cells #[.int .i64 a0_0, .int .i64 a0_1, .int .i64 a0_2, .int .i64 a0_3, .int .i64 a0_4] 29 (0, 0)) (kz BK126)) : gb131 ≠ gb126)); clear HO_7; clear BK126; clear HB; have HO_7 := n0_; have BK126 := n1_; have HB := n2_; have BK131 := n3_; have GW131 := n4_; have GE131 := n5_; have NB126_131 := n6_; have NB131_126 := n7_; clear n0_ n1_ n2_ n3_ n4_ n5_ n6_ n7_; clear hb hbox hg; have hnb12 := NB131_126.out; have hnc12 := NB126_131.out; have hcz13_0 : w11.cell? ⟨gb131, 0, none⟩ = some (.int .i64 0) := (blk_cell BK131.out 0).trans rfl; have hcz13_1 : w11.cell? ⟨gb131, 1, none⟩ = some (.int .i64 0) := (blk_cell BK131.out 1).trans rfl; have hcz13_2 : w11.cell? ⟨gb131, 2, none⟩ = some (.int .i64 0) := (blk_cell BK131.out 2).trans rfl; have hcz13_3 : w11.cell? ⟨gb131, 3, none⟩ = some (.int .i64 0) := (blk_cell BK131.out 3).trans rfl; have hcz13_4 : w11.cell? ⟨gb131, 4, none⟩ = some (.int .i64 0) := (blk_cell BK131.out 4).trans rfl; have hcz13_5 : w11.cell? ⟨gb131, 5, none⟩ = some (.int .i64 0) := (blk_cell BK131.out 5).trans rfl; have hfz13_0 := blk_frozen BK131.out 0; have hfz13_1 := blk_frozen BK131.out 1; have hfz13_2 := blk_frozen BK131.out 2; have hfz13_3 := blk_frozen BK131.out 3; have hfz13_4 := blk_frozen BK131.out 4; have hfz13_5 := blk_frozen BK131.out 5))
      have n0_ : Aside0 (Kd.R k53 53 ((((((w11.setCell ⟨gb131, 0, none⟩ (.int .i64 ((rd_T53 t127 x9_1).f0))).setCell ⟨gb131, 1, none⟩ (.int .i64 ((rd_T53 t127 x9_1).f1))).setCell ⟨gb131, 2, none⟩ (.int .i64 ((rd_T53 t127 x9_1).f2))).setCell ⟨gb131, 3, none⟩ (.int .i64 ((rd_T53 t127 x9_1).f3))).setCell ⟨gb131, 4, none⟩ (.int .i64 ((rd_T53 t127 x9_1).f4))).setCell ⟨gb131, 5, none⟩ (.int .i64 ((rd_T53 t127 x9_1).f5))) w.heap.size (fun k_ => k_ ≠ gb131) (.slice (some ad130) t127.length co6) t127) := ⟨by (with_reducible repeat (first | apply Kd.R_alloc | apply Kd.R_drewN | apply Kd.R_drew)); exact Kd.R_mono (Kd.R_far (p := ⟨gb131, 5, none⟩) (Kd.R_far (p := ⟨gb131, 4, none⟩) (Kd.R_far (p := ⟨gb131, 3, none⟩) (Kd.R_far (p := ⟨gb131, 2, none⟩) (Kd.R_far (p := ⟨gb131, 1, none⟩) (Kd.R_far (p := ⟨gb131, 0, none⟩) (Kd.R_mono HO_7.out (fun k_ hk => (⟨hk, hk.2⟩ : _ ∧ k_ ≠ gb131))) (fun _ hk => hk.2) (.int .i64 ((rd_T53 t127 x9_1).f0))) (fun _ hk => hk.2) (.int .i64 ((rd_T53 t127 x9_1).f1))) (fun _ hk => hk.2) (.int .i64 ((rd_T53 t127 x9_1).f2))) (fun _ hk => hk.2) (.int .i64 ((rd_T53 t127 x9_1).f3))) (fun _ hk => hk.2) (.int .i64 ((rd_T53 t127 x9_1).f4))) (fun _ hk => hk.2) (.int .i64 ((rd_T53 t127 x9_1).f5))) (fun _ hk => hk.1.2)⟩
      have n1_ : Aside0 (((((((w11.setCell ⟨gb131, 0, none⟩ (.int .i64 ((rd_T53 t127 x9_1).f0))).setCell ⟨gb131, 1, none⟩ (.int .i64 ((rd_T53 t127 x9_1).f1))).setCell ⟨gb131, 2, none⟩ (.int .i64 ((rd_T53 t127 x9_1).f2))).setCell ⟨gb131, 3, none⟩ (.int .i64 ((rd_T53 t127 x9_1).f3))).setCell ⟨gb131, 4, none⟩ (.int .i64 ((rd_T53 t127 x9_1).f4))).setCell ⟨gb131, 5, none⟩ (.int .i64 ((rd_T53 t127 x9_1).f5))).heap[gb126]? = some (.cells #[.int .i64 a0_0, .int .i64 a0_1, .int .i64 a0_2, .int .i64 a0_3, .int .i64 a0_4] 29 (0, 0))) := ⟨by (with_reducible repeat (first | refine blk_drewN ?_ _ | refine blk_drew ?_ | refine blk_alloc ?_ _)); refine blk_far ?_ NB126_131.out _; (with_reducible repeat (first | refine blk_drewN ?_ _ | refine blk_drew ?_ | refine blk_alloc ?_ _)); refine blk_far ?_ NB126_131.out _; (with_reducible repeat (first | refine blk_drewN ?_ _ | refine blk_drew ?_ | refine blk_alloc ?_ _)); refine blk_far ?_ NB126_131.out _; (with_reducible repeat (first | refine blk_drewN ?_ _ | refine blk_drew ?_ | refine blk_alloc ?_ _)); refine blk_far ?_ NB126_131.out _; (with_reducible repeat (first | refine blk_drewN ?_ _ | refine blk_drew ?_ | refine blk_alloc ?_ _)); refine blk_far ?_ NB126_131.out _; (with_reducible repeat (first | refine blk_drewN ?_ _ | refine blk_drew ?_ | refine blk_alloc ?_ _)); refine blk_far ?_ NB126_131.out _; (with_reducible repeat (first | refine blk_drewN ?_ _ | refine blk_drew ?_ | refine blk_alloc ?_ _)); exact BK126.out⟩
      have n2_ : Aside0 (((((((w11.setCell ⟨gb131, 0, none⟩ (.int .i64 ((rd_T53 t127 x9_1).f0))).setCell ⟨gb131, 1, none⟩ (.int .i64 ((rd_T53 t127 x9_1).f1))).setCell ⟨gb131, 2, none⟩ (.int .i64 ((rd_T53 t127 x9_1).f2))).setCell ⟨gb131, 3, none⟩ (.int .i64 ((rd_T53 t127 x9_1).f3))).setCell ⟨gb131, 4, none⟩ (.int .i64 ((rd_T53 t127 x9_1).f4))).setCell ⟨gb131, 5, none⟩ (.int .i64 ((rd_T53 t127 x9_1).f5))).heap[gb131]? = some (.cells #[.int .i64 ((rd_T53 t127 x9_1).f0), .int .i64 ((rd_T53 t127 x9_1).f1), .int .i64 ((rd_T53 t127 x9_1).f2), .int .i64 ((rd_T53 t127 x9_1).f3), .int .i64 ((rd_T53 t127 x9_1).f4), .int .i64 ((rd_T53 t127 x9_1).f5)] 53 (0, 0))) := ⟨by (with_reducible repeat (first | refine blk_drewN ?_ _ | refine blk_drew ?_ | refine blk_alloc ?_ _)); refine blk_put (cs := #[.int .i64 ((rd_T53 t127 x9_1).f0), .int .i64 ((rd_T53 t127 x9_1).f1), .int .i64 ((rd_T53 t127 x9_1).f2), .int .i64 ((rd_T53 t127 x9_1).f3), .int .i64 ((rd_T53 t127 x9_1).f4), .int .i64 0]) ?_ 5 _ rfl; (with_reducible repeat (first | refine blk_drewN ?_ _ | refine blk_drew ?_ | refine blk_alloc ?_ _)); refine blk_put (cs := #[.int .i64 ((rd_T53 t127 x9_1).f0), .int .i64 ((rd_T53 t127 x9_1).f1), .int .i64 ((rd_T53 t127 x9_1).f2), .int .i64 ((rd_T53 t127 x9_1).f3), .int .i64 0, .int .i64 0]) ?_ 4 _ rfl; (with_reducible repeat (first | refine blk_drewN ?_ _ | refine blk_drew ?_ | refine blk_alloc ?_ _)); refine blk_put (cs := #[.int .i64 ((rd_T53 t127 x9_1).f0), .int .i64 ((rd_T53 t127 x9_1).f1), .int .i64 ((rd_T53 t127 x9_1).f2), .int .i64 0, .int .i64 0, .int .i64 0]) ?_ 3 _ rfl; (with_reducible repeat (first | refine blk_drewN ?_ _ | refine blk_drew ?_ | refine blk_alloc ?_ _)); refine blk_put (cs := #[.int .i64 ((rd_T53 t127 x9_1).f0), .int .i64 ((rd_T53 t127 x9_1).f1), .int .i64 0, .int .i64 0, .int .i64 0, .int .i64 0]) ?_ 2 _ rfl; (with_reducible repeat (first | refine blk_drewN ?_ _ | refine blk_drew ?_ | refine blk_alloc ?_ _)); refine blk_put (cs := #[.int .i64 ((rd_T53 t127 x9_1).f0), .int .i64 0, .int .i64 0, .int .i64 0, .int .i64 0, .int .i64 0]) ?_ 1 _ rfl; (with_reducible repeat (first | refine blk_drewN ?_ _ | refine blk_drew ?_ | refine blk_alloc ?_ _)); refine blk_put (cs := #[.int .i64 0, .int .i64 0, .int .i64 0, .int .i64 0, .int .i64 0, .int .i64 0]) ?_ 0 _ rfl; (with_reducible repeat (first | refine blk_drewN ?_ _ | refine blk_drew ?_ | refine blk_alloc ?_ _)); exact BK131.out⟩
      have n3_ : Aside0 (Below w.heap.size w ((((((w11.setCell ⟨gb131, 0, none⟩ (.int .i64 ((rd_T53 t127 x9_1).f0))).setCell ⟨gb131, 1, none⟩ (.int .i64 ((rd_T53 t127 x9_1).f1))).setCell ⟨gb131, 2, none⟩ (.int .i64 ((rd_T53 t127 x9_1).f2))).setCell ⟨gb131, 3, none⟩ (.int .i64 ((rd_T53 t127 x9_1).f3))).setCell ⟨gb131, 4, none⟩ (.int .i64 ((rd_T53 t127 x9_1).f4))).setCell ⟨gb131, 5, none⟩ (.int .i64 ((rd_T53 t127 x9_1).f5)))) := ⟨hz HB⟩
      (try clear HO_7)
      (try clear BK126)
      (try clear BK131)
      (try clear HB)
      generalize ((((((w11.setCell ⟨gb131, 0, none⟩ (.int .i64 ((rd_T53 t127 x9_1).f0))).setCell ⟨gb131, 1, none⟩ (.int .i64 ((rd_T53 t127 x9_1).f1))).setCell ⟨gb131, 2, none⟩ (.int .i64 ((rd_T53 t127 x9_1).f2))).setCell ⟨gb131, 3, none⟩ (.int .i64 ((rd_T53 t127 x9_1).f3))).setCell ⟨gb131, 4, none⟩ (.int .i64 ((rd_T53 t127 x9_1).f4))).setCell ⟨gb131, 5, none⟩ (.int .i64 ((rd_T53 t127 x9_1).f5))) = w14 at n0_ n1_ n2_ n3_ ⊢
      have HO_7 := n0_
      have BK126 := n1_
      have BK131 := n2_
      have HB := n3_
      clear n0_ n1_ n2_ n3_
      have n0_ := Aside0.mk (Kd.R_drew HO_7.out)
      have n1_ := Aside0.mk (blk_drew BK126.out)
      have n2_ := Aside0.mk (blk_drew BK131.out)
      have n3_ := Aside0.mk (below_drew1 HB.out)
      clear HO_7
      clear BK126
      clear BK131
      clear HB
      have HO_7 := n0_
      have BK126 := n1_
      have BK131 := n2_
      have HB := n3_
      clear n0_ n1_ n2_ n3_
      refine start_ (n := 13) (S := fun w' => w'.cell? ⟨gb131, 0, none⟩ = some (.int .i64 ((rd_T53 t127 x9_1).f0)) ∧ w'.cell? ⟨gb131, 1, none⟩ = some (.int .i64 ((rd_T53 t127 x9_1).f1)) ∧ w'.cell? ⟨gb131, 2, none⟩ = some (.int .i64 ((rd_T53 t127 x9_1).f2)) ∧ w'.cell? ⟨gb131, 3, none⟩ = some (.int .i64 ((rd_T53 t127 x9_1).f3)) ∧ w'.cell? ⟨gb131, 4, none⟩ = some (.int .i64 ((rd_T53 t127 x9_1).f4)) ∧ w'.cell? ⟨gb131, 5, none⟩ = some (.int .i64 ((rd_T53 t127 x9_1).f5)) ∧ w'.cell? ⟨gb126, 0, none⟩ = some (.int .i64 a0_0) ∧ w'.cell? ⟨gb126, 1, none⟩ = some (.int .i64 a0_1) ∧ w'.cell? ⟨gb126, 2, none⟩ = some (.int .i64 a0_2) ∧ w'.cell? ⟨gb126, 3, none⟩ = some (.int .i64 a0_3) ∧ w'.cell? ⟨gb126, 4, none⟩ = some (.int .i64 a0_4)) (ds := []) (bm 13 0) (by kernel_rfl) rfl rfl ⟨(blk_cell BK131.out 0).trans rfl, (blk_cell BK131.out 1).trans rfl, (blk_cell BK131.out 2).trans rfl, (blk_cell BK131.out 3).trans rfl, (blk_cell BK131.out 4).trans rfl, (blk_cell BK131.out 5).trans rfl, (blk_cell BK126.out 0).trans rfl, (blk_cell BK126.out 1).trans rfl, (blk_cell BK126.out 2).trans rfl, (blk_cell BK126.out 3).trans rfl, (blk_cell BK126.out 4).trans rfl⟩ (fun hHeld => ?_); refine with_tabW lace_Size.tab5 lace_Size.bits5 (fun HT_ HW_ => ?_)
      generalize w14.drew = w15 at HO_7 BK126 BK131 HB hHeld ⊢
      refine zp 0 13 (bm 13 1) ?_
      refine zp 1 14 (bm 13 3) ?_
      refine zp 3 16 (bm 13 11) ?_
      refine zp 6 19 (bm 13 75) ?_
      refine zt 2 15 (bm 13 79) rfl (by rintro w' ⟨s0, s1, s2, s3, s4, s5, s6, s7, s8, s9, s10⟩; go_simp; with_reducible rfl) ?_
      refine zt 4 17 (bm 13 95) rfl (by rintro w' ⟨s0, s1, s2, s3, s4, s5, s6, s7, s8, s9, s10⟩; go_simp; with_reducible rfl) ?_
      refine zt 5 18 (bm 13 127) rfl (by rintro w' ⟨s0, s1, s2, s3, s4, s5, s6, s7, s8, s9, s10⟩; go_simp; with_reducible rfl) ?_
      refine zt 7 20 (bm 13 255) rfl (by rintro w' ⟨s0, s1, s2, s3, s4, s5, s6, s7, s8, s9, s10⟩; go_simp; with_reducible rfl) ?_
      refine one_ (i := 8) (N := some 21) (bm 13 511) rfl rfl (one_of HT_.out (by kernel_rfl)) (by decide) (fun K hK => ?_)
      refine goes_ Try.func39 (by kernel_rfl) rfl #[.agg #[.int .i64 a0_0, .int .i64 a0_1, .int .i64 a0_2, .int .i64 a0_3, .int .i64 a0_4], .int .i64 ((rd_T53 t127 x9_1).f4)] (by rfl) rfl rfl (by (try simp only [List.map_toArray, List.map_cons, List.map_nil]); first | done | rfl | (simp only [List.length_drop, List.length_take]; rfl) | (simp only [ByteArray.size_extract, Nat.min_self]; done) | (simp only [ByteArray.size_extract, Nat.min_self]; rfl)) ?_
      with_reducible refine (lace_Row.calls k1 a0_0 a0_1 a0_2 a0_3 a0_4 ((rd_T53 t127 x9_1).f4) t132 _ A10.out).mono ?_
      rintro e w16 ⟨rfl, hb⟩
      refine ⟨_, rfl, ?_⟩
      have n0_ := Aside0.mk (Kd.R_below (oz HO_7) hb)
      have n1_ := Aside0.mk (blk_below (g := gb126) (o := .cells #[.int .i64 a0_0, .int .i64 a0_1, .int .i64 a0_2, .int .i64 a0_3, .int .i64 a0_4] 29 (0, 0)) (kz BK126) hb)
      have n2_ := Aside0.mk (blk_below (g := gb131) (o := .cells #[.int .i64 ((rd_T53 t127 x9_1).f0), .int .i64 ((rd_T53 t127 x9_1).f1), .int .i64 ((rd_T53 t127 x9_1).f2), .int .i64 ((rd_T53 t127 x9_1).f3), .int .i64 ((rd_T53 t127 x9_1).f4), .int .i64 ((rd_T53 t127 x9_1).f5)] 53 (0, 0)) (kz BK131) hb)
      have n3_ := Aside0.mk (below_step (hz HB) hb)
      clear HO_7
      clear BK126
      clear BK131
      clear HB
      have HO_7 := n0_
      have BK126 := n1_
      have BK131 := n2_
      have HB := n3_
      clear n0_ n1_ n2_ n3_
      (try clear hb)
      refine hK.out _ _ ⟨(blk_cell BK131.out 0).trans rfl, (blk_cell BK131.out 1).trans rfl, (blk_cell BK131.out 2).trans rfl, (blk_cell BK131.out 3).trans rfl, (blk_cell BK131.out 4).trans rfl, (blk_cell BK131.out 5).trans rfl, (blk_cell BK126.out 0).trans rfl, (blk_cell BK126.out 1).trans rfl, (blk_cell BK126.out 2).trans rfl, (blk_cell BK126.out 3).trans rfl, (blk_cell BK126.out 4).trans rfl⟩ (fun hHeld => ?_)
      clear hK K
      refine norm_ (a' := ?_) ?_ ?_
      rotate_left
      ·show Act.put _ (some 21) _ = _
       simp only [Act.put, zq1, zq2, zq3, i64_w, i32_w]
       rfl
      refine zp 9 22 (bm 13 1023) ?_
      refine zp 10 23 (bm 13 2047) ?_
      refine zp 11 24 (bm 13 4095) ?_
      refine zp 12 3 (bm 13 8191) ?_
      refine done_ (done_of HT_.out (by kernel_rfl)) ?_
      try go_wp2
      go_roundg k1
      case measure => have := HK1.out; omega
      case rel => exact ⟨(wrap64 (x3_1 + (wrap64 (((rd_T53 t127 x9_1).f5) + (wrap64 (((rd_T53 t127 x9_1).f5) * t132)))))), (wrap64 (x9_1 + 1)), (by first | rfl | (simp; done) | (simp [*]; done)), (by first | rfl | (simp; done) | (simp [*]; done)), H', ⟨by have := HK1.out; omega⟩, ⟨by (with_reducible repeat (first | apply Kd.R_alloc | apply Kd.R_drewN | apply Kd.R_drew)); exact Kd.R_mono HO_7.out (fun _ hk => trivial)⟩, ⟨kz BK126⟩, ⟨hz HB⟩⟩
     ·rw [if_neg c9] at H
      exact absurd H (by simp)
    ·rw [if_neg c8] at H
     exact absurd H (by simp)
   ·rw [if_neg c7] at H
    have c7b0 : decide (x9_1 < (t127.length : Int)) = false := decide_eq_false c7
    clear c7
    obtain rfl := Option.some.inj H
    go_wp2
    go_ret
    exact ⟨by first | rfl | (simp [errW_none, errW_some] <;> rfl) | (simp [*, errW_none, errW_some] <;> rfl), by repeat (first | (with_reducible first | exact HB.out | apply below_alloc | apply pw_below_drewN | apply below_drew1 | refine below_set ?_ GE126.out) | exact HB.out)⟩

end Go.Proofs.Ytejljcglbkjgkaa.PL12

namespace Go.Proofs.Ytejljcglbkjgkaa.PL12
open Go.RowKit Go.Proofs.YtejljcglbkjgkaaW.PrintWords Go.Proofs.YtejljcglbkjgkaaW.PrintLast Go.Proofs.YtejljcglbkjgkaaW.PrintMore
attribute [local go_sem] max2_int min2_int max_two min_two max_three min_three max_four min_four   -- for this text's walks alone
set_option linter.unusedVariables false
set_option linter.unusedSimpArgs false

def filter_wrong.j0 : Nat → Int → Bool → Option (Int)
 | 0, _, _ => none
 | k + 1, x1, x9 => if x9 = true then (some 1) else (if x1 < 0 then (some 28) else (if x1 ≥ 5 then (some 28) else (some 0)))
def filter_wrong.f (k : Nat) (a0 : Int) (a1 : Int) (a2 : ByteArray) (a3 : ByteArray) : Option (Int) := if a0 < 1 then (filter_wrong.j0 k a1 true) else (if a0 > 8 then (filter_wrong.j0 k a1 true) else (if a3.toList = ([] : List UInt8) then (filter_wrong.j0 k a1 false) else (filter_wrong.j0 k a1 ((a3.size : Int) != (a2.size : Int)))))
theorem filter_wrong.mono_l : ∀ k, (∀ y0 y1, LeO (filter_wrong.j0 k y0 y1) (filter_wrong.j0 (k + 1) y0 y1))
 | 0 => fun _ _ r h => by simp [filter_wrong.j0] at h
 | k + 1 => by
  have ih0 := filter_wrong.mono_l k
  ·intro y0 y1
   unfold filter_wrong.j0
   repeat' first
   | (with_reducible exact ih0 _ _)
   | (with_reducible exact LeO.refl _)
   | (with_reducible exact LeO.none _)
   | (with_reducible refine LeO.ite ?_ ?_)
   | (with_reducible refine LeO.bind ?_ (fun _ => ?_))
   | exact ih0 _ _
   | exact LeO.none _
   | refine LeO.ite ?_ ?_
   | refine LeO.bind ?_ (fun _ => ?_)
theorem filter_wrong.mono : ∀ a0 a1 a2 a3 k, LeO (filter_wrong.f k a0 a1 a2 a3) (filter_wrong.f (k + 1) a0 a1 a2 a3) := by
 intro a0 a1 a2 a3 k
 have ih0 := filter_wrong.mono_l k
 unfold filter_wrong.f
 repeat' first
   | (with_reducible exact ih0 _ _)
   | (with_reducible exact LeO.refl _)
   | (with_reducible exact LeO.none _)
   | (with_reducible refine LeO.ite ?_ ?_)
   | (with_reducible refine LeO.bind ?_ (fun _ => ?_))
   | exact ih0 _ _
   | exact LeO.none _
   | refine LeO.ite ?_ ?_
   | refine LeO.bind ?_ (fun _ => ?_)
set_option maxHeartbeats 40000000 in
set_option maxRecDepth 100000 in
theorem filter_wrong.calls (k : Nat) (a0 : Int) (a1 : Int) (a2 : ByteArray) (a3 : ByteArray) (r : Int) (w : World) (h : filter_wrong.f k a0 a1 a2 a3 = some r) :
  Calls Try.prog 61 #[.int .i64 a0, .int .i64 a1, .string a2, .string a3] w fun e w' => e = .returned (.int .i64 r) ∧ Drawn0 w w' := by
 have H : (if a0 < 1 then (filter_wrong.j0 k a1 true) else (if a0 > 8 then (filter_wrong.j0 k a1 true) else (if a3.toList = ([] : List UInt8) then (filter_wrong.j0 k a1 false) else (filter_wrong.j0 k a1 ((a3.size : Int) != (a2.size : Int)))))) = some r := h
 clear h
 have HC5 := Aside0.mk H
 clear H
 go_enter Try.func61, Try.ntmps61
 go_upto_region 1 with (fail)
 go_cut [9] (fun v9 wc => ∃ (kq : Nat) (x9_4 : Bool), v9 = .bool x9_4 ∧ Aside0 (filter_wrong.j0 kq a1 x9_4 = some r) ∧ Aside0 (kq ≤ k) ∧ Drawn0 w wc)
 case first =>
  have H := HC5.out
  clear HC5
  by_cases c6 : a0 < 1
  ·rw [if_pos c6] at H
   have c6b0 : decide (a0 < 1) = true := decide_eq_true c6
   clear c6
   (first | rw [c6b0] | (simp only [i64_w, i32_w]; rw [c6b0]) | skip)
   have H' := Aside0.mk H
   clear H
   go_wp2
   go_meet
   case rel => exact ⟨_, (true), (by first | rfl | (simp; done) | (simp [*]; done)), H', ⟨by first | omega | exact Nat.le_refl _⟩, by repeat (first | exact Drawn0.refl _ | apply Drawn0.step)⟩
  ·rw [if_neg c6] at H
   have c6b0 : decide (a0 < 1) = false := decide_eq_false c6
   clear c6
   (first | rw [c6b0] | (simp only [i64_w, i32_w]; rw [c6b0]) | skip)
   by_cases c7 : a0 > 8
   ·rw [if_pos c7] at H
    have c7b0 : decide (8 < a0) = true := decide_eq_true c7
    clear c7
    have H' := Aside0.mk H
    clear H
    go_wp2
    go_meet
    case rel => exact ⟨_, (true), (by first | rfl | (simp; done) | (simp [*]; done)), H', ⟨by first | omega | exact Nat.le_refl _⟩, by repeat (first | exact Drawn0.refl _ | apply Drawn0.step)⟩
   ·rw [if_neg c7] at H
    have c7b0 : decide (8 < a0) = false := decide_eq_false c7
    clear c7
    by_cases c8 : a3.toList = ([] : List UInt8)
    ·rw [if_pos c8] at H
     have c8b0 : (a3.toList == ([] : List UInt8)) = true := beq_iff_eq.mpr c8
     have c8b1 : (a3.toList != ([] : List UInt8)) = false := bne_eq_false_iff_eq.mpr c8
     clear c8
     have H' := Aside0.mk H
     clear H
     go_wp2
     go_meet
     case rel => exact ⟨_, (false), (by first | rfl | (simp; done) | (simp [*]; done)), H', ⟨by first | omega | exact Nat.le_refl _⟩, by repeat (first | exact Drawn0.refl _ | apply Drawn0.step)⟩
    ·rw [if_neg c8] at H
     have c8b0 : (a3.toList == ([] : List UInt8)) = false := beq_eq_false_iff_ne.mpr c8
     have c8b1 : (a3.toList != ([] : List UInt8)) = true := bne_iff_ne.mpr c8
     have H' := Aside0.mk H
     clear H
     go_wp2
     go_meet
     case rel => exact ⟨_, (((a3.size : Int) != (a2.size : Int))), (by first | rfl | (simp; done) | (simp [*]; done)), H', ⟨by first | omega | exact Nat.le_refl _⟩, by repeat (first | exact Drawn0.refl _ | apply Drawn0.step)⟩
 case rest =>
  clear HC5
  obtain ⟨kq, x9_4, rfl, HA, HJ4, ⟨mc4, rfl⟩⟩ := hcut
  cases kq with
  | zero => exact absurd HA.out (by simp [filter_wrong.j0])
  | succ kj4 =>
   have H := HA.out
   clear HA
   simp only [filter_wrong.j0] at H
   by_cases c9 : x9_4 = true
   ·subst c9
    have H1 : (some 1) = some r := by rw [if_pos rfl] at H; exact H
    clear H
    have H := H1
    clear H1
    obtain rfl := Option.some.inj H
    go_wp2
    go_ret
    exact ⟨by first | rfl | (simp; done) | (simp [*]; done), by repeat (first | exact Drawn0.refl _ | apply Drawn0.step)⟩
   ·replace c9 := Bool.eq_false_iff.mpr c9
    subst c9
    have H1 : (if a1 < 0 then (some 28) else (if a1 ≥ 5 then (some 28) else (some 0))) = some r := by rw [if_neg (show ¬ (false = true) by decide)] at H; exact H
    clear H
    have H := H1
    clear H1
    by_cases c10 : a1 < 0
    ·rw [if_pos c10] at H
     have c10b0 : decide (a1 < 0) = true := decide_eq_true c10
     clear c10
     obtain rfl := Option.some.inj H
     go_wp2
     go_ret
     exact ⟨by first | rfl | (simp; done) | (simp [*]; done), by repeat (first | exact Drawn0.refl _ | apply Drawn0.step)⟩
    ·rw [if_neg c10] at H
     have c10b0 : decide (a1 < 0) = false := decide_eq_false c10
     clear c10
     by_cases c11 : a1 ≥ 5
     ·rw [if_pos c11] at H
      have c11b0 : decide (5 ≤ a1) = true := decide_eq_true c11
      clear c11
      obtain rfl := Option.some.inj H
      go_wp2
      go_ret
      exact ⟨by first | rfl | (simp; done) | (simp [*]; done), by repeat (first | exact Drawn0.refl _ | apply Drawn0.step)⟩
     ·rw [if_neg c11] at H
      have c11b0 : decide (5 ≤ a1) = false := decide_eq_false c11
      clear c11
      obtain rfl := Option.some.inj H
      go_wp2
      go_ret
      exact ⟨by first | rfl | (simp; done) | (simp [*]; done), by repeat (first | exact Drawn0.refl _ | apply Drawn0.step)⟩

def filter_apart.f (a0 : Int) (a1 : Int) : Option (Int) := if a0 < a1 then (some (wrap64 (a1 - a0))) else (some (wrap64 (a0 - a1)))
set_option maxHeartbeats 40000000 in
set_option maxRecDepth 100000 in
theorem filter_apart.calls (a0 : Int) (a1 : Int) (r : Int) (w : World) (h : filter_apart.f a0 a1 = some r) :
  Calls Try.prog 72 #[.int .i64 a0, .int .i64 a1] w fun e w' => e = .returned (.int .i64 r) ∧ Drawn0 w w' := by
 have H : (if a0 < a1 then (some (wrap64 (a1 - a0))) else (some (wrap64 (a0 - a1)))) = some r := h
 clear h
 by_cases c3 : a0 < a1
 ·rw [if_pos c3] at H
  have c3b0 : decide (a0 < a1) = true := decide_eq_true c3
  clear c3
  obtain rfl := Option.some.inj H
  go_enter Try.func72, Try.ntmps72
  go_wp2
  go_ret
  exact ⟨by first | rfl | (simp; done) | (simp [*]; done), by repeat (first | exact Drawn0.refl _ | apply Drawn0.step)⟩
 ·rw [if_neg c3] at H
  have c3b0 : decide (a0 < a1) = false := decide_eq_false c3
  clear c3
  obtain rfl := Option.some.inj H
  go_enter Try.func72, Try.ntmps72
  go_wp2
  go_ret
  exact ⟨by first | rfl | (simp; done) | (simp [*]; done), by repeat (first | exact Drawn0.refl _ | apply Drawn0.step)⟩

def filter_nearest.l0 : Nat → Int → Int → List Int → Int → Int → Option (Int)
 | 0, _, _, _, _, _ => none
 | k + 1, x7, x8, x19, x20, x21 => if x21 < x20 then (if 0 ≤ x21 then (if x21 < (x19.length : Int) then ((filter_apart.f x7 (rd x19 x21)).bind fun t137 => ((filter_apart.f x7 x8).bind fun t138 => (if t137 < t138 then (filter_nearest.l0 k x7 (rd x19 x21) x19 x20 (wrap64 (x21 + 1))) else (filter_nearest.l0 k x7 x8 x19 x20 (wrap64 (x21 + 1)))))) else (none)) else (none)) else (some x8)
def filter_nearest.f (k : Nat) (a0 : Int) (a1 : Int) (a2 : Int) : Option (Int) := (some (([a1, a2] : List Int) : List Int)).bind fun y133 => (filter_nearest.l0 k (wrap64 ((wrap64 (a0 + a1)) - a2)) a0 y133 (y133.length : Int) 0)
theorem filter_nearest.mono_l : ∀ k, (∀ y0 y1 y2 y3 y4, LeO (filter_nearest.l0 k y0 y1 y2 y3 y4) (filter_nearest.l0 (k + 1) y0 y1 y2 y3 y4))
 | 0 => fun _ _ _ _ _ r h => by simp [filter_nearest.l0] at h
 | k + 1 => by
  have ih0 := filter_nearest.mono_l k
  ·intro y0 y1 y2 y3 y4
   unfold filter_nearest.l0
   repeat' first
   | (with_reducible exact ih0 _ _ _ _ _)
   | (with_reducible exact LeO.refl _)
   | (with_reducible exact LeO.none _)
   | (with_reducible refine LeO.ite ?_ ?_)
   | (with_reducible refine LeO.bind ?_ (fun _ => ?_))
   | exact ih0 _ _ _ _ _
   | exact LeO.none _
   | refine LeO.ite ?_ ?_
   | refine LeO.bind ?_ (fun _ => ?_)
theorem filter_nearest.mono : ∀ a0 a1 a2 k, LeO (filter_nearest.f k a0 a1 a2) (filter_nearest.f (k + 1) a0 a1 a2) := by
 intro a0 a1 a2 k
 have ih0 := filter_nearest.mono_l k
 unfold filter_nearest.f
 repeat' first
   | (with_reducible exact ih0 _ _ _ _ _)
   | (with_reducible exact LeO.refl _)
   | (with_reducible exact LeO.none _)
   | (with_reducible refine LeO.ite ?_ ?_)
   | (with_reducible refine LeO.bind ?_ (fun _ => ?_))
   | exact ih0 _ _ _ _ _
   | exact LeO.none _
   | refine LeO.ite ?_ ?_
   | refine LeO.bind ?_ (fun _ => ?_)
set_option maxHeartbeats 40000000 in
set_option maxRecDepth 100000 in
theorem filter_nearest.calls (k : Nat) (a0 : Int) (a1 : Int) (a2 : Int) (r : Int) (w : World) (h : filter_nearest.f k a0 a1 a2 = some r) :
  Calls Try.prog 70 #[.int .i64 a0, .int .i64 a1, .int .i64 a2] w fun e w' => e = .returned (.int .i64 r) ∧ Below w.heap.size w w' := by
 have HB := Aside0.mk (Below.refl w.heap.size w)
 have H : ((some (([a1, a2] : List Int) : List Int)).bind fun y133 => (filter_nearest.l0 k (wrap64 ((wrap64 (a0 + a1)) - a2)) a0 y133 (y133.length : Int) 0)) = some r := h
 clear h
 obtain ⟨y133, hy133⟩ : ∃ y_ : List Int, y_ = (([a1, a2] : List Int)) := ⟨_, rfl⟩
 replace H : (filter_nearest.l0 k (wrap64 ((wrap64 (a0 + a1)) - a2)) a0 y133 (y133.length : Int) 0) = some r := by first | (rw [hy133]; with_reducible exact H) | (have H2_ := (Option.bind_some _ _).symm.trans H; rw [hy133]; with_reducible exact H2_) | (have H2_ := (Option.bind_some _ _).symm.trans H; with_reducible exact H2_) | with_reducible exact H | (rw [hy133]; exact H) | exact H
 have Ny133 := Aside0.mk hy133
 clear hy133
 have H' := Aside0.mk H
 clear H
 go_enter Try.func70, Try.ntmps70
 go_wp2_with (first | ((with_reducible refine gate_dst (N := 19) rfl ?_); refine Kd.R_lit (Kd.int .i64) _ 3 ?hg (N := 19) ?hd (xs := ([a1, a2] : List Int)) (inner := [.int .i64 a1, .int .i64 a2]) (ok := fun _ => True) (okp := fun _ => True) ?hr ?hp (fun _ hk => hk) trivial (Below.refl _ _) (Nat.le_refl _) (by simp) ?_; (case hd => rfl); (case hg => rfl); (case hr => first | (go_simp; done) | (go_simp; rfl)); (case hp => exact (Reps.one (show Kd.M (Kd.int .i64) _ _ _ a1 [.int .i64 a1] from rfl) (Reps.one (show Kd.M (Kd.int .i64) _ _ _ a2 [.int .i64 a2] from rfl) (Reps.none _ _)))); intro v134 w4 ho5 hb hg_ hnew_; clear hg_ hnew_; (first | rw [← Ny133.out] at ho5 | (simp only [Int.reduceToNat] at ho5; rw [← Ny133.out] at ho5)); have n0_ := Aside0.mk (Kd.R_lower ho5 (below_size (hz HB))); have n1_ := Aside0.mk (below_step (hz HB) hb); clear HB; have HO135 := n0_; have HB := n1_; clear n0_ n1_; clear hb ho5; obtain ⟨Ao6, co6, eo6⟩ := Kd.R_slice HO135.out; subst eo6))
 go_loopg [8, 21] k (fun kq v8 v21 w' => ∃ (x8_1 : Int) (x21_1 : Int), v8 = .int .i64 x8_1 ∧ v21 = .int .i64 x21_1 ∧ Aside0 (filter_nearest.l0 kq (wrap64 ((wrap64 (a0 + a1)) - a2)) x8_1 y133 (y133.length : Int) x21_1 = some r) ∧ Aside0 (kq ≤ k) ∧ Aside0 (Kd.R (Kd.int .i64) 3 w' w.heap.size (fun _ => True) (.slice Ao6 y133.length co6) y133) ∧ Aside0 (Below w.heap.size w w'))
 case atStart => exact ⟨(a0), (0), (by first | rfl | (simp; done) | (simp [*]; done)), (by first | rfl | (simp; done) | (simp [*]; done)), H', ⟨Nat.le_refl _⟩, ⟨oz HO135⟩, ⟨hz HB⟩⟩
 case round =>
  clear H'
  obtain ⟨x8_1, x21_1, rfl, rfl, HA, HK1, HO_19, HB⟩ := hrel
  cases gk with
  | zero => exact absurd HA.out (by simp [filter_nearest.l0])
  | succ k1 =>
   have H := HA.out
   clear HA
   simp only [filter_nearest.l0] at H
   by_cases c7 : x21_1 < (y133.length : Int)
   ·rw [if_pos c7] at H
    have c7b0 : decide (x21_1 < (y133.length : Int)) = true := decide_eq_true c7
    clear c7
    by_cases c8 : 0 ≤ x21_1
    ·rw [if_pos c8] at H
     have c8b0 : decide (0 ≤ x21_1) = true := decide_eq_true c8
     clear c8
     by_cases c9 : x21_1 < (y133.length : Int)
     ·rw [if_pos c9] at H
      have c9b0 : decide (x21_1 < (y133.length : Int)) = true := decide_eq_true c9
      clear c9
      replace H := Option.bind_eq_some_iff.mp H
      obtain ⟨t137, A100, H⟩ := H
      replace H : ((filter_apart.f (wrap64 ((wrap64 (a0 + a1)) - a2)) x8_1).bind fun t138 => (if t137 < t138 then (filter_nearest.l0 k1 (wrap64 ((wrap64 (a0 + a1)) - a2)) (rd y133 x21_1) y133 (y133.length : Int) (wrap64 (x21_1 + 1))) else (filter_nearest.l0 k1 (wrap64 ((wrap64 (a0 + a1)) - a2)) x8_1 y133 (y133.length : Int) (wrap64 (x21_1 + 1))))) = some r := H
      have A10 := Aside0.mk A100
      clear A100
      replace H := Option.bind_eq_some_iff.mp H
      obtain ⟨t138, A110, H⟩ := H
      replace H : (if t137 < t138 then (filter_nearest.l0 k1 (wrap64 ((wrap64 (a0 + a1)) - a2)) (rd y133 x21_1) y133 (y133.length : Int) (wrap64 (x21_1 + 1))) else (filter_nearest.l0 k1 (wrap64 ((wrap64 (a0 + a1)) - a2)) x8_1 y133 (y133.length : Int) (wrap64 (x21_1 + 1)))) = some r := H
      have A11 := Aside0.mk A110
      clear A110
      by_cases c12 : t137 < t138
      ·rw [if_pos c12] at H
       have c12b0 : decide (t137 < t138) = true := decide_eq_true c12
       clear c12
       have H' := Aside0.mk H
       clear H
       have p136 : 0 ≤ (x21_1 : Int) := of_decide_eq_true (by first | (with_reducible assumption) | assumption)
       have q136 : x21_1 < (y133.length : Int) := of_decide_eq_true (by first | (with_reducible assumption) | assumption)
       obtain ⟨ad136, e136, hx136_0⟩ := Kd.at_int (Kd.R_reads' HO_19.out).2.2 x21_1 p136 q136
       cases e136
       replace p136 := eq_true p136
       replace q136 := eq_true q136
       go_wp2_with (first | ((with_reducible refine gate_callee (f := 72) rfl ?_); refine gz 27 Try.func72 #[.int .i64 (wrap64 ((wrap64 (a0 + a1)) - a2)), .int .i64 (rd y133 x21_1)] ?_; (with_reducible refine (filter_apart.calls (wrap64 ((wrap64 (a0 + a1)) - a2)) (rd y133 x21_1) t137 _ A10.out).mono ?_); rintro e w' ⟨rfl, ⟨nd, rfl⟩⟩; refine ⟨_, rfl, ?_⟩) | ((with_reducible refine gate_callee (f := 72) rfl ?_); refine gz 30 Try.func72 #[.int .i64 (wrap64 ((wrap64 (a0 + a1)) - a2)), .int .i64 x8_1] ?_; (with_reducible refine (filter_apart.calls (wrap64 ((wrap64 (a0 + a1)) - a2)) x8_1 t138 _ A11.out).mono ?_); rintro e w' ⟨rfl, ⟨nd, rfl⟩⟩; refine ⟨_, rfl, ?_⟩))
       go_roundg k1
       case measure => have := HK1.out; omega
       case rel => exact ⟨(rd y133 x21_1), (wrap64 (x21_1 + 1)), (by first | rfl | (simp; done) | (simp [*]; done)), (by first | rfl | (simp; done) | (simp [*]; done)), H', ⟨by have := HK1.out; omega⟩, ⟨oz HO_19⟩, ⟨hz HB⟩⟩
      ·rw [if_neg c12] at H
       have c12b0 : decide (t137 < t138) = false := decide_eq_false c12
       clear c12
       have H' := Aside0.mk H
       clear H
       have p136 : 0 ≤ (x21_1 : Int) := of_decide_eq_true (by first | (with_reducible assumption) | assumption)
       have q136 : x21_1 < (y133.length : Int) := of_decide_eq_true (by first | (with_reducible assumption) | assumption)
       obtain ⟨ad136, e136, hx136_0⟩ := Kd.at_int (Kd.R_reads' HO_19.out).2.2 x21_1 p136 q136
       cases e136
       replace p136 := eq_true p136
       replace q136 := eq_true q136
       go_wp2_with (first | ((with_reducible refine gate_callee (f := 72) rfl ?_); refine gz 27 Try.func72 #[.int .i64 (wrap64 ((wrap64 (a0 + a1)) - a2)), .int .i64 (rd y133 x21_1)] ?_; (with_reducible refine (filter_apart.calls (wrap64 ((wrap64 (a0 + a1)) - a2)) (rd y133 x21_1) t137 _ A10.out).mono ?_); rintro e w' ⟨rfl, ⟨nd, rfl⟩⟩; refine ⟨_, rfl, ?_⟩) | ((with_reducible refine gate_callee (f := 72) rfl ?_); refine gz 30 Try.func72 #[.int .i64 (wrap64 ((wrap64 (a0 + a1)) - a2)), .int .i64 x8_1] ?_; (with_reducible refine (filter_apart.calls (wrap64 ((wrap64 (a0 + a1)) - a2)) x8_1 t138 _ A11.out).mono ?_); rintro e w' ⟨rfl, ⟨nd, rfl⟩⟩; refine ⟨_, rfl, ?_⟩))
       go_roundg k1
       case measure => have := HK1.out; omega
       case rel => exact ⟨(x8_1), (wrap64 (x21_1 + 1)), (by first | rfl | (simp; done) | (simp [*]; done)), (by first | rfl | (simp; done) | (simp [*]; done)), H', ⟨by have := HK1.out; omega⟩, ⟨oz HO_19⟩, ⟨hz HB⟩⟩
     ·rw [if_neg c9] at H
      exact absurd H (by simp)
    ·rw [if_neg c8] at H
     exact absurd H (by simp)
   ·rw [if_neg c7] at H
    have c7b0 : decide (x21_1 < (y133.length : Int)) = false := decide_eq_false c7
    clear c7
    obtain rfl := Option.some.inj H
    go_wp2
    go_ret
    exact ⟨by first | rfl | (simp [errW_none, errW_some] <;> rfl) | (simp [*, errW_none, errW_some] <;> rfl), by repeat (first | (with_reducible first | exact HB.out | apply below_alloc | apply pw_below_drewN | apply below_drew1) | exact HB.out)⟩

def filter_foretold.f (k : Nat) (a0 : Int) (a1 : Int) (a2 : Int) (a3 : Int) : Option (Int) := (filter_nearest.f k a1 a2 a3).bind fun t => if 0 ≤ a0 then (if a0 < 5 then some (([0, a1, a2, (wrap64 (a1 + a2)) / 2, t] : List Int).getD a0.toNat 0) else none) else none
theorem filter_foretold.mono : ∀ a0 a1 a2 a3 k, LeO (filter_foretold.f k a0 a1 a2 a3) (filter_foretold.f (k + 1) a0 a1 a2 a3) := by
 intro a0 a1 a2 a3 k
 unfold filter_foretold.f
 refine LeO.bind (filter_nearest.mono _ _ _ _) (fun _ => LeO.refl _)
set_option maxHeartbeats 8000000 in
set_option maxRecDepth 100000 in
theorem filter_foretold.calls (k : Nat) (a0 : Int) (a1 : Int) (a2 : Int) (a3 : Int) (r : Int) (w : World) (h : filter_foretold.f k a0 a1 a2 a3 = some r) :
  Calls Try.prog 62 #[.int .i64 a0, .int .i64 a1, .int .i64 a2, .int .i64 a3] w fun e w' => e = .returned (.int .i64 r) ∧ Below w.heap.size w w' := by
 unfold filter_foretold.f at h
 replace h := Option.bind_eq_some_iff.mp h
 obtain ⟨t, ht, h⟩ := h
 have hu := Try.underlying88
 have hi0 : ∀ (x0 x1 x2 x3 x4 : Value) (w : World), (Instr.index 88 (.agg #[x0, x1, x2, x3, x4]) (.int .i64 0)).run Try.prog w = .ok x0 w := fun _ _ _ _ _ _ => by kernel_rfl
 have hi1 : ∀ (x0 x1 x2 x3 x4 : Value) (w : World), (Instr.index 88 (.agg #[x0, x1, x2, x3, x4]) (.int .i64 1)).run Try.prog w = .ok x1 w := fun _ _ _ _ _ _ => by kernel_rfl
 have hi2 : ∀ (x0 x1 x2 x3 x4 : Value) (w : World), (Instr.index 88 (.agg #[x0, x1, x2, x3, x4]) (.int .i64 2)).run Try.prog w = .ok x2 w := fun _ _ _ _ _ _ => by kernel_rfl
 have hi3 : ∀ (x0 x1 x2 x3 x4 : Value) (w : World), (Instr.index 88 (.agg #[x0, x1, x2, x3, x4]) (.int .i64 3)).run Try.prog w = .ok x3 w := fun _ _ _ _ _ _ => by kernel_rfl
 have hi4 : ∀ (x0 x1 x2 x3 x4 : Value) (w : World), (Instr.index 88 (.agg #[x0, x1, x2, x3, x4]) (.int .i64 4)).run Try.prog w = .ok x4 w := fun _ _ _ _ _ _ => by kernel_rfl
 have HT := Aside0.mk ht
 clear ht
 by_cases h0 : 0 ≤ a0
 ·rw [if_pos h0] at h
  by_cases h5 : a0 < 5
  ·rw [if_pos h5] at h
   have h' := Option.some.inj h
   clear h
   have hd : a0 = 0 ∨ a0 = 1 ∨ a0 = 2 ∨ a0 = 3 ∨ a0 = 4 := by omega
   clear h0 h5
   rcases hd with rfl | rfl | rfl | rfl | rfl
   all_goals
    obtain rfl := h'
    go_enter Try.func62, Try.ntmps62
    go_wp2_with (go_at_call 70; (with_reducible refine (filter_nearest.calls k a1 a2 a3 t _ HT.out).mono ?_); rintro e w7 ⟨rfl, hb⟩)
    go_ret
    exact ⟨by first | rfl | (simp; done) | (simp [*]; done), hb⟩
  ·rw [if_neg h5] at h
   exact absurd h (by simp)
 ·rw [if_neg h0] at h
  exact absurd h (by simp)

end Go.Proofs.Ytejljcglbkjgkaa.PL12
