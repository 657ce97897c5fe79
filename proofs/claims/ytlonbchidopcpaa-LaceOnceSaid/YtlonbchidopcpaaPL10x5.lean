/- Printed for this claim by a program of this session over the kit's print program: the Go functions as Lean functions, and proofs that the calls come to these answers. No conditions. -/
import Derived.RangeFuncNested
import Derived.RangeFuncBound
import Derived.RangeFuncCalls
import Derived.RangeFuncLeaves
import Derived.RangeFuncBox
import Derived.Shelf.Abstract
import Derived.Shelf.RegionOpen
import Derived.OwnWalkIn
import Derived.TacticsInMore
import Derived.LoopNIn
import Derived.LoopIn
import Derived.Maps.AppendAt
import Derived.Test.YtlonbchidopcpaaPL10x0
import Derived.Test.YtlonbchidopcpaaPL10x3
namespace Go.Proofs.Ytlonbchidopcpaa.PL10
open Go.RowKit Go.Proofs.YtlonbchidopcpaaW.PrintWords Go.Proofs.YtlonbchidopcpaaW.PrintLast Go.Proofs.YtlonbchidopcpaaW.PrintMore
attribute [local go_sem] max2_int min2_int max_two min_two max_three min_three max_four min_four   -- for this text's walks alone
set_option linter.unusedVariables false
set_option linter.unusedSimpArgs false

/-! ### lace_Passes: function 11 -/
section
attribute [local go_sem] Oper.semAt_some
/-- How many places there are from first on, below n: as the program counts. -/
def lace_cnt (n first step : Int) : Int := mx 0 (wrap64 (Int.tdiv (wrap64 ((wrap64 ((wrap64 (n - first)) + step)) - 1)) step))
def lace_tab : List (Int × Int × Int × Int) := [(0, 0, 8, 8), (4, 0, 8, 8), (0, 4, 4, 8), (2, 0, 4, 4), (0, 2, 2, 4), (1, 0, 2, 2), (0, 1, 1, 2)]
def lace_one (W H : Int) (p : Int × Int × Int × Int) : List S34 := if wrap64 (lace_cnt W p.1 p.2.2.1 * lace_cnt H p.2.1 p.2.2.2) > 0 then [⟨p.1, p.2.1, p.2.2.1, p.2.2.2, lace_cnt W p.1 p.2.2.1, lace_cnt H p.2.1 p.2.2.2⟩] else []
def lace_upto (W H : Int) (m : Nat) : List S34 := (lace_tab.take m).flatMap (lace_one W H)
def lace_list (W H L : Int) : List S34 := if L = 0 then [⟨0, 0, 1, 1, W, H⟩] else lace_upto W H 7
theorem lace_upto_len (W H : Int) (m : Nat) (h : m < 7) : (lace_upto W H m).length < 7 := by
  have key : ∀ l : List (Int × Int × Int × Int), (l.flatMap (lace_one W H)).length ≤ l.length := by
    intro l
    induction l with
    | nil => simp
    | cons x xs ih =>
      rw [List.flatMap_cons, List.length_append, List.length_cons]
      have : (lace_one W H x).length ≤ 1 := by unfold lace_one; split <;> simp
      omega
  have h1 := key (lace_tab.take m)
  have h2 : (lace_tab.take m).length ≤ m := by rw [List.length_take]; omega
  unfold lace_upto
  omega
def lace_cells (x : S34) : Array Value := #[.int .i64 x.f0, .int .i64 x.f1, .int .i64 x.f2, .int .i64 x.f3, .int .i64 x.f4, .int .i64 x.f5]
set_option maxHeartbeats 4000000 in
theorem lace_steps_in (n : Nat) (a b c : Int) (hc : c ≠ 0) (w : World) : CallsIn Fence.wide n Try.prog 29 #[.int .i64 a, .int .i64 b, .int .i64 c] w fun e w' => e = .returned (.int .i64 (lace_cnt a b c)) ∧ w' = w := by
  have hcb : (c == 0) = false := beq_eq_false_iff_ne.mpr hc
  refine callsIn_of_wp Try.func29 rfl trivial ?_ rfl
  simp only [Try.ntmps29, List.size_toArray, List.length_cons, List.length_nil, Nat.reduceAdd, Nat.reduceSub, Array.replicate_succ, Array.replicate_zero, List.push_toArray, List.append_toArray, List.nil_append, List.cons_append]
  unfold lace_cnt mx
  gi_wp2
  all_goals go_ret
  all_goals exact ⟨rfl, rfl⟩
def lace_allA : Array Value := #[.int .i64 0, .int .i64 0, .int .i64 8, .int .i64 8, .int .i64 4, .int .i64 0, .int .i64 8, .int .i64 8, .int .i64 0, .int .i64 4, .int .i64 4, .int .i64 8, .int .i64 2, .int .i64 0, .int .i64 4, .int .i64 4, .int .i64 0, .int .i64 2, .int .i64 2, .int .i64 4, .int .i64 1, .int .i64 0, .int .i64 2, .int .i64 2, .int .i64 0, .int .i64 1, .int .i64 1, .int .i64 2]
set_option maxHeartbeats 40000000 in
set_option maxRecDepth 100000 in
theorem lace_all_calls (w : World) : Calls Try.prog 28 #[] w fun e w' => e = .returned (.agg lace_allA) ∧ Below w.heap.size w w' := by
  have hu49 := Try.underlying49
  have hu48 := Try.underlying48
  have HB := Aside0.mk (Below.refl w.heap.size w)
  go_enter Try.func28, Try.ntmps28
  go_upto_region 1 with (first | ((with_reducible refine gate_dst (N := 0) rfl ?_); refine box_event ?hg (N := 0) ?hd (cs := #[.int .i64 0, .int .i64 0, .int .i64 0, .int .i64 0, .int .i64 0, .int .i64 0, .int .i64 0, .int .i64 0, .int .i64 0, .int .i64 0, .int .i64 0, .int .i64 0, .int .i64 0, .int .i64 0, .int .i64 0, .int .i64 0, .int .i64 0, .int .i64 0, .int .i64 0, .int .i64 0, .int .i64 0, .int .i64 0, .int .i64 0, .int .i64 0, .int .i64 0, .int .i64 0, .int .i64 0, .int .i64 0]) (t := 49) ?hr ?_; (case hd => rfl); (case hg => rfl); (case hr => first | (go_simp; done) | (go_simp; rfl)); intro gb101 hg w1 hbox hb; have n0_ := Aside0.mk (below_step (by repeat (first | (with_reducible first | exact HB.out | apply below_alloc | apply pw_below_drewN | apply below_drew1) | exact HB.out)) hb); have n1_ := Aside0.mk (hbox); have n2_ := Aside0.mk ((by rw [hg]; exact (below_size (by repeat (first | (with_reducible first | exact HB.out | apply below_alloc | apply pw_below_drewN | apply below_drew1) | exact HB.out))) : w.heap.size ≤ gb101)); have n3_ := Aside0.mk ((by rw [hg]; exact (below_size (by repeat (first | (with_reducible first | exact HB.out | apply below_alloc | apply pw_below_drewN | apply below_drew1) | exact HB.out))) : w.heap.size ≤ gb101)); clear HB; have HB := n0_; have BK101 := n1_; have GW101 := n2_; have GE101 := n3_; clear n0_ n1_ n2_ n3_; clear hb hbox hg))
  refine wp_region_list ?_
  refine wpList_build rfl 48 _ rfl (by kernel_rfl) ?_
  refine wpList_build rfl 48 _ rfl (by kernel_rfl) ?_
  refine wpList_build rfl 48 _ rfl (by kernel_rfl) ?_
  refine wpList_build rfl 48 _ rfl (by kernel_rfl) ?_
  refine wpList_build rfl 48 _ rfl (by kernel_rfl) ?_
  refine wpList_build rfl 48 _ rfl (by kernel_rfl) ?_
  refine wpList_build rfl 48 _ rfl (by kernel_rfl) ?_
  refine wpList_build rfl 49 _ rfl (by kernel_rfl) ?_
  refine wpList_store_row rfl 49 _ _ rfl gb101 lace_allA rfl (by kernel_rfl) 49 _ BK101.out (by kernel_rfl) rfl (by kernel_rfl) ?_
  have hrow := setRow_heap w1 gb101 _ lace_allA 49 (0, 0) BK101.out
  have hB1 : Below w.heap.size w (w1.setRow gb101 lace_allA) := ⟨HB.out.os, HB.out.tape, HB.out.output, by rw [setRow_size]; exact HB.out.size, fun k hk => (setRow_other w1 gb101 k lace_allA (by have := GE101.out; omega)).trans (HB.out.block k hk)⟩
  go_wp2
  refine bodyPost_ret (results_cell_row rfl _ _ gb101 49 lace_allA (0, 0) _ rfl hrow Try.underlying49 rfl (by kernel_rfl)) rfl ?_
  exact ⟨rfl, hB1⟩
theorem lace_all_in (n : Nat) (w : World) : CallsIn Fence.wide n Try.prog 28 #[] w fun e w' => e = .returned (.agg lace_allA) ∧ Below w.heap.size w w' :=
  callsIn_wide.2 (lace_all_calls w)
theorem lace_ix0 (w : World) : (Instr.index 49 (.agg lace_allA) (.int .i64 0)).run Try.prog w = .ok (.agg #[.int .i64 0, .int .i64 0, .int .i64 8, .int .i64 8]) w := by kernel_rfl
theorem lace_ix1 (w : World) : (Instr.index 49 (.agg lace_allA) (.int .i64 1)).run Try.prog w = .ok (.agg #[.int .i64 4, .int .i64 0, .int .i64 8, .int .i64 8]) w := by kernel_rfl
theorem lace_ix2 (w : World) : (Instr.index 49 (.agg lace_allA) (.int .i64 2)).run Try.prog w = .ok (.agg #[.int .i64 0, .int .i64 4, .int .i64 4, .int .i64 8]) w := by kernel_rfl
theorem lace_ix3 (w : World) : (Instr.index 49 (.agg lace_allA) (.int .i64 3)).run Try.prog w = .ok (.agg #[.int .i64 2, .int .i64 0, .int .i64 4, .int .i64 4]) w := by kernel_rfl
theorem lace_ix4 (w : World) : (Instr.index 49 (.agg lace_allA) (.int .i64 4)).run Try.prog w = .ok (.agg #[.int .i64 0, .int .i64 2, .int .i64 2, .int .i64 4]) w := by kernel_rfl
theorem lace_ix5 (w : World) : (Instr.index 49 (.agg lace_allA) (.int .i64 5)).run Try.prog w = .ok (.agg #[.int .i64 1, .int .i64 0, .int .i64 2, .int .i64 2]) w := by kernel_rfl
theorem lace_ix6 (w : World) : (Instr.index 49 (.agg lace_allA) (.int .i64 6)).run Try.prog w = .ok (.agg #[.int .i64 0, .int .i64 1, .int .i64 1, .int .i64 2]) w := by kernel_rfl
theorem lace_row (m : Nat) (hm : m < 7) (w : World) : ∃ p0 p1 p2 p3 : Int, (Instr.index 49 (.agg lace_allA) (.int .i64 (m : Int))).run Try.prog w = .ok (.agg #[.int .i64 p0, .int .i64 p1, .int .i64 p2, .int .i64 p3]) w ∧ p2 ≠ 0 ∧ p3 ≠ 0 ∧ ∀ a b, lace_upto a b (m + 1) = lace_upto a b m ++ lace_one a b (p0, p1, p2, p3) := by
  have up : ∀ (m : Nat) p (a b : Int), lace_tab[m]? = some p → lace_upto a b (m + 1) = lace_upto a b m ++ lace_one a b p := by
    intro m p a b h
    unfold lace_upto
    rw [List.take_add_one, h, List.flatMap_append]
    simp
  obtain h | h | h | h | h | h | h : m = 0 ∨ m = 1 ∨ m = 2 ∨ m = 3 ∨ m = 4 ∨ m = 5 ∨ m = 6 := by omega
  · subst h; exact ⟨_, _, _, _, lace_ix0 w, by decide, by decide, fun a b => up 0 _ a b rfl⟩
  · subst h; exact ⟨_, _, _, _, lace_ix1 w, by decide, by decide, fun a b => up 1 _ a b rfl⟩
  · subst h; exact ⟨_, _, _, _, lace_ix2 w, by decide, by decide, fun a b => up 2 _ a b rfl⟩
  · subst h; exact ⟨_, _, _, _, lace_ix3 w, by decide, by decide, fun a b => up 3 _ a b rfl⟩
  · subst h; exact ⟨_, _, _, _, lace_ix4 w, by decide, by decide, fun a b => up 4 _ a b rfl⟩
  · subst h; exact ⟨_, _, _, _, lace_ix5 w, by decide, by decide, fun a b => up 5 _ a b rfl⟩
  · subst h; exact ⟨_, _, _, _, lace_ix6 w, by decide, by decide, fun a b => up 6 _ a b rfl⟩
def lace_Kp (Bn : Nat) (A B : World) : Prop := B.heap[Bn]? = A.heap[Bn]?
set_option maxRecDepth 100000 in
set_option maxHeartbeats 8000000 in
theorem lace_each_in (n : Nat) (hn : 1 ≤ n) (l Bn : Nat) (h0 h1 h2 h3 h4 : Int) (J Jx : List S34 → World → Prop) (W : World) (hJa : AbidesFrom W.heap.size J)
    (hY : ∀ pre x W1, J pre W1 → pre.length < 7 → YieldAt Fence.wide (n - 1) Try.prog l #[.agg (lace_cells x)] W1 fun e W' => (e = .returned (.bool true) ∧ J (pre ++ [x]) W' ∧ lace_Kp Bn W1 W') ∨ (e = .returned (.bool false) ∧ Jx (pre ++ [x]) W'))
    (hB : W.heap[Bn]? = some (.cells #[.int .i64 h0, .int .i64 h1, .int .i64 h2, .int .i64 h3, .int .i64 h4] 23 (0, 0))) (hJ : J [] W) :
    CallsIn Fence.wide n Try.prog 27 #[.func (.yield l) #[] #[], .pointer (some ⟨Bn, 0, none⟩)] W fun e W' => (∃ v, e = .returned v) ∧ ((∃ ys, ys = lace_list h0 h1 h4 ∧ J ys W') ∨ (∃ pre, True ∧ Jx pre W')) := by
  have c4 : W.cell? ⟨Bn, 4, none⟩ = some (.int .i64 h4) := (blk_cell hB 4).trans rfl
  have c0 : W.cell? ⟨Bn, 0, none⟩ = some (.int .i64 h0) := (blk_cell hB 0).trans rfl
  have c1 : W.cell? ⟨Bn, 1, none⟩ = some (.int .i64 h1) := (blk_cell hB 1).trans rfl
  refine callsIn_of_wp Try.func27 rfl trivial ?_ rfl
  simp only [Try.ntmps27, List.size_toArray, List.length_cons, List.length_nil, Nat.reduceAdd, Nat.reduceSub, Array.replicate_succ, Array.replicate_zero, List.push_toArray, List.append_toArray, List.nil_append, List.cons_append]
  by_cases hL : h4 = 0
  · have hLb : (h4 == 0) = true := beq_iff_eq.mpr hL
    obtain ⟨fn, tmps, assign, body, hy, hR⟩ := hY [] ⟨0, 0, 1, 1, h0, h1⟩ W hJ (by simp)
    dsimp only [lace_cells] at hy
    have hlist : lace_list h0 h1 h4 = [⟨0, 0, 1, 1, h0, h1⟩] := if_pos hL
    gi_wp2
    refine hR.mono ?_
    rintro e W3 (⟨rfl, hJ3, hk3⟩ | ⟨rfl, hJx3⟩)
    · gi_wp2
      refine bodyPost_ret (results_none rfl _ _ _) rfl ?_
      exact ⟨⟨_, rfl⟩, .inl ⟨_, hlist.symm, hJ3⟩⟩
    · gi_wp2
      refine bodyPost_ret (results_none rfl _ _ _) rfl ?_
      exact ⟨⟨_, rfl⟩, .inr ⟨_, trivial, hJx3⟩⟩
  · have hLb : (h4 == 0) = false := beq_eq_false_iff_ne.mpr hL
    have hlist : lace_list h0 h1 h4 = lace_upto h0 h1 7 := if_neg hL
    have hlt0 : Bn < W.heap.size := (Array.getElem?_eq_some_iff.1 hB).1
    gi_wp2_with (refine ⟨trivial, ?_⟩; gi_at_call 28; refine (lace_all_in _ _).mono ?_; rintro e w2 ⟨rfl, hb2⟩)

    gi_loopw [18] (fun p wr => ∃ m : Nat, p = .int .i64 (m : Int) ∧ m ≤ 7 ∧ wr.heap[Bn]? = some (.cells #[.int .i64 h0, .int .i64 h1, .int .i64 h2, .int .i64 h3, .int .i64 h4] 23 (0, 0)) ∧ J (lace_upto h0 h1 m) wr) (fun p wr => 7 - (intOf p).toNat)
    case atStart =>
      exact ⟨0, rfl, by omega, (hb2.block Bn hlt0).trans hB, hJa _ _ _ none hJ ⟨hb2.os, hb2.tape, hb2.output, hb2.size, fun k hk _ => hb2.block k hk⟩ (fun r e => by cases e)⟩
    case round =>
      obtain ⟨m, rfl, hm, hB', hJs⟩ := hrel
      have c0 : wr.cell? ⟨Bn, 0, none⟩ = some (.int .i64 h0) := (blk_cell hB' 0).trans rfl
      have c1 : wr.cell? ⟨Bn, 1, none⟩ = some (.int .i64 h1) := (blk_cell hB' 1).trans rfl
      by_cases h7 : m = 7
      · subst h7
        gi_wp2
        go_end0
        exact ⟨⟨_, rfl⟩, .inl ⟨_, hlist.symm, hJs⟩⟩
      · have hm7 : m < 7 := by omega
        have hmb : decide ((m : Int) < 7) = true := decide_eq_true (by omega)
        have hlt : Bn < wr.heap.size := (Array.getElem?_eq_some_iff.1 hB').1
        obtain ⟨p0, p1, p2, p3, hix, hp2, hp3, hup⟩ := lace_row m hm7 wr
        gi_wp2
        have hb5 : (wr.alloc (.cells #[.int .i64 p0, .int .i64 p1, .int .i64 p2, .int .i64 p3] 48)).heap[Bn]? = some (.cells #[.int .i64 h0, .int .i64 h1, .int .i64 h2, .int .i64 h3, .int .i64 h4] 23 (0, 0)) := (Below.heap_alloc wr _ Bn hlt).trans hB'
        have hp5 : (wr.alloc (.cells #[.int .i64 p0, .int .i64 p1, .int .i64 p2, .int .i64 p3] 48)).heap[wr.heap.size]? = some (.cells #[.int .i64 p0, .int .i64 p1, .int .i64 p2, .int .i64 p3] 48 (0, 0)) := World.alloc_heap_new wr _
        have hJ5 : J (lace_upto h0 h1 m) (wr.alloc (.cells #[.int .i64 p0, .int .i64 p1, .int .i64 p2, .int .i64 p3] 48)) := hJa _ _ _ none hJs (World.grownBy_alloc wr _ none) (fun r e => by cases e)
        generalize wr.alloc (.cells #[.int .i64 p0, .int .i64 p1, .int .i64 p2, .int .i64 p3] 48) = w5 at *
        generalize wr.heap.size = gp at *
        have d0 : w5.cell? ⟨Bn, 0, none⟩ = some (.int .i64 h0) := (blk_cell hb5 0).trans rfl
        have d1 : w5.cell? ⟨Bn, 1, none⟩ = some (.int .i64 h1) := (blk_cell hb5 1).trans rfl
        have e0 : w5.cell? ⟨gp, 0, none⟩ = some (.int .i64 p0) := (blk_cell hp5 0).trans rfl
        have e1 : w5.cell? ⟨gp, 1, none⟩ = some (.int .i64 p1) := (blk_cell hp5 1).trans rfl
        have e2 : w5.cell? ⟨gp, 2, none⟩ = some (.int .i64 p2) := (blk_cell hp5 2).trans rfl
        have e3 : w5.cell? ⟨gp, 3, none⟩ = some (.int .i64 p3) := (blk_cell hp5 3).trans rfl
        clear hix c0 c1
        refine wpIn_wide.2 ?_
        go_quiet ((go_at_call 29; refine Calls.quiet_of_same (callsIn_wide.1 (lace_steps_in 9 _ _ _ (by assumption) _))))
        have hJ6 : J (lace_upto h0 h1 m) (w5.drewN nq) := hJa _ _ _ none hJ5 (⟨rfl, rfl, rfl, Nat.le_refl _, fun _ _ _ => rfl⟩ : w5.grownBy (w5.drewN nq) none) (fun r e => by cases e)
        have hlen : (lace_upto h0 h1 m).length < 7 := lace_upto_len h0 h1 m hm7
        obtain ⟨fn, tmps, assign, body, hy, hR⟩ := hY _ ⟨p0, p1, p2, p3, lace_cnt h0 p0 p2, lace_cnt h1 p1 p3⟩ _ hJ6 hlen
        dsimp only [lace_cells] at hy
        have hb6 : (w5.drewN nq).heap[Bn]? = some (.cells #[.int .i64 h0, .int .i64 h1, .int .i64 h2, .int .i64 h3, .int .i64 h4] 23 (0, 0)) := hb5
        clear hb5 hp5
        have hw1 : wrap64 ((m : Int) + 1) = ((m + 1 : Nat) : Int) := by unfold wrap64; omega
        have hmm : 7 - (m + 1) < 7 - m := by omega
        gi_wp2
        · have hpos : 0 < wrap64 (lace_cnt h0 p0 p2 * lace_cnt h1 p1 p3) := by assumption
          have hone : lace_upto h0 h1 (m + 1) = lace_upto h0 h1 m ++ [⟨p0, p1, p2, p3, lace_cnt h0 p0 p2, lace_cnt h1 p1 p3⟩] := by rw [hup]; unfold lace_one; rw [if_pos hpos]
          refine hR.mono ?_
          rintro e W3 (⟨rfl, hJ3, hk3⟩ | ⟨rfl, hJx3⟩)
          · gi_wp2
            go_roundw
            case rel => exact ⟨m + 1, rfl, by omega, hk3.trans hb6, by rw [hone]; exact hJ3⟩
            case measure => simp only [intOf]; omega
          · gi_wp2
            refine bodyPost_ret (results_none rfl _ _ _) rfl ?_
            exact ⟨⟨_, rfl⟩, .inr ⟨_, trivial, hJx3⟩⟩
        · have hpos : wrap64 (lace_cnt h0 p0 p2 * lace_cnt h1 p1 p3) ≤ 0 := by assumption
          have hone : lace_upto h0 h1 (m + 1) = lace_upto h0 h1 m := by rw [hup]; unfold lace_one; rw [if_neg (Int.not_lt.mpr hpos), List.append_nil]
          refine ⟨fun _ h => (by cases h), ?_⟩
          gi_wp2
          go_roundw
          case rel => exact ⟨m + 1, rfl, by omega, hb6, by rw [hone]; exact hJ6⟩
          case measure => simp only [intOf]; omega
set_option maxHeartbeats 4000000 in
theorem lace_mk_in (n : Nat) (h0 h1 h2 h3 h4 : Int) (w : World) : CallsIn Fence.wide n Try.prog 19 #[.agg #[.int .i64 h0, .int .i64 h1, .int .i64 h2, .int .i64 h3, .int .i64 h4]] w fun e w' => e = .returned (.func (.func 27) #[] #[.pointer (some ⟨w.heap.size, 0, none⟩)]) ∧ w' = w.alloc (.cells #[.int .i64 h0, .int .i64 h1, .int .i64 h2, .int .i64 h3, .int .i64 h4] 23) := by
  refine callsIn_of_wp Try.func19 rfl trivial ?_ rfl
  simp only [Try.ntmps19, List.size_toArray, List.length_cons, List.length_nil, Nat.reduceAdd, Nat.reduceSub, Array.replicate_succ, Array.replicate_zero, List.push_toArray, List.append_toArray, List.nil_append, List.cons_append]
  gi_wp2
  go_ret
  exact ⟨rfl, rfl⟩
theorem lace_stops (n : Nat) (hn : 1 ≤ n) (Bn : Nat) (h0 h1 h2 h3 h4 : Int) (w : World) (hBn : Bn < w.heap.size) (hB : w.heap[Bn]? = some (.cells #[.int .i64 h0, .int .i64 h1, .int .i64 h2, .int .i64 h3, .int .i64 h4] 23 (0, 0))) :
    SeqStopsK Fence.wide n Try.prog 27 #[.pointer (some ⟨Bn, 0, none⟩)] (fun x : S34 => #[Value.agg (lace_cells x)]) (lace_Kp Bn) (fun ys => ys = lace_list h0 h1 h4) (fun _ => True) 7 w := fun l J Jx W hW hJa _ hY hJ =>
  lace_each_in n hn l Bn h0 h1 h2 h3 h4 J Jx W hJa hY ((hW.block Bn hBn).trans hB) hJ
theorem lace_heads_own {β : Type} {B : Nat} {cs : Array Value} {t : TypeId} : Own (fun (_ : β) (W : World) => W.heap[B]? = some (.cells cs t (0, 0))) := by
  intro s X Y row hs hg hr
  refine (hg.block B (Array.getElem?_eq_some_iff.1 hs).1 (fun e => ?_)).trans hs
  obtain ⟨o, ho, hc⟩ := hr B e.symm
  rw [hs] at ho
  cases ho
  cases hc
theorem lace_reps {R : S34 → List Value → Prop} (hR : ∀ x, R x (lace_cells x).toList) : ∀ ys xs : List S34, Reps R 6 xs (xs.flatMap fun x => (lace_cells x).toList) → Reps R 6 (xs ++ ys) ((xs ++ ys).flatMap fun x => (lace_cells x).toList) := by
  intro ys
  induction ys with
  | nil => intro xs h; rw [List.append_nil]; exact h
  | cons y ys ih =>
    intro xs h
    have h2 := ih (xs ++ [y]) (by rw [List.flatMap_append]; simpa using h.snoc (hR y) rfl)
    simpa using h2
def lace_Passes.f (k : Nat) (a0_0 a0_1 a0_2 a0_3 a0_4 : Int) : Option (List S34) := (head_Right.f k a0_0 a0_1 a0_2 a0_3 a0_4).bind fun t => if t = 0 then some (lace_list a0_0 a0_1 a0_4) else some []
theorem lace_Passes.mono : ∀ a0 a1 a2 a3 a4 k, LeO (lace_Passes.f k a0 a1 a2 a3 a4) (lace_Passes.f (k + 1) a0 a1 a2 a3 a4) := by
  intro a0 a1 a2 a3 a4 k
  unfold lace_Passes.f
  exact LeO.bind (head_Right.mono _ _ _ _ _ _) (fun _ => LeO.refl _)
set_option maxRecDepth 100000 in
set_option maxHeartbeats 8000000 in
theorem lace_Passes.calls (k : Nat) (a0_0 : Int) (a0_1 : Int) (a0_2 : Int) (a0_3 : Int) (a0_4 : Int) (r : List (S34)) (w : World) (h : lace_Passes.f k a0_0 a0_1 a0_2 a0_3 a0_4 = some r) :
    Calls Try.prog 11 #[.agg #[.int .i64 a0_0, .int .i64 a0_1, .int .i64 a0_2, .int .i64 a0_3, .int .i64 a0_4]] w fun e w' => ∃ v0_ : Value, e = .returned (v0_) ∧ Kd.R k34 34 w' w.heap.size (fun _ => True) v0_ r ∧ Below w.heap.size w w' := by
  unfold lace_Passes.f at h
  obtain ⟨t, ht, h⟩ := Option.bind_eq_some_iff.mp h
  refine (callsIn_wide (n := 5)).1 ?_
  refine callsIn_of_wp_marks Try.func11 rfl trivial ?_ rfl
  simp only [Try.ntmps11, List.size_toArray, List.length_cons, List.length_nil, Nat.reduceAdd, Nat.reduceSub, Array.replicate_succ, Array.replicate_zero, List.push_toArray, List.append_toArray, List.nil_append, List.cons_append]
  have hbx := World.alloc_heap_new w (.cells #[.int .i64 a0_0, .int .i64 a0_1, .int .i64 a0_2, .int .i64 a0_3, .int .i64 a0_4] 23)
  by_cases h0 : t = 0
  · rw [if_pos h0] at h
    obtain rfl := Option.some.inj h
    have hb0 : (t != 0) = false := bne_eq_false_iff_eq.mpr h0
    gi_wp2_with (first | (refine ⟨trivial, ?_⟩; gi_at_call 18; refine (callsIn_wide.2 (head_Right.calls k _ _ _ _ _ t _ ht)).mono ?_; rintro e w2 ⟨rfl, hb2⟩; have hbx2 := (hb2.block w.heap.size (by simp)).trans hbx; have q0 := (blk_cell hbx2 0).trans rfl; have q1 := (blk_cell hbx2 1).trans rfl; have q2 := (blk_cell hbx2 2).trans rfl; have q3 := (blk_cell hbx2 3).trans rfl; have q4 := (blk_cell hbx2 4).trans rfl; have hbx3 := (Below.heap_alloc w2 (.cells #[.slice none 0 0] 25) w.heap.size (Array.getElem?_eq_some_iff.1 hbx2).1).trans hbx2; have p0 := (blk_cell hbx3 0).trans rfl; have p1 := (blk_cell hbx3 1).trans rfl; have p2 := (blk_cell hbx3 2).trans rfl; have p3 := (blk_cell hbx3 3).trans rfl; have p4 := (blk_cell hbx3 4).trans rfl) | (refine ⟨trivial, ?_⟩; gi_at_call 19; refine (lace_mk_in _ _ _ _ _ _ _).mono ?_; rintro e w3 ⟨rfl, rfl⟩))
    have hsz2 : w.heap.size < w2.heap.size := (Array.getElem?_eq_some_iff.1 hbx2).1
    have bO : Boxed ((w2.alloc (.cells #[.slice none 0 0] 25)).alloc (.cells #[.int .i64 a0_0, .int .i64 a0_1, .int .i64 a0_2, .int .i64 a0_3, .int .i64 a0_4] 23)) w2.heap.size 25 (.slice none 0 0) := (Boxed.new w2 25 (.slice none 0 0)).alloc _
    have hBn := World.alloc_heap_new (w2.alloc (.cells #[.slice none 0 0] 25)) (.cells #[.int .i64 a0_0, .int .i64 a0_1, .int .i64 a0_2, .int .i64 a0_3, .int .i64 a0_4] 23)
    have hB0 : Below w.heap.size w ((w2.alloc (.cells #[.slice none 0 0] 25)).alloc (.cells #[.int .i64 a0_0, .int .i64 a0_1, .int .i64 a0_2, .int .i64 a0_3, .int .i64 a0_4] 23)) := ((((Below.refl _ w).alloc (Nat.le_refl _) _).trans (hb2.mono (by simp))).alloc (by omega) _).alloc (by simp; omega) _
    have hs0 : ((w2.alloc (.cells #[.slice none 0 0] 25)).alloc (.cells #[.int .i64 a0_0, .int .i64 a0_1, .int .i64 a0_2, .int .i64 a0_3, .int .i64 a0_4] 23)).heap.size = w2.heap.size + 2 := by simp
    rw [World.size_alloc] at hBn
    generalize (w2.alloc (.cells #[.slice none 0 0] 25)).alloc (.cells #[.int .i64 a0_0, .int .i64 a0_1, .int .i64 a0_2, .int .i64 a0_3, .int .i64 a0_4] 23) = W0 at *
    refine wpIn_rangeFunc_ownH rfl (by omega) (gf := 27) (lb := #[.pointer (some ⟨w2.heap.size + 1, 0, none⟩)]) rfl trivial (enters_of Try.func27 (by kernel_rfl) rfl)
      (lace_stops 4 (by omega) (w2.heap.size + 1) a0_0 a0_1 a0_2 a0_3 a0_4 W0 (by omega) hBn) (fun h1 h2 => h2.trans h1)
      (fun W l o o' hl hlo _ _ => World.putObj_heap_other (by omega)) (Below.refl _ _) (fun _ => rfl)
      (fun pre W => (∃ v, Boxed W w2.heap.size 25 v ∧ W.ownsRow w.heap.size 34 6 v pre.length (pre.flatMap fun x => (lace_cells x).toList) ∧ True) ∧ W.heap[w2.heap.size + 1]? = some (.cells #[.int .i64 a0_0, .int .i64 a0_1, .int .i64 a0_2, .int .i64 a0_3, .int .i64 a0_4] 23 (0, 0)) ∧ Below w.heap.size w W)
      (fun _ _ _ => False)
      (OwnFrom.and (Own.from (holdsRow_own w.heap.size w2.heap.size 25 34 6 (fun pre : List S34 => pre.length) (fun pre => pre.flatMap fun x => (lace_cells x).toList) (fun _ _ => True)) _) (OwnFrom.and (Own.from lace_heads_own _) (ownFrom_below (Nat.le_refl _) (by omega))))
      (fun _ _ _ _ _ hs _ _ => hs)
      ⟨⟨_, bO, World.ownsRow_nil _ _ _ _, trivial⟩, hBn, hB0⟩
      (fun x a' W => ∃ Bx, W.heap[Bx]? = some (.cells (lace_cells x) 34 (0, 0)) ∧ a' = { tmps := #[.agg #[.int .i64 a0_0, .int .i64 a0_1, .int .i64 a0_2, .int .i64 a0_3, .int .i64 a0_4], .pointer (some ⟨w.heap.size, 0, none⟩), .slice none 0 0, .pointer (some ⟨w2.heap.size, 0, none⟩), .pointer (some ⟨Bx, 0, none⟩), .agg #[.int .i64 a0_0, .int .i64 a0_1, .int .i64 a0_2, .int .i64 a0_3, .int .i64 a0_4], .int .i64 0, .bool false, .agg #[.int .i64 a0_0, .int .i64 a0_1, .int .i64 a0_2, .int .i64 a0_3, .int .i64 a0_4], .func (.func 27) #[] #[.pointer (some ⟨w2.heap.size + 1, 0, none⟩)], .agg (lace_cells x), undef, undef, undef, undef, undef], defers := [] })
      ?hAx ?assign ?body ?done ?stop
    case hAx =>
      rintro x a' _ X Y row ⟨Bx, hx, ha⟩ hg hr
      refine ⟨Bx, (hg.block Bx (Array.getElem?_eq_some_iff.1 hx).1 (fun e => ?_)).trans hx, ha⟩
      obtain ⟨_, o, ho, hc⟩ := hr Bx e.symm
      rw [hx] at ho
      cases ho
      cases hc
    case assign =>
      rintro l pre x W K ⟨⟨v, hv, hrow, _⟩, hH, hB⟩ hK
      simp only [lace_cells]
      gi_wp2
      refine hK _ _ ((KeepsOthers.alloc _ _).from _) ?_ ⟨⟨v, hv.alloc _, hrow.alloc _, trivial⟩, (Below.heap_alloc W _ _ (Array.getElem?_eq_some_iff.1 hH).1).trans hH, hB.alloc (by have := hB.size; omega) _⟩ ⟨W.heap.size, World.alloc_heap_new W _, rfl⟩
      exact Below.heap_alloc W _ _ (Array.getElem?_eq_some_iff.1 hH).1
    case body =>
      rintro l pre x a' W hl hr ⟨⟨v, hv, hrow, _⟩, hH, hB⟩ ⟨Bx, hx, rfl⟩ hlt
      have hc := hv.cell
      have x0 : W.cell? ⟨Bx, 0, none⟩ = some (.int .i64 x.f0) := (blk_cell hx 0).trans rfl
      have x1 : W.cell? ⟨Bx, 1, none⟩ = some (.int .i64 x.f1) := (blk_cell hx 1).trans rfl
      have x2 : W.cell? ⟨Bx, 2, none⟩ = some (.int .i64 x.f2) := (blk_cell hx 2).trans rfl
      have x3 : W.cell? ⟨Bx, 3, none⟩ = some (.int .i64 x.f3) := (blk_cell hx 3).trans rfl
      have x4 : W.cell? ⟨Bx, 4, none⟩ = some (.int .i64 x.f4) := (blk_cell hx 4).trans rfl
      have x5 : W.cell? ⟨Bx, 5, none⟩ = some (.int .i64 x.f5) := (blk_cell hx 5).trans rfl
      obtain ⟨i0, hi, hz0, hz1, hz2⟩ := info_parts (show (Try.prog.info? 34).map (fun i => (i.zero, i.size, i.bytes)) = some (some (.agg #[.int .i64 0, .int .i64 0, .int .i64 0, .int .i64 0, .int .i64 0, .int .i64 0]), 6, 48) by kernel_rfl)
      have hb1 : pre.length + 1 ≤ maxLen := by simp only [maxLen]; omega
      have hb2_ : (pre.length + 1) * 48 ≤ 140737488355328 := by omega
      have hb3 : ∀ o, w.heap.size ≤ (W.alloc o).heap.size := fun o => by have := hB.size; have h_ := hB0.size; simp; omega
      gi_wp2_with (gi_at_builtin; refine wpListIn_append_own _ rfl _ _ 25 rfl w.heap.size 34 i0 _ 6 48 Try.underlying25 hi hz0 hz1 hz2 rfl (by decide) _ _ _ rfl (hrow.alloc _) ⟨W.heap.size, 0, none⟩ 1 1 [.int .i64 x.f0, .int .i64 x.f1, .int .i64 x.f2, .int .i64 x.f3, .int .i64 x.f4, .int .i64 x.f5] rfl rfl (by simpa using World.news_of_block (cs := #[.int .i64 x.f0, .int .i64 x.f1, .int .i64 x.f2, .int .i64 x.f3, .int .i64 x.f4, .int .i64 x.f5]) (t := 34) (fr := (0, 0)) (World.alloc_heap_new W (.cells #[.int .i64 x.f0, .int .i64 x.f1, .int .i64 x.f2, .int .i64 x.f3, .int .i64 x.f4, .int .i64 x.f5] 34))) (by simp [Value.oneCell']) hb1 hb2_ (hb3 _) ?_; intro v' w1 hown' hgrow _; obtain ⟨g', cap', rfl⟩ := ownsRow_succ hown'; obtain ⟨hv1, hv2, hr2, hk2, hb2'⟩ := hv.appended (by decide) hrow hB.size (by omega) hown' hgrow; have hc1 := hv1.cell; have hf1 := hv1.frozen)
      have hkp : lace_Kp (w2.heap.size + 1) W (w1.setCell ⟨w2.heap.size, 0, none⟩ (.slice (some ⟨g', 0, none⟩) (pre.length + 1) cap')) := by
        have hltB := (Array.getElem?_eq_some_iff.1 hH).1
        refine (Below.heap_setCell w1 ⟨w2.heap.size, 0, none⟩ _ (w2.heap.size + 1) (by simp)).trans ?_
        refine (hgrow.block (w2.heap.size + 1) (by rw [World.size_alloc]; omega) (own_ne hrow hH (by decide))).trans ?_
        exact Below.heap_alloc W _ _ hltB
      exact ⟨hk2.from _, hkp, ⟨_, hv2, by simpa [lace_cells] using hr2, trivial⟩, hkp.trans hH, hB.trans hb2'⟩
    case done =>
      rintro D ys W hD rfl ⟨⟨v, hv, hrow, _⟩, hH, hB⟩ hK
      have hc := hv.cell
      gi_wp2
      refine ⟨by simp, .inl ⟨_, _, rfl, run_takeDeferred hK, ?_⟩⟩
      refine ⟨_, results_tmp rfl _ _ _, v, rfl, ⟨fun _ _ => trivial, _, ownsRow_putObj hrow _ hK rfl, ?_⟩, hB.trans (belowK_b (w := w) (Nat.le_refl _) W D _ _ (by have := hB0.size; omega) hK rfl rfl)⟩
      exact lace_reps (fun x => k34_mkM _ _ _ x) _ [] (Reps.none _ _)
    case stop =>
      rintro D c pre W _ _ h _
      exact h.elim
  · rw [if_neg h0] at h
    obtain rfl := Option.some.inj h
    have hb0 : (t != 0) = true := bne_iff_ne.mpr h0
    gi_wp2_with (refine ⟨trivial, ?_⟩; gi_at_call 18; refine (callsIn_wide.2 (head_Right.calls k _ _ _ _ _ t _ ht)).mono ?_; rintro e w2 ⟨rfl, hb2⟩)
    have hsz2 : w.heap.size < w2.heap.size := Nat.lt_of_lt_of_le (by simp) hb2.size
    refine ⟨_, results_tmp rfl _ _ _, _, rfl, Kd.R_nil _ _ _ _ _, ?_⟩
    exact ((Below.refl _ w).alloc (Nat.le_refl _) _).trans (hb2.mono (by simp))
end


end Go.Proofs.Ytlonbchidopcpaa.PL10
