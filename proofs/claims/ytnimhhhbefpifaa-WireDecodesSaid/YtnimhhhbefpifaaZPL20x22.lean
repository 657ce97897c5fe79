/- Printed for this claim by a program of this session over the kit's print program: the Go functions as Lean functions, and proofs that the calls come to these answers. No conditions. -/
import Derived.Test.YtnimhhhbefpifaaZPL20x0
import Derived.Test.YtnimhhhbefpifaaZPL20x1
namespace Go.Proofs.Ytnimhhhbefpifaa.PL20
open Go.RowKit Go.Proofs.YtnimhhhbefpifaaW.PrintWords Go.Proofs.YtnimhhhbefpifaaW.PrintLast Go.Proofs.YtnimhhhbefpifaaW.PrintMore
attribute [local go_sem] max2_int min2_int max_two min_two max_three min_three max_four min_four   -- for this text's walks alone
set_option linter.unusedVariables false
set_option linter.unusedSimpArgs false

attribute [local go_sem high] eqA23
/-! ### vitrineref20_Same: function 14 -/
mutual
def vitrineref20_Same.j0 : Nat → Bool → Int → Int → Int → Int → ByteArray → Int → Int → ByteArray → List ByteArray → Int → Int → Int → Int → ByteArray → Int → Int → ByteArray → List ByteArray → Option (Bool)
  | 0, _, _, _, _, _, _, _, _, _, _, _, _, _, _, _, _, _, _, _ => none
  | k + 1, x61, x199000, x199001, x199002, x199003, x199004, x199005, x199006, x199007, x199008, x200000, x200001, x200002, x200003, x200004, x200005, x200006, x200007, x200008 => if x61 = true then (some false) else (vitrineref20_Same.l0 k 0 x199000 x199001 x199002 x199003 x199004 x199005 x199006 x199007 x199008 x200000 x200001 x200002 x200003 x200004 x200005 x200006 x200007 x200008)
def vitrineref20_Same.l0 : Nat → Int → Int → Int → Int → Int → ByteArray → Int → Int → ByteArray → List ByteArray → Int → Int → Int → Int → ByteArray → Int → Int → ByteArray → List ByteArray → Option (Bool)
  | 0, _, _, _, _, _, _, _, _, _, _, _, _, _, _, _, _, _, _, _ => none
  | k + 1, x5, x199000, x199001, x199002, x199003, x199004, x199005, x199006, x199007, x199008, x200000, x200001, x200002, x200003, x200004, x200005, x200006, x200007, x200008 => if x5 < (x199008.length : Int) then (if 0 ≤ x5 then (if x5 < (x200008.length : Int) then (if (rdOf ByteArray.empty x199008 x5).toList = (rdOf ByteArray.empty x200008 x5).toList then (vitrineref20_Same.l0 k (wrap64 (x5 + 1)) x199000 x199001 x199002 x199003 x199004 x199005 x199006 x199007 x199008 x200000 x200001 x200002 x200003 x200004 x200005 x200006 x200007 x200008) else (some false)) else (none)) else (none)) else (some true)
end
def vitrineref20_Same.f (k : Nat) (a0_0 : Int) (a0_1 : Int) (a0_2 : Int) (a0_3 : Int) (a0_4 : ByteArray) (a0_5 : Int) (a0_6 : Int) (a0_7 : ByteArray) (l0_8 : List ByteArray) (a1_0 : Int) (a1_1 : Int) (a1_2 : Int) (a1_3 : Int) (a1_4 : ByteArray) (a1_5 : Int) (a1_6 : Int) (a1_7 : ByteArray) (l1_8 : List ByteArray) : Option (Bool) := if a0_0 = a1_0 then (if a0_1 = a1_1 then (if a0_2 = a1_2 then (if a0_3 = a1_3 then (if a0_4.toList = a1_4.toList then (if (!(a0_5 == a1_5) || (!(a0_6 == a1_6))) = true then (vitrineref20_Same.j0 k true a0_0 a0_1 a0_2 a0_3 a0_4 a0_5 a0_6 a0_7 l0_8 a1_0 a1_1 a1_2 a1_3 a1_4 a1_5 a1_6 a1_7 l1_8) else (if a0_7.toList = a1_7.toList then (vitrineref20_Same.j0 k ((l0_8.length : Int) != (l1_8.length : Int)) a0_0 a0_1 a0_2 a0_3 a0_4 a0_5 a0_6 a0_7 l0_8 a1_0 a1_1 a1_2 a1_3 a1_4 a1_5 a1_6 a1_7 l1_8) else (vitrineref20_Same.j0 k true a0_0 a0_1 a0_2 a0_3 a0_4 a0_5 a0_6 a0_7 l0_8 a1_0 a1_1 a1_2 a1_3 a1_4 a1_5 a1_6 a1_7 l1_8))) else (vitrineref20_Same.j0 k true a0_0 a0_1 a0_2 a0_3 a0_4 a0_5 a0_6 a0_7 l0_8 a1_0 a1_1 a1_2 a1_3 a1_4 a1_5 a1_6 a1_7 l1_8)) else (vitrineref20_Same.j0 k true a0_0 a0_1 a0_2 a0_3 a0_4 a0_5 a0_6 a0_7 l0_8 a1_0 a1_1 a1_2 a1_3 a1_4 a1_5 a1_6 a1_7 l1_8)) else (vitrineref20_Same.j0 k true a0_0 a0_1 a0_2 a0_3 a0_4 a0_5 a0_6 a0_7 l0_8 a1_0 a1_1 a1_2 a1_3 a1_4 a1_5 a1_6 a1_7 l1_8)) else (vitrineref20_Same.j0 k true a0_0 a0_1 a0_2 a0_3 a0_4 a0_5 a0_6 a0_7 l0_8 a1_0 a1_1 a1_2 a1_3 a1_4 a1_5 a1_6 a1_7 l1_8)) else (vitrineref20_Same.j0 k true a0_0 a0_1 a0_2 a0_3 a0_4 a0_5 a0_6 a0_7 l0_8 a1_0 a1_1 a1_2 a1_3 a1_4 a1_5 a1_6 a1_7 l1_8)
theorem vitrineref20_Same.mono_l : ∀ k, (∀ y0 y1 y2 y3 y4 y5 y6 y7 y8 y9 y10 y11 y12 y13 y14 y15 y16 y17 y18, LeO (vitrineref20_Same.j0 k y0 y1 y2 y3 y4 y5 y6 y7 y8 y9 y10 y11 y12 y13 y14 y15 y16 y17 y18) (vitrineref20_Same.j0 (k + 1) y0 y1 y2 y3 y4 y5 y6 y7 y8 y9 y10 y11 y12 y13 y14 y15 y16 y17 y18)) ∧ (∀ y0 y1 y2 y3 y4 y5 y6 y7 y8 y9 y10 y11 y12 y13 y14 y15 y16 y17 y18, LeO (vitrineref20_Same.l0 k y0 y1 y2 y3 y4 y5 y6 y7 y8 y9 y10 y11 y12 y13 y14 y15 y16 y17 y18) (vitrineref20_Same.l0 (k + 1) y0 y1 y2 y3 y4 y5 y6 y7 y8 y9 y10 y11 y12 y13 y14 y15 y16 y17 y18))
  | 0 => ⟨fun _ _ _ _ _ _ _ _ _ _ _ _ _ _ _ _ _ _ _ r h => by simp [vitrineref20_Same.j0] at h, fun _ _ _ _ _ _ _ _ _ _ _ _ _ _ _ _ _ _ _ r h => by simp [vitrineref20_Same.l0] at h⟩
  | k + 1 => by
    obtain ⟨ih0, ih1⟩ := vitrineref20_Same.mono_l k
    refine ⟨?_, ?_⟩
    · intro y0 y1 y2 y3 y4 y5 y6 y7 y8 y9 y10 y11 y12 y13 y14 y15 y16 y17 y18
      unfold vitrineref20_Same.j0
      repeat' first
      | (with_reducible exact ih0 _ _ _ _ _ _ _ _ _ _ _ _ _ _ _ _ _ _ _)
      | (with_reducible exact ih1 _ _ _ _ _ _ _ _ _ _ _ _ _ _ _ _ _ _ _)
      | (with_reducible exact LeO.refl _)
      | (with_reducible exact LeO.none _)
      | (with_reducible refine LeO.ite ?_ ?_)
      | (with_reducible refine LeO.bind ?_ (fun _ => ?_))
      | exact ih0 _ _ _ _ _ _ _ _ _ _ _ _ _ _ _ _ _ _ _
      | exact ih1 _ _ _ _ _ _ _ _ _ _ _ _ _ _ _ _ _ _ _
      | exact LeO.none _
      | refine LeO.ite ?_ ?_
      | refine LeO.bind ?_ (fun _ => ?_)
    · intro y0 y1 y2 y3 y4 y5 y6 y7 y8 y9 y10 y11 y12 y13 y14 y15 y16 y17 y18
      unfold vitrineref20_Same.l0
      repeat' first
      | (with_reducible exact ih0 _ _ _ _ _ _ _ _ _ _ _ _ _ _ _ _ _ _ _)
      | (with_reducible exact ih1 _ _ _ _ _ _ _ _ _ _ _ _ _ _ _ _ _ _ _)
      | (with_reducible exact LeO.refl _)
      | (with_reducible exact LeO.none _)
      | (with_reducible refine LeO.ite ?_ ?_)
      | (with_reducible refine LeO.bind ?_ (fun _ => ?_))
      | exact ih0 _ _ _ _ _ _ _ _ _ _ _ _ _ _ _ _ _ _ _
      | exact ih1 _ _ _ _ _ _ _ _ _ _ _ _ _ _ _ _ _ _ _
      | exact LeO.none _
      | refine LeO.ite ?_ ?_
      | refine LeO.bind ?_ (fun _ => ?_)
theorem vitrineref20_Same.mono : ∀ a0 a1 a2 a3 a4 a5 a6 a7 a8 a9 a10 a11 a12 a13 a14 a15 a16 a17 k, LeO (vitrineref20_Same.f k a0 a1 a2 a3 a4 a5 a6 a7 a8 a9 a10 a11 a12 a13 a14 a15 a16 a17) (vitrineref20_Same.f (k + 1) a0 a1 a2 a3 a4 a5 a6 a7 a8 a9 a10 a11 a12 a13 a14 a15 a16 a17) := by
  intro a0 a1 a2 a3 a4 a5 a6 a7 a8 a9 a10 a11 a12 a13 a14 a15 a16 a17 k
  obtain ⟨ih0, ih1⟩ := vitrineref20_Same.mono_l k
  unfold vitrineref20_Same.f
  repeat' first
      | (with_reducible exact ih0 _ _ _ _ _ _ _ _ _ _ _ _ _ _ _ _ _ _ _)
      | (with_reducible exact ih1 _ _ _ _ _ _ _ _ _ _ _ _ _ _ _ _ _ _ _)
      | (with_reducible exact LeO.refl _)
      | (with_reducible exact LeO.none _)
      | (with_reducible refine LeO.ite ?_ ?_)
      | (with_reducible refine LeO.bind ?_ (fun _ => ?_))
      | exact ih0 _ _ _ _ _ _ _ _ _ _ _ _ _ _ _ _ _ _ _
      | exact ih1 _ _ _ _ _ _ _ _ _ _ _ _ _ _ _ _ _ _ _
      | exact LeO.none _
      | refine LeO.ite ?_ ?_
      | refine LeO.bind ?_ (fun _ => ?_)
set_option maxHeartbeats 40000000 in
set_option maxRecDepth 100000 in
theorem vitrineref20_Same.calls (k : Nat) (a0_0 : Int) (a0_1 : Int) (a0_2 : Int) (a0_3 : Int) (a0_4 : ByteArray) (a0_5 : Int) (a0_6 : Int) (a0_7 : ByteArray) (A0_8 : Option Addr) (c0_8 : Nat) (l0_8 : List ByteArray) (a1_0 : Int) (a1_1 : Int) (a1_2 : Int) (a1_3 : Int) (a1_4 : ByteArray) (a1_5 : Int) (a1_6 : Int) (a1_7 : ByteArray) (A1_8 : Option Addr) (c1_8 : Nat) (l1_8 : List ByteArray) (r : Bool) (w : World) (hr0_8 : Kd.C Kd.string w A0_8 l0_8.length l0_8) (hc0_8 : l0_8.length ≤ c0_8) (hr1_8 : Kd.C Kd.string w A1_8 l1_8.length l1_8) (hc1_8 : l1_8.length ≤ c1_8) (h : vitrineref20_Same.f k a0_0 a0_1 a0_2 a0_3 a0_4 a0_5 a0_6 a0_7 l0_8 a1_0 a1_1 a1_2 a1_3 a1_4 a1_5 a1_6 a1_7 l1_8 = some r) :
    Calls Try.prog 14 #[.agg #[.int .i64 a0_0, .int .i64 a0_1, .int .i64 a0_2, .int .i64 a0_3, .string a0_4, .int .i64 a0_5, .int .i64 a0_6, .string a0_7, .slice A0_8 l0_8.length c0_8], .agg #[.int .i64 a1_0, .int .i64 a1_1, .int .i64 a1_2, .int .i64 a1_3, .string a1_4, .int .i64 a1_5, .int .i64 a1_6, .string a1_7, .slice A1_8 l1_8.length c1_8]] w fun e w' => e = .returned (.bool r) ∧ Below w.heap.size w w' := by
  have hu26 := Try.underlying26
  have hu23 := Try.underlying23
  have HR0_8 := Aside0.mk hr0_8
  have HC0_8 := Aside0.mk hc0_8
  clear hr0_8 hc0_8
  have HR1_8 := Aside0.mk hr1_8
  have HC1_8 := Aside0.mk hc1_8
  clear hr1_8 hc1_8
  have HB := Aside0.mk (Below.refl w.heap.size w)
  have H : (if a0_0 = a1_0 then (if a0_1 = a1_1 then (if a0_2 = a1_2 then (if a0_3 = a1_3 then (if a0_4.toList = a1_4.toList then (if (!(a0_5 == a1_5) || (!(a0_6 == a1_6))) = true then (vitrineref20_Same.j0 k true a0_0 a0_1 a0_2 a0_3 a0_4 a0_5 a0_6 a0_7 l0_8 a1_0 a1_1 a1_2 a1_3 a1_4 a1_5 a1_6 a1_7 l1_8) else (if a0_7.toList = a1_7.toList then (vitrineref20_Same.j0 k ((l0_8.length : Int) != (l1_8.length : Int)) a0_0 a0_1 a0_2 a0_3 a0_4 a0_5 a0_6 a0_7 l0_8 a1_0 a1_1 a1_2 a1_3 a1_4 a1_5 a1_6 a1_7 l1_8) else (vitrineref20_Same.j0 k true a0_0 a0_1 a0_2 a0_3 a0_4 a0_5 a0_6 a0_7 l0_8 a1_0 a1_1 a1_2 a1_3 a1_4 a1_5 a1_6 a1_7 l1_8))) else (vitrineref20_Same.j0 k true a0_0 a0_1 a0_2 a0_3 a0_4 a0_5 a0_6 a0_7 l0_8 a1_0 a1_1 a1_2 a1_3 a1_4 a1_5 a1_6 a1_7 l1_8)) else (vitrineref20_Same.j0 k true a0_0 a0_1 a0_2 a0_3 a0_4 a0_5 a0_6 a0_7 l0_8 a1_0 a1_1 a1_2 a1_3 a1_4 a1_5 a1_6 a1_7 l1_8)) else (vitrineref20_Same.j0 k true a0_0 a0_1 a0_2 a0_3 a0_4 a0_5 a0_6 a0_7 l0_8 a1_0 a1_1 a1_2 a1_3 a1_4 a1_5 a1_6 a1_7 l1_8)) else (vitrineref20_Same.j0 k true a0_0 a0_1 a0_2 a0_3 a0_4 a0_5 a0_6 a0_7 l0_8 a1_0 a1_1 a1_2 a1_3 a1_4 a1_5 a1_6 a1_7 l1_8)) else (vitrineref20_Same.j0 k true a0_0 a0_1 a0_2 a0_3 a0_4 a0_5 a0_6 a0_7 l0_8 a1_0 a1_1 a1_2 a1_3 a1_4 a1_5 a1_6 a1_7 l1_8)) = some r := h
  clear h
  have HC3 := Aside0.mk H
  clear H
  go_enter Try.func14, Try.ntmps14
  go_upto_region 1 with (first | ((with_reducible refine gate_dst (N := 2) rfl ?_); (try (refine gate_guard (by rfl) ?_; dsimp only)); refine box_event ?hg (N := 2) ?hd (cs := #[.int .i64 a0_0, .int .i64 a0_1, .int .i64 a0_2, .int .i64 a0_3, .string a0_4, .int .i64 a0_5, .int .i64 a0_6, .string a0_7, .slice A0_8 l0_8.length c0_8]) (t := 26) ?hr ?_; (case hd => rfl); (case hg => rfl); (case hr => first | (go_simp; done) | (go_simp; rfl)); intro gb198 hg w4 hbox hb; have n0_ := Aside0.mk (below_step (by repeat (first | (with_reducible first | exact HB.out | apply below_alloc | apply pw_below_drewN | apply below_drew1) | exact HB.out)) hb); have n1_ := Aside0.mk (hbox); have n2_ := Aside0.mk ((by rw [hg]; exact (below_size (by repeat (first | (with_reducible first | exact HB.out | apply below_alloc | apply pw_below_drewN | apply below_drew1) | exact HB.out))) : w.heap.size ≤ gb198)); have n3_ := Aside0.mk ((by rw [hg]; exact (below_size (by repeat (first | (with_reducible first | exact HB.out | apply below_alloc | apply pw_below_drewN | apply below_drew1) | exact HB.out))) : w.heap.size ≤ gb198)); clear HB; have HB := n0_; have BK198 := n1_; have GW198 := n2_; have GE198 := n3_; clear n0_ n1_ n2_ n3_; clear hb hbox hg) | ((with_reducible refine gate_dst (N := 3) rfl ?_); (try (refine gate_guard (by rfl) ?_; dsimp only)); refine box_event ?hg (N := 3) ?hd (cs := #[.int .i64 a1_0, .int .i64 a1_1, .int .i64 a1_2, .int .i64 a1_3, .string a1_4, .int .i64 a1_5, .int .i64 a1_6, .string a1_7, .slice A1_8 l1_8.length c1_8]) (t := 26) ?hr ?_; (case hd => rfl); (case hg => rfl); (case hr => first | (go_simp; done) | (go_simp; rfl)); intro gb199 hg w5 hbox hb; have n0_ := Aside0.mk (blk_below (g := gb198) (o := .cells #[.int .i64 a0_0, .int .i64 a0_1, .int .i64 a0_2, .int .i64 a0_3, .string a0_4, .int .i64 a0_5, .int .i64 a0_6, .string a0_7, .slice A0_8 l0_8.length c0_8] 26 (0, 0)) (by (with_reducible repeat (first | refine blk_drewN ?_ _ | refine blk_drew ?_ | refine blk_alloc ?_ _)); exact BK198.out) hb); have n1_ := Aside0.mk (below_step (by repeat (first | (with_reducible first | exact HB.out | apply below_alloc | apply pw_below_drewN | apply below_drew1 | refine below_set ?_ GE198.out) | exact HB.out)) hb); have n2_ := Aside0.mk (hbox); have n3_ := Aside0.mk ((by rw [hg]; exact (below_size (by repeat (first | (with_reducible first | exact HB.out | apply below_alloc | apply pw_below_drewN | apply below_drew1 | refine below_set ?_ GE198.out) | exact HB.out))) : w.heap.size ≤ gb199)); have n4_ := Aside0.mk ((by rw [hg]; exact (below_size (by repeat (first | (with_reducible first | exact HB.out | apply below_alloc | apply pw_below_drewN | apply below_drew1 | refine below_set ?_ GE198.out) | exact HB.out))) : w.heap.size ≤ gb199)); have n5_ := Aside0.mk ((by rw [hg]; exact Nat.ne_of_lt (blk_lt (g := gb198) (o := .cells #[.int .i64 a0_0, .int .i64 a0_1, .int .i64 a0_2, .int .i64 a0_3, .string a0_4, .int .i64 a0_5, .int .i64 a0_6, .string a0_7, .slice A0_8 l0_8.length c0_8] 26 (0, 0)) (by (with_reducible repeat (first | refine blk_drewN ?_ _ | refine blk_drew ?_ | refine blk_alloc ?_ _)); exact BK198.out)) : gb198 ≠ gb199)); have n6_ := Aside0.mk ((by rw [hg]; exact Nat.ne_of_gt (blk_lt (g := gb198) (o := .cells #[.int .i64 a0_0, .int .i64 a0_1, .int .i64 a0_2, .int .i64 a0_3, .string a0_4, .int .i64 a0_5, .int .i64 a0_6, .string a0_7, .slice A0_8 l0_8.length c0_8] 26 (0, 0)) (by (with_reducible repeat (first | refine blk_drewN ?_ _ | refine blk_drew ?_ | refine blk_alloc ?_ _)); exact BK198.out)) : gb199 ≠ gb198)); clear BK198; clear HB; have BK198 := n0_; have HB := n1_; have BK199 := n2_; have GW199 := n3_; have GE199 := n4_; have NB198_199 := n5_; have NB199_198 := n6_; clear n0_ n1_ n2_ n3_ n4_ n5_ n6_; clear hb hbox hg))
  repeat (go_quiet (first | ((with_reducible refine gate_dst (N := 2) rfl ?_); (try (refine gate_guard (by rfl) ?_; dsimp only)); refine box_event ?hg (N := 2) ?hd (cs := #[.int .i64 a0_0, .int .i64 a0_1, .int .i64 a0_2, .int .i64 a0_3, .string a0_4, .int .i64 a0_5, .int .i64 a0_6, .string a0_7, .slice A0_8 l0_8.length c0_8]) (t := 26) ?hr ?_; (case hd => rfl); (case hg => rfl); (case hr => first | (go_simp; done) | (go_simp; rfl)); intro gb198 hg w4 hbox hb; have n0_ := Aside0.mk (below_step (by repeat (first | (with_reducible first | exact HB.out | apply below_alloc | apply pw_below_drewN | apply below_drew1) | exact HB.out)) hb); have n1_ := Aside0.mk (hbox); have n2_ := Aside0.mk ((by rw [hg]; exact (below_size (by repeat (first | (with_reducible first | exact HB.out | apply below_alloc | apply pw_below_drewN | apply below_drew1) | exact HB.out))) : w.heap.size ≤ gb198)); have n3_ := Aside0.mk ((by rw [hg]; exact (below_size (by repeat (first | (with_reducible first | exact HB.out | apply below_alloc | apply pw_below_drewN | apply below_drew1) | exact HB.out))) : w.heap.size ≤ gb198)); clear HB; have HB := n0_; have BK198 := n1_; have GW198 := n2_; have GE198 := n3_; clear n0_ n1_ n2_ n3_; clear hb hbox hg) | ((with_reducible refine gate_dst (N := 3) rfl ?_); (try (refine gate_guard (by rfl) ?_; dsimp only)); refine box_event ?hg (N := 3) ?hd (cs := #[.int .i64 a1_0, .int .i64 a1_1, .int .i64 a1_2, .int .i64 a1_3, .string a1_4, .int .i64 a1_5, .int .i64 a1_6, .string a1_7, .slice A1_8 l1_8.length c1_8]) (t := 26) ?hr ?_; (case hd => rfl); (case hg => rfl); (case hr => first | (go_simp; done) | (go_simp; rfl)); intro gb199 hg w5 hbox hb; have n0_ := Aside0.mk (blk_below (g := gb198) (o := .cells #[.int .i64 a0_0, .int .i64 a0_1, .int .i64 a0_2, .int .i64 a0_3, .string a0_4, .int .i64 a0_5, .int .i64 a0_6, .string a0_7, .slice A0_8 l0_8.length c0_8] 26 (0, 0)) (by (with_reducible repeat (first | refine blk_drewN ?_ _ | refine blk_drew ?_ | refine blk_alloc ?_ _)); exact BK198.out) hb); have n1_ := Aside0.mk (below_step (by repeat (first | (with_reducible first | exact HB.out | apply below_alloc | apply pw_below_drewN | apply below_drew1 | refine below_set ?_ GE198.out) | exact HB.out)) hb); have n2_ := Aside0.mk (hbox); have n3_ := Aside0.mk ((by rw [hg]; exact (below_size (by repeat (first | (with_reducible first | exact HB.out | apply below_alloc | apply pw_below_drewN | apply below_drew1 | refine below_set ?_ GE198.out) | exact HB.out))) : w.heap.size ≤ gb199)); have n4_ := Aside0.mk ((by rw [hg]; exact (below_size (by repeat (first | (with_reducible first | exact HB.out | apply below_alloc | apply pw_below_drewN | apply below_drew1 | refine below_set ?_ GE198.out) | exact HB.out))) : w.heap.size ≤ gb199)); have n5_ := Aside0.mk ((by rw [hg]; exact Nat.ne_of_lt (blk_lt (g := gb198) (o := .cells #[.int .i64 a0_0, .int .i64 a0_1, .int .i64 a0_2, .int .i64 a0_3, .string a0_4, .int .i64 a0_5, .int .i64 a0_6, .string a0_7, .slice A0_8 l0_8.length c0_8] 26 (0, 0)) (by (with_reducible repeat (first | refine blk_drewN ?_ _ | refine blk_drew ?_ | refine blk_alloc ?_ _)); exact BK198.out)) : gb198 ≠ gb199)); have n6_ := Aside0.mk ((by rw [hg]; exact Nat.ne_of_gt (blk_lt (g := gb198) (o := .cells #[.int .i64 a0_0, .int .i64 a0_1, .int .i64 a0_2, .int .i64 a0_3, .string a0_4, .int .i64 a0_5, .int .i64 a0_6, .string a0_7, .slice A0_8 l0_8.length c0_8] 26 (0, 0)) (by (with_reducible repeat (first | refine blk_drewN ?_ _ | refine blk_drew ?_ | refine blk_alloc ?_ _)); exact BK198.out)) : gb199 ≠ gb198)); clear BK198; clear HB; have BK198 := n0_; have HB := n1_; have BK199 := n2_; have GW199 := n3_; have GE199 := n4_; have NB198_199 := n5_; have NB199_198 := n6_; clear n0_ n1_ n2_ n3_ n4_ n5_ n6_; clear hb hbox hg)); go_upto_region 1 with (first | ((with_reducible refine gate_dst (N := 2) rfl ?_); (try (refine gate_guard (by rfl) ?_; dsimp only)); refine box_event ?hg (N := 2) ?hd (cs := #[.int .i64 a0_0, .int .i64 a0_1, .int .i64 a0_2, .int .i64 a0_3, .string a0_4, .int .i64 a0_5, .int .i64 a0_6, .string a0_7, .slice A0_8 l0_8.length c0_8]) (t := 26) ?hr ?_; (case hd => rfl); (case hg => rfl); (case hr => first | (go_simp; done) | (go_simp; rfl)); intro gb198 hg w4 hbox hb; have n0_ := Aside0.mk (below_step (by repeat (first | (with_reducible first | exact HB.out | apply below_alloc | apply pw_below_drewN | apply below_drew1) | exact HB.out)) hb); have n1_ := Aside0.mk (hbox); have n2_ := Aside0.mk ((by rw [hg]; exact (below_size (by repeat (first | (with_reducible first | exact HB.out | apply below_alloc | apply pw_below_drewN | apply below_drew1) | exact HB.out))) : w.heap.size ≤ gb198)); have n3_ := Aside0.mk ((by rw [hg]; exact (below_size (by repeat (first | (with_reducible first | exact HB.out | apply below_alloc | apply pw_below_drewN | apply below_drew1) | exact HB.out))) : w.heap.size ≤ gb198)); clear HB; have HB := n0_; have BK198 := n1_; have GW198 := n2_; have GE198 := n3_; clear n0_ n1_ n2_ n3_; clear hb hbox hg) | ((with_reducible refine gate_dst (N := 3) rfl ?_); (try (refine gate_guard (by rfl) ?_; dsimp only)); refine box_event ?hg (N := 3) ?hd (cs := #[.int .i64 a1_0, .int .i64 a1_1, .int .i64 a1_2, .int .i64 a1_3, .string a1_4, .int .i64 a1_5, .int .i64 a1_6, .string a1_7, .slice A1_8 l1_8.length c1_8]) (t := 26) ?hr ?_; (case hd => rfl); (case hg => rfl); (case hr => first | (go_simp; done) | (go_simp; rfl)); intro gb199 hg w5 hbox hb; have n0_ := Aside0.mk (blk_below (g := gb198) (o := .cells #[.int .i64 a0_0, .int .i64 a0_1, .int .i64 a0_2, .int .i64 a0_3, .string a0_4, .int .i64 a0_5, .int .i64 a0_6, .string a0_7, .slice A0_8 l0_8.length c0_8] 26 (0, 0)) (by (with_reducible repeat (first | refine blk_drewN ?_ _ | refine blk_drew ?_ | refine blk_alloc ?_ _)); exact BK198.out) hb); have n1_ := Aside0.mk (below_step (by repeat (first | (with_reducible first | exact HB.out | apply below_alloc | apply pw_below_drewN | apply below_drew1 | refine below_set ?_ GE198.out) | exact HB.out)) hb); have n2_ := Aside0.mk (hbox); have n3_ := Aside0.mk ((by rw [hg]; exact (below_size (by repeat (first | (with_reducible first | exact HB.out | apply below_alloc | apply pw_below_drewN | apply below_drew1 | refine below_set ?_ GE198.out) | exact HB.out))) : w.heap.size ≤ gb199)); have n4_ := Aside0.mk ((by rw [hg]; exact (below_size (by repeat (first | (with_reducible first | exact HB.out | apply below_alloc | apply pw_below_drewN | apply below_drew1 | refine below_set ?_ GE198.out) | exact HB.out))) : w.heap.size ≤ gb199)); have n5_ := Aside0.mk ((by rw [hg]; exact Nat.ne_of_lt (blk_lt (g := gb198) (o := .cells #[.int .i64 a0_0, .int .i64 a0_1, .int .i64 a0_2, .int .i64 a0_3, .string a0_4, .int .i64 a0_5, .int .i64 a0_6, .string a0_7, .slice A0_8 l0_8.length c0_8] 26 (0, 0)) (by (with_reducible repeat (first | refine blk_drewN ?_ _ | refine blk_drew ?_ | refine blk_alloc ?_ _)); exact BK198.out)) : gb198 ≠ gb199)); have n6_ := Aside0.mk ((by rw [hg]; exact Nat.ne_of_gt (blk_lt (g := gb198) (o := .cells #[.int .i64 a0_0, .int .i64 a0_1, .int .i64 a0_2, .int .i64 a0_3, .string a0_4, .int .i64 a0_5, .int .i64 a0_6, .string a0_7, .slice A0_8 l0_8.length c0_8] 26 (0, 0)) (by (with_reducible repeat (first | refine blk_drewN ?_ _ | refine blk_drew ?_ | refine blk_alloc ?_ _)); exact BK198.out)) : gb199 ≠ gb198)); clear BK198; clear HB; have BK198 := n0_; have HB := n1_; have BK199 := n2_; have GW199 := n3_; have GE199 := n4_; have NB198_199 := n5_; have NB199_198 := n6_; clear n0_ n1_ n2_ n3_ n4_ n5_ n6_; clear hb hbox hg)))
  (try simp only [Act.put, List.setIfInBounds_toArray, List.set_cons_zero, List.set_cons_succ])
  go_cut [61] (fun v61 wc => ∃ (kq : Nat) (x61_2 : Bool), v61 = .bool x61_2 ∧ Aside0 (vitrineref20_Same.j0 kq x61_2 a0_0 a0_1 a0_2 a0_3 a0_4 a0_5 a0_6 a0_7 l0_8 a1_0 a1_1 a1_2 a1_3 a1_4 a1_5 a1_6 a1_7 l1_8 = some r) ∧ Aside0 (kq ≤ k) ∧ Aside0 (wc.heap[gb198]? = some (.cells #[.int .i64 a0_0, .int .i64 a0_1, .int .i64 a0_2, .int .i64 a0_3, .string a0_4, .int .i64 a0_5, .int .i64 a0_6, .string a0_7, (.slice A0_8 l0_8.length c0_8)] 26 (0, 0))) ∧ Aside0 (wc.heap[gb199]? = some (.cells #[.int .i64 a1_0, .int .i64 a1_1, .int .i64 a1_2, .int .i64 a1_3, .string a1_4, .int .i64 a1_5, .int .i64 a1_6, .string a1_7, (.slice A1_8 l1_8.length c1_8)] 26 (0, 0))) ∧ Aside0 (Below w.heap.size w wc))
  case first =>
    have H := HC3.out
    clear HC3
    by_cases c6 : a0_0 = a1_0
    · rw [if_pos c6] at H
      have c6b0 : (a0_0 == a1_0) = true := beq_iff_eq.mpr c6
      have c6b1 : (a0_0 != a1_0) = false := bne_eq_false_iff_eq.mpr c6
      clear c6
      (first | rw [c6b0] | (simp only [i64_w, i32_w]; rw [c6b0]) | skip)
      by_cases c7 : a0_1 = a1_1
      · rw [if_pos c7] at H
        have c7b0 : (a0_1 == a1_1) = true := beq_iff_eq.mpr c7
        have c7b1 : (a0_1 != a1_1) = false := bne_eq_false_iff_eq.mpr c7
        clear c7
        by_cases c8 : a0_2 = a1_2
        · rw [if_pos c8] at H
          have c8b0 : (a0_2 == a1_2) = true := beq_iff_eq.mpr c8
          have c8b1 : (a0_2 != a1_2) = false := bne_eq_false_iff_eq.mpr c8
          clear c8
          by_cases c9 : a0_3 = a1_3
          · rw [if_pos c9] at H
            have c9b0 : (a0_3 == a1_3) = true := beq_iff_eq.mpr c9
            have c9b1 : (a0_3 != a1_3) = false := bne_eq_false_iff_eq.mpr c9
            clear c9
            by_cases c10 : a0_4.toList = a1_4.toList
            · rw [if_pos c10] at H
              have c10b0 : (a0_4.toList == a1_4.toList) = true := beq_iff_eq.mpr c10
              have c10b1 : (a0_4.toList != a1_4.toList) = false := bne_eq_false_iff_eq.mpr c10
              clear c10
              by_cases c11 : (!(a0_5 == a1_5) || (!(a0_6 == a1_6))) = true
              · rw [if_pos c11] at H
                have c11b0 : (!(a0_5 == a1_5) || (!(a0_6 == a1_6))) = true := c11
                clear c11
                have H' := Aside0.mk H
                clear H
                have hnb12 := NB198_199.out
                have hnc12 := NB199_198.out
                have hcz13_0 : w5.cell? ⟨gb198, 0, none⟩ = some (.int .i64 a0_0) := (blk_cell BK198.out 0).trans rfl
                have hcz13_1 : w5.cell? ⟨gb198, 1, none⟩ = some (.int .i64 a0_1) := (blk_cell BK198.out 1).trans rfl
                have hcz13_2 : w5.cell? ⟨gb198, 2, none⟩ = some (.int .i64 a0_2) := (blk_cell BK198.out 2).trans rfl
                have hcz13_3 : w5.cell? ⟨gb198, 3, none⟩ = some (.int .i64 a0_3) := (blk_cell BK198.out 3).trans rfl
                have hcz13_4 : w5.cell? ⟨gb198, 4, none⟩ = some (.string a0_4) := (blk_cell BK198.out 4).trans rfl
                have hcz13_5 : w5.cell? ⟨gb198, 5, none⟩ = some (.int .i64 a0_5) := (blk_cell BK198.out 5).trans rfl
                have hcz13_6 : w5.cell? ⟨gb198, 6, none⟩ = some (.int .i64 a0_6) := (blk_cell BK198.out 6).trans rfl
                have hcz13_7 : w5.cell? ⟨gb198, 7, none⟩ = some (.string a0_7) := (blk_cell BK198.out 7).trans rfl
                have hcz13_8 : w5.cell? ⟨gb198, 8, none⟩ = some (.slice A0_8 l0_8.length c0_8) := (blk_cell BK198.out 8).trans rfl
                have hfz13_0 := blk_frozen BK198.out 0
                have hfz13_1 := blk_frozen BK198.out 1
                have hfz13_2 := blk_frozen BK198.out 2
                have hfz13_3 := blk_frozen BK198.out 3
                have hfz13_4 := blk_frozen BK198.out 4
                have hfz13_5 := blk_frozen BK198.out 5
                have hfz13_6 := blk_frozen BK198.out 6
                have hfz13_7 := blk_frozen BK198.out 7
                have hfz13_8 := blk_frozen BK198.out 8
                have hcz14_0 : w5.cell? ⟨gb199, 0, none⟩ = some (.int .i64 a1_0) := (blk_cell BK199.out 0).trans rfl
                have hcz14_1 : w5.cell? ⟨gb199, 1, none⟩ = some (.int .i64 a1_1) := (blk_cell BK199.out 1).trans rfl
                have hcz14_2 : w5.cell? ⟨gb199, 2, none⟩ = some (.int .i64 a1_2) := (blk_cell BK199.out 2).trans rfl
                have hcz14_3 : w5.cell? ⟨gb199, 3, none⟩ = some (.int .i64 a1_3) := (blk_cell BK199.out 3).trans rfl
                have hcz14_4 : w5.cell? ⟨gb199, 4, none⟩ = some (.string a1_4) := (blk_cell BK199.out 4).trans rfl
                have hcz14_5 : w5.cell? ⟨gb199, 5, none⟩ = some (.int .i64 a1_5) := (blk_cell BK199.out 5).trans rfl
                have hcz14_6 : w5.cell? ⟨gb199, 6, none⟩ = some (.int .i64 a1_6) := (blk_cell BK199.out 6).trans rfl
                have hcz14_7 : w5.cell? ⟨gb199, 7, none⟩ = some (.string a1_7) := (blk_cell BK199.out 7).trans rfl
                have hcz14_8 : w5.cell? ⟨gb199, 8, none⟩ = some (.slice A1_8 l1_8.length c1_8) := (blk_cell BK199.out 8).trans rfl
                have hfz14_0 := blk_frozen BK199.out 0
                have hfz14_1 := blk_frozen BK199.out 1
                have hfz14_2 := blk_frozen BK199.out 2
                have hfz14_3 := blk_frozen BK199.out 3
                have hfz14_4 := blk_frozen BK199.out 4
                have hfz14_5 := blk_frozen BK199.out 5
                have hfz14_6 := blk_frozen BK199.out 6
                have hfz14_7 := blk_frozen BK199.out 7
                have hfz14_8 := blk_frozen BK199.out 8
                go_wp2
                repeat (go_quiet (fail); try go_wp2)
                go_meet
                case rel => exact ⟨_, (true), (by first | rfl | (simp; done) | (simp [*]; done)), H', ⟨by first | omega | exact Nat.le_refl _⟩, ⟨by (with_reducible repeat (first | refine blk_drewN ?_ _ | refine blk_drew ?_ | refine blk_alloc ?_ _)); exact BK198.out⟩, ⟨by (with_reducible repeat (first | refine blk_drewN ?_ _ | refine blk_drew ?_ | refine blk_alloc ?_ _)); exact BK199.out⟩, ⟨by repeat (first | (with_reducible first | exact HB.out | apply below_alloc | apply pw_below_drewN | apply below_drew1 | refine below_set ?_ GE198.out | refine below_set ?_ GE199.out) | exact HB.out)⟩⟩
              · rw [if_neg c11] at H
                have c11b0 : (!(a0_5 == a1_5) || (!(a0_6 == a1_6))) = false := by simpa using c11
                clear c11
                by_cases c15 : a0_7.toList = a1_7.toList
                · rw [if_pos c15] at H
                  have c15b0 : (a0_7.toList == a1_7.toList) = true := beq_iff_eq.mpr c15
                  have c15b1 : (a0_7.toList != a1_7.toList) = false := bne_eq_false_iff_eq.mpr c15
                  clear c15
                  have H' := Aside0.mk H
                  clear H
                  have hnb16 := NB198_199.out
                  have hnc16 := NB199_198.out
                  have hcz17_0 : w5.cell? ⟨gb198, 0, none⟩ = some (.int .i64 a0_0) := (blk_cell BK198.out 0).trans rfl
                  have hcz17_1 : w5.cell? ⟨gb198, 1, none⟩ = some (.int .i64 a0_1) := (blk_cell BK198.out 1).trans rfl
                  have hcz17_2 : w5.cell? ⟨gb198, 2, none⟩ = some (.int .i64 a0_2) := (blk_cell BK198.out 2).trans rfl
                  have hcz17_3 : w5.cell? ⟨gb198, 3, none⟩ = some (.int .i64 a0_3) := (blk_cell BK198.out 3).trans rfl
                  have hcz17_4 : w5.cell? ⟨gb198, 4, none⟩ = some (.string a0_4) := (blk_cell BK198.out 4).trans rfl
                  have hcz17_5 : w5.cell? ⟨gb198, 5, none⟩ = some (.int .i64 a0_5) := (blk_cell BK198.out 5).trans rfl
                  have hcz17_6 : w5.cell? ⟨gb198, 6, none⟩ = some (.int .i64 a0_6) := (blk_cell BK198.out 6).trans rfl
                  have hcz17_7 : w5.cell? ⟨gb198, 7, none⟩ = some (.string a0_7) := (blk_cell BK198.out 7).trans rfl
                  have hcz17_8 : w5.cell? ⟨gb198, 8, none⟩ = some (.slice A0_8 l0_8.length c0_8) := (blk_cell BK198.out 8).trans rfl
                  have hfz17_0 := blk_frozen BK198.out 0
                  have hfz17_1 := blk_frozen BK198.out 1
                  have hfz17_2 := blk_frozen BK198.out 2
                  have hfz17_3 := blk_frozen BK198.out 3
                  have hfz17_4 := blk_frozen BK198.out 4
                  have hfz17_5 := blk_frozen BK198.out 5
                  have hfz17_6 := blk_frozen BK198.out 6
                  have hfz17_7 := blk_frozen BK198.out 7
                  have hfz17_8 := blk_frozen BK198.out 8
                  have hcz18_0 : w5.cell? ⟨gb199, 0, none⟩ = some (.int .i64 a1_0) := (blk_cell BK199.out 0).trans rfl
                  have hcz18_1 : w5.cell? ⟨gb199, 1, none⟩ = some (.int .i64 a1_1) := (blk_cell BK199.out 1).trans rfl
                  have hcz18_2 : w5.cell? ⟨gb199, 2, none⟩ = some (.int .i64 a1_2) := (blk_cell BK199.out 2).trans rfl
                  have hcz18_3 : w5.cell? ⟨gb199, 3, none⟩ = some (.int .i64 a1_3) := (blk_cell BK199.out 3).trans rfl
                  have hcz18_4 : w5.cell? ⟨gb199, 4, none⟩ = some (.string a1_4) := (blk_cell BK199.out 4).trans rfl
                  have hcz18_5 : w5.cell? ⟨gb199, 5, none⟩ = some (.int .i64 a1_5) := (blk_cell BK199.out 5).trans rfl
                  have hcz18_6 : w5.cell? ⟨gb199, 6, none⟩ = some (.int .i64 a1_6) := (blk_cell BK199.out 6).trans rfl
                  have hcz18_7 : w5.cell? ⟨gb199, 7, none⟩ = some (.string a1_7) := (blk_cell BK199.out 7).trans rfl
                  have hcz18_8 : w5.cell? ⟨gb199, 8, none⟩ = some (.slice A1_8 l1_8.length c1_8) := (blk_cell BK199.out 8).trans rfl
                  have hfz18_0 := blk_frozen BK199.out 0
                  have hfz18_1 := blk_frozen BK199.out 1
                  have hfz18_2 := blk_frozen BK199.out 2
                  have hfz18_3 := blk_frozen BK199.out 3
                  have hfz18_4 := blk_frozen BK199.out 4
                  have hfz18_5 := blk_frozen BK199.out 5
                  have hfz18_6 := blk_frozen BK199.out 6
                  have hfz18_7 := blk_frozen BK199.out 7
                  have hfz18_8 := blk_frozen BK199.out 8
                  go_wp2
                  repeat (go_quiet (fail); try go_wp2)
                  go_meet
                  case rel => exact ⟨_, (((l0_8.length : Int) != (l1_8.length : Int))), (by first | rfl | (simp; done) | (simp [*]; done)), H', ⟨by first | omega | exact Nat.le_refl _⟩, ⟨by (with_reducible repeat (first | refine blk_drewN ?_ _ | refine blk_drew ?_ | refine blk_alloc ?_ _)); exact BK198.out⟩, ⟨by (with_reducible repeat (first | refine blk_drewN ?_ _ | refine blk_drew ?_ | refine blk_alloc ?_ _)); exact BK199.out⟩, ⟨by repeat (first | (with_reducible first | exact HB.out | apply below_alloc | apply pw_below_drewN | apply below_drew1 | refine below_set ?_ GE198.out | refine below_set ?_ GE199.out) | exact HB.out)⟩⟩
                · rw [if_neg c15] at H
                  have c15b0 : (a0_7.toList == a1_7.toList) = false := beq_eq_false_iff_ne.mpr c15
                  have c15b1 : (a0_7.toList != a1_7.toList) = true := bne_iff_ne.mpr c15
                  have H' := Aside0.mk H
                  clear H
                  have hnb19 := NB198_199.out
                  have hnc19 := NB199_198.out
                  have hcz20_0 : w5.cell? ⟨gb198, 0, none⟩ = some (.int .i64 a0_0) := (blk_cell BK198.out 0).trans rfl
                  have hcz20_1 : w5.cell? ⟨gb198, 1, none⟩ = some (.int .i64 a0_1) := (blk_cell BK198.out 1).trans rfl
                  have hcz20_2 : w5.cell? ⟨gb198, 2, none⟩ = some (.int .i64 a0_2) := (blk_cell BK198.out 2).trans rfl
                  have hcz20_3 : w5.cell? ⟨gb198, 3, none⟩ = some (.int .i64 a0_3) := (blk_cell BK198.out 3).trans rfl
                  have hcz20_4 : w5.cell? ⟨gb198, 4, none⟩ = some (.string a0_4) := (blk_cell BK198.out 4).trans rfl
                  have hcz20_5 : w5.cell? ⟨gb198, 5, none⟩ = some (.int .i64 a0_5) := (blk_cell BK198.out 5).trans rfl
                  have hcz20_6 : w5.cell? ⟨gb198, 6, none⟩ = some (.int .i64 a0_6) := (blk_cell BK198.out 6).trans rfl
                  have hcz20_7 : w5.cell? ⟨gb198, 7, none⟩ = some (.string a0_7) := (blk_cell BK198.out 7).trans rfl
                  have hcz20_8 : w5.cell? ⟨gb198, 8, none⟩ = some (.slice A0_8 l0_8.length c0_8) := (blk_cell BK198.out 8).trans rfl
                  have hfz20_0 := blk_frozen BK198.out 0
                  have hfz20_1 := blk_frozen BK198.out 1
                  have hfz20_2 := blk_frozen BK198.out 2
                  have hfz20_3 := blk_frozen BK198.out 3
                  have hfz20_4 := blk_frozen BK198.out 4
                  have hfz20_5 := blk_frozen BK198.out 5
                  have hfz20_6 := blk_frozen BK198.out 6
                  have hfz20_7 := blk_frozen BK198.out 7
                  have hfz20_8 := blk_frozen BK198.out 8
                  have hcz21_0 : w5.cell? ⟨gb199, 0, none⟩ = some (.int .i64 a1_0) := (blk_cell BK199.out 0).trans rfl
                  have hcz21_1 : w5.cell? ⟨gb199, 1, none⟩ = some (.int .i64 a1_1) := (blk_cell BK199.out 1).trans rfl
                  have hcz21_2 : w5.cell? ⟨gb199, 2, none⟩ = some (.int .i64 a1_2) := (blk_cell BK199.out 2).trans rfl
                  have hcz21_3 : w5.cell? ⟨gb199, 3, none⟩ = some (.int .i64 a1_3) := (blk_cell BK199.out 3).trans rfl
                  have hcz21_4 : w5.cell? ⟨gb199, 4, none⟩ = some (.string a1_4) := (blk_cell BK199.out 4).trans rfl
                  have hcz21_5 : w5.cell? ⟨gb199, 5, none⟩ = some (.int .i64 a1_5) := (blk_cell BK199.out 5).trans rfl
                  have hcz21_6 : w5.cell? ⟨gb199, 6, none⟩ = some (.int .i64 a1_6) := (blk_cell BK199.out 6).trans rfl
                  have hcz21_7 : w5.cell? ⟨gb199, 7, none⟩ = some (.string a1_7) := (blk_cell BK199.out 7).trans rfl
                  have hcz21_8 : w5.cell? ⟨gb199, 8, none⟩ = some (.slice A1_8 l1_8.length c1_8) := (blk_cell BK199.out 8).trans rfl
                  have hfz21_0 := blk_frozen BK199.out 0
                  have hfz21_1 := blk_frozen BK199.out 1
                  have hfz21_2 := blk_frozen BK199.out 2
                  have hfz21_3 := blk_frozen BK199.out 3
                  have hfz21_4 := blk_frozen BK199.out 4
                  have hfz21_5 := blk_frozen BK199.out 5
                  have hfz21_6 := blk_frozen BK199.out 6
                  have hfz21_7 := blk_frozen BK199.out 7
                  have hfz21_8 := blk_frozen BK199.out 8
                  go_wp2
                  repeat (go_quiet (fail); try go_wp2)
                  go_meet
                  case rel => exact ⟨_, (true), (by first | rfl | (simp; done) | (simp [*]; done)), H', ⟨by first | omega | exact Nat.le_refl _⟩, ⟨by (with_reducible repeat (first | refine blk_drewN ?_ _ | refine blk_drew ?_ | refine blk_alloc ?_ _)); exact BK198.out⟩, ⟨by (with_reducible repeat (first | refine blk_drewN ?_ _ | refine blk_drew ?_ | refine blk_alloc ?_ _)); exact BK199.out⟩, ⟨by repeat (first | (with_reducible first | exact HB.out | apply below_alloc | apply pw_below_drewN | apply below_drew1 | refine below_set ?_ GE198.out | refine below_set ?_ GE199.out) | exact HB.out)⟩⟩
            · rw [if_neg c10] at H
              have c10b0 : (a0_4.toList == a1_4.toList) = false := beq_eq_false_iff_ne.mpr c10
              have c10b1 : (a0_4.toList != a1_4.toList) = true := bne_iff_ne.mpr c10
              have H' := Aside0.mk H
              clear H
              have hnb22 := NB198_199.out
              have hnc22 := NB199_198.out
              have hcz23_0 : w5.cell? ⟨gb198, 0, none⟩ = some (.int .i64 a0_0) := (blk_cell BK198.out 0).trans rfl
              have hcz23_1 : w5.cell? ⟨gb198, 1, none⟩ = some (.int .i64 a0_1) := (blk_cell BK198.out 1).trans rfl
              have hcz23_2 : w5.cell? ⟨gb198, 2, none⟩ = some (.int .i64 a0_2) := (blk_cell BK198.out 2).trans rfl
              have hcz23_3 : w5.cell? ⟨gb198, 3, none⟩ = some (.int .i64 a0_3) := (blk_cell BK198.out 3).trans rfl
              have hcz23_4 : w5.cell? ⟨gb198, 4, none⟩ = some (.string a0_4) := (blk_cell BK198.out 4).trans rfl
              have hcz23_5 : w5.cell? ⟨gb198, 5, none⟩ = some (.int .i64 a0_5) := (blk_cell BK198.out 5).trans rfl
              have hcz23_6 : w5.cell? ⟨gb198, 6, none⟩ = some (.int .i64 a0_6) := (blk_cell BK198.out 6).trans rfl
              have hcz23_7 : w5.cell? ⟨gb198, 7, none⟩ = some (.string a0_7) := (blk_cell BK198.out 7).trans rfl
              have hcz23_8 : w5.cell? ⟨gb198, 8, none⟩ = some (.slice A0_8 l0_8.length c0_8) := (blk_cell BK198.out 8).trans rfl
              have hfz23_0 := blk_frozen BK198.out 0
              have hfz23_1 := blk_frozen BK198.out 1
              have hfz23_2 := blk_frozen BK198.out 2
              have hfz23_3 := blk_frozen BK198.out 3
              have hfz23_4 := blk_frozen BK198.out 4
              have hfz23_5 := blk_frozen BK198.out 5
              have hfz23_6 := blk_frozen BK198.out 6
              have hfz23_7 := blk_frozen BK198.out 7
              have hfz23_8 := blk_frozen BK198.out 8
              have hcz24_0 : w5.cell? ⟨gb199, 0, none⟩ = some (.int .i64 a1_0) := (blk_cell BK199.out 0).trans rfl
              have hcz24_1 : w5.cell? ⟨gb199, 1, none⟩ = some (.int .i64 a1_1) := (blk_cell BK199.out 1).trans rfl
              have hcz24_2 : w5.cell? ⟨gb199, 2, none⟩ = some (.int .i64 a1_2) := (blk_cell BK199.out 2).trans rfl
              have hcz24_3 : w5.cell? ⟨gb199, 3, none⟩ = some (.int .i64 a1_3) := (blk_cell BK199.out 3).trans rfl
              have hcz24_4 : w5.cell? ⟨gb199, 4, none⟩ = some (.string a1_4) := (blk_cell BK199.out 4).trans rfl
              have hcz24_5 : w5.cell? ⟨gb199, 5, none⟩ = some (.int .i64 a1_5) := (blk_cell BK199.out 5).trans rfl
              have hcz24_6 : w5.cell? ⟨gb199, 6, none⟩ = some (.int .i64 a1_6) := (blk_cell BK199.out 6).trans rfl
              have hcz24_7 : w5.cell? ⟨gb199, 7, none⟩ = some (.string a1_7) := (blk_cell BK199.out 7).trans rfl
              have hcz24_8 : w5.cell? ⟨gb199, 8, none⟩ = some (.slice A1_8 l1_8.length c1_8) := (blk_cell BK199.out 8).trans rfl
              have hfz24_0 := blk_frozen BK199.out 0
              have hfz24_1 := blk_frozen BK199.out 1
              have hfz24_2 := blk_frozen BK199.out 2
              have hfz24_3 := blk_frozen BK199.out 3
              have hfz24_4 := blk_frozen BK199.out 4
              have hfz24_5 := blk_frozen BK199.out 5
              have hfz24_6 := blk_frozen BK199.out 6
              have hfz24_7 := blk_frozen BK199.out 7
              have hfz24_8 := blk_frozen BK199.out 8
              go_wp2
              repeat (go_quiet (fail); try go_wp2)
              go_meet
              case rel => exact ⟨_, (true), (by first | rfl | (simp; done) | (simp [*]; done)), H', ⟨by first | omega | exact Nat.le_refl _⟩, ⟨by (with_reducible repeat (first | refine blk_drewN ?_ _ | refine blk_drew ?_ | refine blk_alloc ?_ _)); exact BK198.out⟩, ⟨by (with_reducible repeat (first | refine blk_drewN ?_ _ | refine blk_drew ?_ | refine blk_alloc ?_ _)); exact BK199.out⟩, ⟨by repeat (first | (with_reducible first | exact HB.out | apply below_alloc | apply pw_below_drewN | apply below_drew1 | refine below_set ?_ GE198.out | refine below_set ?_ GE199.out) | exact HB.out)⟩⟩
          · rw [if_neg c9] at H
            have c9b0 : (a0_3 == a1_3) = false := beq_eq_false_iff_ne.mpr c9
            have c9b1 : (a0_3 != a1_3) = true := bne_iff_ne.mpr c9
            have H' := Aside0.mk H
            clear H
            have hnb25 := NB198_199.out
            have hnc25 := NB199_198.out
            have hcz26_0 : w5.cell? ⟨gb198, 0, none⟩ = some (.int .i64 a0_0) := (blk_cell BK198.out 0).trans rfl
            have hcz26_1 : w5.cell? ⟨gb198, 1, none⟩ = some (.int .i64 a0_1) := (blk_cell BK198.out 1).trans rfl
            have hcz26_2 : w5.cell? ⟨gb198, 2, none⟩ = some (.int .i64 a0_2) := (blk_cell BK198.out 2).trans rfl
            have hcz26_3 : w5.cell? ⟨gb198, 3, none⟩ = some (.int .i64 a0_3) := (blk_cell BK198.out 3).trans rfl
            have hcz26_4 : w5.cell? ⟨gb198, 4, none⟩ = some (.string a0_4) := (blk_cell BK198.out 4).trans rfl
            have hcz26_5 : w5.cell? ⟨gb198, 5, none⟩ = some (.int .i64 a0_5) := (blk_cell BK198.out 5).trans rfl
            have hcz26_6 : w5.cell? ⟨gb198, 6, none⟩ = some (.int .i64 a0_6) := (blk_cell BK198.out 6).trans rfl
            have hcz26_7 : w5.cell? ⟨gb198, 7, none⟩ = some (.string a0_7) := (blk_cell BK198.out 7).trans rfl
            have hcz26_8 : w5.cell? ⟨gb198, 8, none⟩ = some (.slice A0_8 l0_8.length c0_8) := (blk_cell BK198.out 8).trans rfl
            have hfz26_0 := blk_frozen BK198.out 0
            have hfz26_1 := blk_frozen BK198.out 1
            have hfz26_2 := blk_frozen BK198.out 2
            have hfz26_3 := blk_frozen BK198.out 3
            have hfz26_4 := blk_frozen BK198.out 4
            have hfz26_5 := blk_frozen BK198.out 5
            have hfz26_6 := blk_frozen BK198.out 6
            have hfz26_7 := blk_frozen BK198.out 7
            have hfz26_8 := blk_frozen BK198.out 8
            have hcz27_0 : w5.cell? ⟨gb199, 0, none⟩ = some (.int .i64 a1_0) := (blk_cell BK199.out 0).trans rfl
            have hcz27_1 : w5.cell? ⟨gb199, 1, none⟩ = some (.int .i64 a1_1) := (blk_cell BK199.out 1).trans rfl
            have hcz27_2 : w5.cell? ⟨gb199, 2, none⟩ = some (.int .i64 a1_2) := (blk_cell BK199.out 2).trans rfl
            have hcz27_3 : w5.cell? ⟨gb199, 3, none⟩ = some (.int .i64 a1_3) := (blk_cell BK199.out 3).trans rfl
            have hcz27_4 : w5.cell? ⟨gb199, 4, none⟩ = some (.string a1_4) := (blk_cell BK199.out 4).trans rfl
            have hcz27_5 : w5.cell? ⟨gb199, 5, none⟩ = some (.int .i64 a1_5) := (blk_cell BK199.out 5).trans rfl
            have hcz27_6 : w5.cell? ⟨gb199, 6, none⟩ = some (.int .i64 a1_6) := (blk_cell BK199.out 6).trans rfl
            have hcz27_7 : w5.cell? ⟨gb199, 7, none⟩ = some (.string a1_7) := (blk_cell BK199.out 7).trans rfl
            have hcz27_8 : w5.cell? ⟨gb199, 8, none⟩ = some (.slice A1_8 l1_8.length c1_8) := (blk_cell BK199.out 8).trans rfl
            have hfz27_0 := blk_frozen BK199.out 0
            have hfz27_1 := blk_frozen BK199.out 1
            have hfz27_2 := blk_frozen BK199.out 2
            have hfz27_3 := blk_frozen BK199.out 3
            have hfz27_4 := blk_frozen BK199.out 4
            have hfz27_5 := blk_frozen BK199.out 5
            have hfz27_6 := blk_frozen BK199.out 6
            have hfz27_7 := blk_frozen BK199.out 7
            have hfz27_8 := blk_frozen BK199.out 8
            go_wp2
            repeat (go_quiet (fail); try go_wp2)
            go_meet
            case rel => exact ⟨_, (true), (by first | rfl | (simp; done) | (simp [*]; done)), H', ⟨by first | omega | exact Nat.le_refl _⟩, ⟨by (with_reducible repeat (first | refine blk_drewN ?_ _ | refine blk_drew ?_ | refine blk_alloc ?_ _)); exact BK198.out⟩, ⟨by (with_reducible repeat (first | refine blk_drewN ?_ _ | refine blk_drew ?_ | refine blk_alloc ?_ _)); exact BK199.out⟩, ⟨by repeat (first | (with_reducible first | exact HB.out | apply below_alloc | apply pw_below_drewN | apply below_drew1 | refine below_set ?_ GE198.out | refine below_set ?_ GE199.out) | exact HB.out)⟩⟩
        · rw [if_neg c8] at H
          have c8b0 : (a0_2 == a1_2) = false := beq_eq_false_iff_ne.mpr c8
          have c8b1 : (a0_2 != a1_2) = true := bne_iff_ne.mpr c8
          have H' := Aside0.mk H
          clear H
          have hnb28 := NB198_199.out
          have hnc28 := NB199_198.out
          have hcz29_0 : w5.cell? ⟨gb198, 0, none⟩ = some (.int .i64 a0_0) := (blk_cell BK198.out 0).trans rfl
          have hcz29_1 : w5.cell? ⟨gb198, 1, none⟩ = some (.int .i64 a0_1) := (blk_cell BK198.out 1).trans rfl
          have hcz29_2 : w5.cell? ⟨gb198, 2, none⟩ = some (.int .i64 a0_2) := (blk_cell BK198.out 2).trans rfl
          have hcz29_3 : w5.cell? ⟨gb198, 3, none⟩ = some (.int .i64 a0_3) := (blk_cell BK198.out 3).trans rfl
          have hcz29_4 : w5.cell? ⟨gb198, 4, none⟩ = some (.string a0_4) := (blk_cell BK198.out 4).trans rfl
          have hcz29_5 : w5.cell? ⟨gb198, 5, none⟩ = some (.int .i64 a0_5) := (blk_cell BK198.out 5).trans rfl
          have hcz29_6 : w5.cell? ⟨gb198, 6, none⟩ = some (.int .i64 a0_6) := (blk_cell BK198.out 6).trans rfl
          have hcz29_7 : w5.cell? ⟨gb198, 7, none⟩ = some (.string a0_7) := (blk_cell BK198.out 7).trans rfl
          have hcz29_8 : w5.cell? ⟨gb198, 8, none⟩ = some (.slice A0_8 l0_8.length c0_8) := (blk_cell BK198.out 8).trans rfl
          have hfz29_0 := blk_frozen BK198.out 0
          have hfz29_1 := blk_frozen BK198.out 1
          have hfz29_2 := blk_frozen BK198.out 2
          have hfz29_3 := blk_frozen BK198.out 3
          have hfz29_4 := blk_frozen BK198.out 4
          have hfz29_5 := blk_frozen BK198.out 5
          have hfz29_6 := blk_frozen BK198.out 6
          have hfz29_7 := blk_frozen BK198.out 7
          have hfz29_8 := blk_frozen BK198.out 8
          have hcz30_0 : w5.cell? ⟨gb199, 0, none⟩ = some (.int .i64 a1_0) := (blk_cell BK199.out 0).trans rfl
          have hcz30_1 : w5.cell? ⟨gb199, 1, none⟩ = some (.int .i64 a1_1) := (blk_cell BK199.out 1).trans rfl
          have hcz30_2 : w5.cell? ⟨gb199, 2, none⟩ = some (.int .i64 a1_2) := (blk_cell BK199.out 2).trans rfl
          have hcz30_3 : w5.cell? ⟨gb199, 3, none⟩ = some (.int .i64 a1_3) := (blk_cell BK199.out 3).trans rfl
          have hcz30_4 : w5.cell? ⟨gb199, 4, none⟩ = some (.string a1_4) := (blk_cell BK199.out 4).trans rfl
          have hcz30_5 : w5.cell? ⟨gb199, 5, none⟩ = some (.int .i64 a1_5) := (blk_cell BK199.out 5).trans rfl
          have hcz30_6 : w5.cell? ⟨gb199, 6, none⟩ = some (.int .i64 a1_6) := (blk_cell BK199.out 6).trans rfl
          have hcz30_7 : w5.cell? ⟨gb199, 7, none⟩ = some (.string a1_7) := (blk_cell BK199.out 7).trans rfl
          have hcz30_8 : w5.cell? ⟨gb199, 8, none⟩ = some (.slice A1_8 l1_8.length c1_8) := (blk_cell BK199.out 8).trans rfl
          have hfz30_0 := blk_frozen BK199.out 0
          have hfz30_1 := blk_frozen BK199.out 1
          have hfz30_2 := blk_frozen BK199.out 2
          have hfz30_3 := blk_frozen BK199.out 3
          have hfz30_4 := blk_frozen BK199.out 4
          have hfz30_5 := blk_frozen BK199.out 5
          have hfz30_6 := blk_frozen BK199.out 6
          have hfz30_7 := blk_frozen BK199.out 7
          have hfz30_8 := blk_frozen BK199.out 8
          go_wp2
          repeat (go_quiet (fail); try go_wp2)
          go_meet
          case rel => exact ⟨_, (true), (by first | rfl | (simp; done) | (simp [*]; done)), H', ⟨by first | omega | exact Nat.le_refl _⟩, ⟨by (with_reducible repeat (first | refine blk_drewN ?_ _ | refine blk_drew ?_ | refine blk_alloc ?_ _)); exact BK198.out⟩, ⟨by (with_reducible repeat (first | refine blk_drewN ?_ _ | refine blk_drew ?_ | refine blk_alloc ?_ _)); exact BK199.out⟩, ⟨by repeat (first | (with_reducible first | exact HB.out | apply below_alloc | apply pw_below_drewN | apply below_drew1 | refine below_set ?_ GE198.out | refine below_set ?_ GE199.out) | exact HB.out)⟩⟩
      · rw [if_neg c7] at H
        have c7b0 : (a0_1 == a1_1) = false := beq_eq_false_iff_ne.mpr c7
        have c7b1 : (a0_1 != a1_1) = true := bne_iff_ne.mpr c7
        have H' := Aside0.mk H
        clear H
        have hnb31 := NB198_199.out
        have hnc31 := NB199_198.out
        have hcz32_0 : w5.cell? ⟨gb198, 0, none⟩ = some (.int .i64 a0_0) := (blk_cell BK198.out 0).trans rfl
        have hcz32_1 : w5.cell? ⟨gb198, 1, none⟩ = some (.int .i64 a0_1) := (blk_cell BK198.out 1).trans rfl
        have hcz32_2 : w5.cell? ⟨gb198, 2, none⟩ = some (.int .i64 a0_2) := (blk_cell BK198.out 2).trans rfl
        have hcz32_3 : w5.cell? ⟨gb198, 3, none⟩ = some (.int .i64 a0_3) := (blk_cell BK198.out 3).trans rfl
        have hcz32_4 : w5.cell? ⟨gb198, 4, none⟩ = some (.string a0_4) := (blk_cell BK198.out 4).trans rfl
        have hcz32_5 : w5.cell? ⟨gb198, 5, none⟩ = some (.int .i64 a0_5) := (blk_cell BK198.out 5).trans rfl
        have hcz32_6 : w5.cell? ⟨gb198, 6, none⟩ = some (.int .i64 a0_6) := (blk_cell BK198.out 6).trans rfl
        have hcz32_7 : w5.cell? ⟨gb198, 7, none⟩ = some (.string a0_7) := (blk_cell BK198.out 7).trans rfl
        have hcz32_8 : w5.cell? ⟨gb198, 8, none⟩ = some (.slice A0_8 l0_8.length c0_8) := (blk_cell BK198.out 8).trans rfl
        have hfz32_0 := blk_frozen BK198.out 0
        have hfz32_1 := blk_frozen BK198.out 1
        have hfz32_2 := blk_frozen BK198.out 2
        have hfz32_3 := blk_frozen BK198.out 3
        have hfz32_4 := blk_frozen BK198.out 4
        have hfz32_5 := blk_frozen BK198.out 5
        have hfz32_6 := blk_frozen BK198.out 6
        have hfz32_7 := blk_frozen BK198.out 7
        have hfz32_8 := blk_frozen BK198.out 8
        have hcz33_0 : w5.cell? ⟨gb199, 0, none⟩ = some (.int .i64 a1_0) := (blk_cell BK199.out 0).trans rfl
        have hcz33_1 : w5.cell? ⟨gb199, 1, none⟩ = some (.int .i64 a1_1) := (blk_cell BK199.out 1).trans rfl
        have hcz33_2 : w5.cell? ⟨gb199, 2, none⟩ = some (.int .i64 a1_2) := (blk_cell BK199.out 2).trans rfl
        have hcz33_3 : w5.cell? ⟨gb199, 3, none⟩ = some (.int .i64 a1_3) := (blk_cell BK199.out 3).trans rfl
        have hcz33_4 : w5.cell? ⟨gb199, 4, none⟩ = some (.string a1_4) := (blk_cell BK199.out 4).trans rfl
        have hcz33_5 : w5.cell? ⟨gb199, 5, none⟩ = some (.int .i64 a1_5) := (blk_cell BK199.out 5).trans rfl
        have hcz33_6 : w5.cell? ⟨gb199, 6, none⟩ = some (.int .i64 a1_6) := (blk_cell BK199.out 6).trans rfl
        have hcz33_7 : w5.cell? ⟨gb199, 7, none⟩ = some (.string a1_7) := (blk_cell BK199.out 7).trans rfl
        have hcz33_8 : w5.cell? ⟨gb199, 8, none⟩ = some (.slice A1_8 l1_8.length c1_8) := (blk_cell BK199.out 8).trans rfl
        have hfz33_0 := blk_frozen BK199.out 0
        have hfz33_1 := blk_frozen BK199.out 1
        have hfz33_2 := blk_frozen BK199.out 2
        have hfz33_3 := blk_frozen BK199.out 3
        have hfz33_4 := blk_frozen BK199.out 4
        have hfz33_5 := blk_frozen BK199.out 5
        have hfz33_6 := blk_frozen BK199.out 6
        have hfz33_7 := blk_frozen BK199.out 7
        have hfz33_8 := blk_frozen BK199.out 8
        go_wp2
        repeat (go_quiet (fail); try go_wp2)
        go_meet
        case rel => exact ⟨_, (true), (by first | rfl | (simp; done) | (simp [*]; done)), H', ⟨by first | omega | exact Nat.le_refl _⟩, ⟨by (with_reducible repeat (first | refine blk_drewN ?_ _ | refine blk_drew ?_ | refine blk_alloc ?_ _)); exact BK198.out⟩, ⟨by (with_reducible repeat (first | refine blk_drewN ?_ _ | refine blk_drew ?_ | refine blk_alloc ?_ _)); exact BK199.out⟩, ⟨by repeat (first | (with_reducible first | exact HB.out | apply below_alloc | apply pw_below_drewN | apply below_drew1 | refine below_set ?_ GE198.out | refine below_set ?_ GE199.out) | exact HB.out)⟩⟩
    · rw [if_neg c6] at H
      have c6b0 : (a0_0 == a1_0) = false := beq_eq_false_iff_ne.mpr c6
      have c6b1 : (a0_0 != a1_0) = true := bne_iff_ne.mpr c6
      (first | rw [c6b0] | (simp only [i64_w, i32_w]; rw [c6b0]) | skip)
      have H' := Aside0.mk H
      clear H
      have hnb34 := NB198_199.out
      have hnc34 := NB199_198.out
      have hcz35_0 : w5.cell? ⟨gb198, 0, none⟩ = some (.int .i64 a0_0) := (blk_cell BK198.out 0).trans rfl
      have hcz35_1 : w5.cell? ⟨gb198, 1, none⟩ = some (.int .i64 a0_1) := (blk_cell BK198.out 1).trans rfl
      have hcz35_2 : w5.cell? ⟨gb198, 2, none⟩ = some (.int .i64 a0_2) := (blk_cell BK198.out 2).trans rfl
      have hcz35_3 : w5.cell? ⟨gb198, 3, none⟩ = some (.int .i64 a0_3) := (blk_cell BK198.out 3).trans rfl
      have hcz35_4 : w5.cell? ⟨gb198, 4, none⟩ = some (.string a0_4) := (blk_cell BK198.out 4).trans rfl
      have hcz35_5 : w5.cell? ⟨gb198, 5, none⟩ = some (.int .i64 a0_5) := (blk_cell BK198.out 5).trans rfl
      have hcz35_6 : w5.cell? ⟨gb198, 6, none⟩ = some (.int .i64 a0_6) := (blk_cell BK198.out 6).trans rfl
      have hcz35_7 : w5.cell? ⟨gb198, 7, none⟩ = some (.string a0_7) := (blk_cell BK198.out 7).trans rfl
      have hcz35_8 : w5.cell? ⟨gb198, 8, none⟩ = some (.slice A0_8 l0_8.length c0_8) := (blk_cell BK198.out 8).trans rfl
      have hfz35_0 := blk_frozen BK198.out 0
      have hfz35_1 := blk_frozen BK198.out 1
      have hfz35_2 := blk_frozen BK198.out 2
      have hfz35_3 := blk_frozen BK198.out 3
      have hfz35_4 := blk_frozen BK198.out 4
      have hfz35_5 := blk_frozen BK198.out 5
      have hfz35_6 := blk_frozen BK198.out 6
      have hfz35_7 := blk_frozen BK198.out 7
      have hfz35_8 := blk_frozen BK198.out 8
      have hcz36_0 : w5.cell? ⟨gb199, 0, none⟩ = some (.int .i64 a1_0) := (blk_cell BK199.out 0).trans rfl
      have hcz36_1 : w5.cell? ⟨gb199, 1, none⟩ = some (.int .i64 a1_1) := (blk_cell BK199.out 1).trans rfl
      have hcz36_2 : w5.cell? ⟨gb199, 2, none⟩ = some (.int .i64 a1_2) := (blk_cell BK199.out 2).trans rfl
      have hcz36_3 : w5.cell? ⟨gb199, 3, none⟩ = some (.int .i64 a1_3) := (blk_cell BK199.out 3).trans rfl
      have hcz36_4 : w5.cell? ⟨gb199, 4, none⟩ = some (.string a1_4) := (blk_cell BK199.out 4).trans rfl
      have hcz36_5 : w5.cell? ⟨gb199, 5, none⟩ = some (.int .i64 a1_5) := (blk_cell BK199.out 5).trans rfl
      have hcz36_6 : w5.cell? ⟨gb199, 6, none⟩ = some (.int .i64 a1_6) := (blk_cell BK199.out 6).trans rfl
      have hcz36_7 : w5.cell? ⟨gb199, 7, none⟩ = some (.string a1_7) := (blk_cell BK199.out 7).trans rfl
      have hcz36_8 : w5.cell? ⟨gb199, 8, none⟩ = some (.slice A1_8 l1_8.length c1_8) := (blk_cell BK199.out 8).trans rfl
      have hfz36_0 := blk_frozen BK199.out 0
      have hfz36_1 := blk_frozen BK199.out 1
      have hfz36_2 := blk_frozen BK199.out 2
      have hfz36_3 := blk_frozen BK199.out 3
      have hfz36_4 := blk_frozen BK199.out 4
      have hfz36_5 := blk_frozen BK199.out 5
      have hfz36_6 := blk_frozen BK199.out 6
      have hfz36_7 := blk_frozen BK199.out 7
      have hfz36_8 := blk_frozen BK199.out 8
      go_wp2
      repeat (go_quiet (fail); try go_wp2)
      go_meet
      case rel => exact ⟨_, (true), (by first | rfl | (simp; done) | (simp [*]; done)), H', ⟨by first | omega | exact Nat.le_refl _⟩, ⟨by (with_reducible repeat (first | refine blk_drewN ?_ _ | refine blk_drew ?_ | refine blk_alloc ?_ _)); exact BK198.out⟩, ⟨by (with_reducible repeat (first | refine blk_drewN ?_ _ | refine blk_drew ?_ | refine blk_alloc ?_ _)); exact BK199.out⟩, ⟨by repeat (first | (with_reducible first | exact HB.out | apply below_alloc | apply pw_below_drewN | apply below_drew1 | refine below_set ?_ GE198.out | refine below_set ?_ GE199.out) | exact HB.out)⟩⟩
  case rest =>
    clear HC3
    try clear c1
    try clear c2
    try clear p2
    try clear c3
    try clear c6
    try clear c6b0
    try clear c6b1
    try clear c7
    try clear c7b0
    try clear c7b1
    try clear c8
    try clear c8b0
    try clear c8b1
    try clear c9
    try clear c9b0
    try clear c9b1
    try clear c10
    try clear c10b0
    try clear c10b1
    try clear c11
    try clear c11b0
    try clear c12
    try clear c14
    try clear c15
    try clear c15b0
    try clear c15b1
    try clear c16
    try clear c19
    try clear c22
    try clear c25
    try clear c28
    try clear c31
    try clear c34
    try clear hcz13_0
    try clear hcz13_1
    try clear hcz13_2
    try clear hcz13_3
    try clear hcz13_4
    try clear hcz13_5
    try clear hcz13_6
    try clear hcz13_7
    try clear hcz13_8
    try clear hcz14_0
    try clear hcz14_1
    try clear hcz14_2
    try clear hcz14_3
    try clear hcz14_4
    try clear hcz14_5
    try clear hcz14_6
    try clear hcz14_7
    try clear hcz14_8
    try clear hcz17_0
    try clear hcz17_1
    try clear hcz17_2
    try clear hcz17_3
    try clear hcz17_4
    try clear hcz17_5
    try clear hcz17_6
    try clear hcz17_7
    try clear hcz17_8
    try clear hcz18_0
    try clear hcz18_1
    try clear hcz18_2
    try clear hcz18_3
    try clear hcz18_4
    try clear hcz18_5
    try clear hcz18_6
    try clear hcz18_7
    try clear hcz18_8
    try clear hcz20_0
    try clear hcz20_1
    try clear hcz20_2
    try clear hcz20_3
    try clear hcz20_4
    try clear hcz20_5
    try clear hcz20_6
    try clear hcz20_7
    try clear hcz20_8
    try clear hcz21_0
    try clear hcz21_1
    try clear hcz21_2
    try clear hcz21_3
    try clear hcz21_4
    try clear hcz21_5
    try clear hcz21_6
    try clear hcz21_7
    try clear hcz21_8
    try clear hcz23_0
    try clear hcz23_1
    try clear hcz23_2
    try clear hcz23_3
    try clear hcz23_4
    try clear hcz23_5
    try clear hcz23_6
    try clear hcz23_7
    try clear hcz23_8
    try clear hcz24_0
    try clear hcz24_1
    try clear hcz24_2
    try clear hcz24_3
    try clear hcz24_4
    try clear hcz24_5
    try clear hcz24_6
    try clear hcz24_7
    try clear hcz24_8
    try clear hcz26_0
    try clear hcz26_1
    try clear hcz26_2
    try clear hcz26_3
    try clear hcz26_4
    try clear hcz26_5
    try clear hcz26_6
    try clear hcz26_7
    try clear hcz26_8
    try clear hcz27_0
    try clear hcz27_1
    try clear hcz27_2
    try clear hcz27_3
    try clear hcz27_4
    try clear hcz27_5
    try clear hcz27_6
    try clear hcz27_7
    try clear hcz27_8
    try clear hcz29_0
    try clear hcz29_1
    try clear hcz29_2
    try clear hcz29_3
    try clear hcz29_4
    try clear hcz29_5
    try clear hcz29_6
    try clear hcz29_7
    try clear hcz29_8
    try clear hcz30_0
    try clear hcz30_1
    try clear hcz30_2
    try clear hcz30_3
    try clear hcz30_4
    try clear hcz30_5
    try clear hcz30_6
    try clear hcz30_7
    try clear hcz30_8
    try clear hcz32_0
    try clear hcz32_1
    try clear hcz32_2
    try clear hcz32_3
    try clear hcz32_4
    try clear hcz32_5
    try clear hcz32_6
    try clear hcz32_7
    try clear hcz32_8
    try clear hcz33_0
    try clear hcz33_1
    try clear hcz33_2
    try clear hcz33_3
    try clear hcz33_4
    try clear hcz33_5
    try clear hcz33_6
    try clear hcz33_7
    try clear hcz33_8
    try clear hcz35_0
    try clear hcz35_1
    try clear hcz35_2
    try clear hcz35_3
    try clear hcz35_4
    try clear hcz35_5
    try clear hcz35_6
    try clear hcz35_7
    try clear hcz35_8
    try clear hcz36_0
    try clear hcz36_1
    try clear hcz36_2
    try clear hcz36_3
    try clear hcz36_4
    try clear hcz36_5
    try clear hcz36_6
    try clear hcz36_7
    try clear hcz36_8
    try clear hfz13_0
    try clear hfz13_1
    try clear hfz13_2
    try clear hfz13_3
    try clear hfz13_4
    try clear hfz13_5
    try clear hfz13_6
    try clear hfz13_7
    try clear hfz13_8
    try clear hfz14_0
    try clear hfz14_1
    try clear hfz14_2
    try clear hfz14_3
    try clear hfz14_4
    try clear hfz14_5
    try clear hfz14_6
    try clear hfz14_7
    try clear hfz14_8
    try clear hfz17_0
    try clear hfz17_1
    try clear hfz17_2
    try clear hfz17_3
    try clear hfz17_4
    try clear hfz17_5
    try clear hfz17_6
    try clear hfz17_7
    try clear hfz17_8
    try clear hfz18_0
    try clear hfz18_1
    try clear hfz18_2
    try clear hfz18_3
    try clear hfz18_4
    try clear hfz18_5
    try clear hfz18_6
    try clear hfz18_7
    try clear hfz18_8
    try clear hfz20_0
    try clear hfz20_1
    try clear hfz20_2
    try clear hfz20_3
    try clear hfz20_4
    try clear hfz20_5
    try clear hfz20_6
    try clear hfz20_7
    try clear hfz20_8
    try clear hfz21_0
    try clear hfz21_1
    try clear hfz21_2
    try clear hfz21_3
    try clear hfz21_4
    try clear hfz21_5
    try clear hfz21_6
    try clear hfz21_7
    try clear hfz21_8
    try clear hfz23_0
    try clear hfz23_1
    try clear hfz23_2
    try clear hfz23_3
    try clear hfz23_4
    try clear hfz23_5
    try clear hfz23_6
    try clear hfz23_7
    try clear hfz23_8
    try clear hfz24_0
    try clear hfz24_1
    try clear hfz24_2
    try clear hfz24_3
    try clear hfz24_4
    try clear hfz24_5
    try clear hfz24_6
    try clear hfz24_7
    try clear hfz24_8
    try clear hfz26_0
    try clear hfz26_1
    try clear hfz26_2
    try clear hfz26_3
    try clear hfz26_4
    try clear hfz26_5
    try clear hfz26_6
    try clear hfz26_7
    try clear hfz26_8
    try clear hfz27_0
    try clear hfz27_1
    try clear hfz27_2
    try clear hfz27_3
    try clear hfz27_4
    try clear hfz27_5
    try clear hfz27_6
    try clear hfz27_7
    try clear hfz27_8
    try clear hfz29_0
    try clear hfz29_1
    try clear hfz29_2
    try clear hfz29_3
    try clear hfz29_4
    try clear hfz29_5
    try clear hfz29_6
    try clear hfz29_7
    try clear hfz29_8
    try clear hfz30_0
    try clear hfz30_1
    try clear hfz30_2
    try clear hfz30_3
    try clear hfz30_4
    try clear hfz30_5
    try clear hfz30_6
    try clear hfz30_7
    try clear hfz30_8
    try clear hfz32_0
    try clear hfz32_1
    try clear hfz32_2
    try clear hfz32_3
    try clear hfz32_4
    try clear hfz32_5
    try clear hfz32_6
    try clear hfz32_7
    try clear hfz32_8
    try clear hfz33_0
    try clear hfz33_1
    try clear hfz33_2
    try clear hfz33_3
    try clear hfz33_4
    try clear hfz33_5
    try clear hfz33_6
    try clear hfz33_7
    try clear hfz33_8
    try clear hfz35_0
    try clear hfz35_1
    try clear hfz35_2
    try clear hfz35_3
    try clear hfz35_4
    try clear hfz35_5
    try clear hfz35_6
    try clear hfz35_7
    try clear hfz35_8
    try clear hfz36_0
    try clear hfz36_1
    try clear hfz36_2
    try clear hfz36_3
    try clear hfz36_4
    try clear hfz36_5
    try clear hfz36_6
    try clear hfz36_7
    try clear hfz36_8
    obtain ⟨kq, x61_2, rfl, HA, HJ2, BK198, BK199, HB⟩ := hcut
    cases kq with
    | zero => exact absurd HA.out (by simp [vitrineref20_Same.j0])
    | succ kj2 =>
      have H := HA.out
      clear HA
      simp only [vitrineref20_Same.j0] at H
      by_cases c37 : x61_2 = true
      · subst c37
        have H1 : (some false) = some r := by rw [if_pos rfl] at H; exact H
        clear H
        have H := H1
        clear H1
        obtain rfl := Option.some.inj H
        go_wp2
        repeat (go_quiet (fail); try go_wp2)
        go_ret
        exact ⟨by first | rfl | (simp [errW_none, errW_some] <;> rfl) | (simp [*, errW_none, errW_some] <;> rfl), by repeat (first | (with_reducible first | exact HB.out | apply below_alloc | apply pw_below_drewN | apply below_drew1 | refine below_set ?_ GE198.out | refine below_set ?_ GE199.out) | exact HB.out)⟩
      · replace c37 := Bool.eq_false_iff.mpr c37
        subst c37
        have H1 : (vitrineref20_Same.l0 kj2 0 a0_0 a0_1 a0_2 a0_3 a0_4 a0_5 a0_6 a0_7 l0_8 a1_0 a1_1 a1_2 a1_3 a1_4 a1_5 a1_6 a1_7 l1_8) = some r := by rw [if_neg (show ¬ (false = true) by decide)] at H; exact H
        clear H
        have H := H1
        clear H1
        have H' := Aside0.mk H
        clear H
        go_wp2
        repeat (go_quiet (fail); try go_wp2)
        go_loopg [5] kj2 (fun kq v5 w' => ∃ (x5_2 : Int), v5 = .int .i64 x5_2 ∧ Aside0 (vitrineref20_Same.l0 kq x5_2 a0_0 a0_1 a0_2 a0_3 a0_4 a0_5 a0_6 a0_7 l0_8 a1_0 a1_1 a1_2 a1_3 a1_4 a1_5 a1_6 a1_7 l1_8 = some r) ∧ Aside0 (kq ≤ kj2) ∧ Aside0 (w'.heap[gb198]? = some (.cells #[.int .i64 a0_0, .int .i64 a0_1, .int .i64 a0_2, .int .i64 a0_3, .string a0_4, .int .i64 a0_5, .int .i64 a0_6, .string a0_7, (.slice A0_8 l0_8.length c0_8)] 26 (0, 0))) ∧ Aside0 (w'.heap[gb199]? = some (.cells #[.int .i64 a1_0, .int .i64 a1_1, .int .i64 a1_2, .int .i64 a1_3, .string a1_4, .int .i64 a1_5, .int .i64 a1_6, .string a1_7, (.slice A1_8 l1_8.length c1_8)] 26 (0, 0))) ∧ Aside0 (Below w.heap.size w w'))
        case atStart => exact ⟨(0), (by first | rfl | (simp; done) | (simp [*]; done)), H', ⟨Nat.le_refl _⟩, ⟨by (with_reducible repeat (first | refine blk_drewN ?_ _ | refine blk_drew ?_ | refine blk_alloc ?_ _)); exact BK198.out⟩, ⟨by (with_reducible repeat (first | refine blk_drewN ?_ _ | refine blk_drew ?_ | refine blk_alloc ?_ _)); exact BK199.out⟩, ⟨by repeat (first | (with_reducible first | exact HB.out | apply below_alloc | apply pw_below_drewN | apply below_drew1 | refine below_set ?_ GE198.out | refine below_set ?_ GE199.out) | exact HB.out)⟩⟩
        case round =>
          clear H'
          try clear c1
          try clear c2
          try clear p2
          try clear c3
          try clear c6
          try clear c6b0
          try clear c6b1
          try clear c7
          try clear c7b0
          try clear c7b1
          try clear c8
          try clear c8b0
          try clear c8b1
          try clear c9
          try clear c9b0
          try clear c9b1
          try clear c10
          try clear c10b0
          try clear c10b1
          try clear c11
          try clear c11b0
          try clear c12
          try clear c14
          try clear c15
          try clear c15b0
          try clear c15b1
          try clear c16
          try clear c19
          try clear c22
          try clear c25
          try clear c28
          try clear c31
          try clear c34
          try clear c37
          try clear hcz13_0
          try clear hcz13_1
          try clear hcz13_2
          try clear hcz13_3
          try clear hcz13_4
          try clear hcz13_5
          try clear hcz13_6
          try clear hcz13_7
          try clear hcz13_8
          try clear hcz14_0
          try clear hcz14_1
          try clear hcz14_2
          try clear hcz14_3
          try clear hcz14_4
          try clear hcz14_5
          try clear hcz14_6
          try clear hcz14_7
          try clear hcz14_8
          try clear hcz17_0
          try clear hcz17_1
          try clear hcz17_2
          try clear hcz17_3
          try clear hcz17_4
          try clear hcz17_5
          try clear hcz17_6
          try clear hcz17_7
          try clear hcz17_8
          try clear hcz18_0
          try clear hcz18_1
          try clear hcz18_2
          try clear hcz18_3
          try clear hcz18_4
          try clear hcz18_5
          try clear hcz18_6
          try clear hcz18_7
          try clear hcz18_8
          try clear hcz20_0
          try clear hcz20_1
          try clear hcz20_2
          try clear hcz20_3
          try clear hcz20_4
          try clear hcz20_5
          try clear hcz20_6
          try clear hcz20_7
          try clear hcz20_8
          try clear hcz21_0
          try clear hcz21_1
          try clear hcz21_2
          try clear hcz21_3
          try clear hcz21_4
          try clear hcz21_5
          try clear hcz21_6
          try clear hcz21_7
          try clear hcz21_8
          try clear hcz23_0
          try clear hcz23_1
          try clear hcz23_2
          try clear hcz23_3
          try clear hcz23_4
          try clear hcz23_5
          try clear hcz23_6
          try clear hcz23_7
          try clear hcz23_8
          try clear hcz24_0
          try clear hcz24_1
          try clear hcz24_2
          try clear hcz24_3
          try clear hcz24_4
          try clear hcz24_5
          try clear hcz24_6
          try clear hcz24_7
          try clear hcz24_8
          try clear hcz26_0
          try clear hcz26_1
          try clear hcz26_2
          try clear hcz26_3
          try clear hcz26_4
          try clear hcz26_5
          try clear hcz26_6
          try clear hcz26_7
          try clear hcz26_8
          try clear hcz27_0
          try clear hcz27_1
          try clear hcz27_2
          try clear hcz27_3
          try clear hcz27_4
          try clear hcz27_5
          try clear hcz27_6
          try clear hcz27_7
          try clear hcz27_8
          try clear hcz29_0
          try clear hcz29_1
          try clear hcz29_2
          try clear hcz29_3
          try clear hcz29_4
          try clear hcz29_5
          try clear hcz29_6
          try clear hcz29_7
          try clear hcz29_8
          try clear hcz30_0
          try clear hcz30_1
          try clear hcz30_2
          try clear hcz30_3
          try clear hcz30_4
          try clear hcz30_5
          try clear hcz30_6
          try clear hcz30_7
          try clear hcz30_8
          try clear hcz32_0
          try clear hcz32_1
          try clear hcz32_2
          try clear hcz32_3
          try clear hcz32_4
          try clear hcz32_5
          try clear hcz32_6
          try clear hcz32_7
          try clear hcz32_8
          try clear hcz33_0
          try clear hcz33_1
          try clear hcz33_2
          try clear hcz33_3
          try clear hcz33_4
          try clear hcz33_5
          try clear hcz33_6
          try clear hcz33_7
          try clear hcz33_8
          try clear hcz35_0
          try clear hcz35_1
          try clear hcz35_2
          try clear hcz35_3
          try clear hcz35_4
          try clear hcz35_5
          try clear hcz35_6
          try clear hcz35_7
          try clear hcz35_8
          try clear hcz36_0
          try clear hcz36_1
          try clear hcz36_2
          try clear hcz36_3
          try clear hcz36_4
          try clear hcz36_5
          try clear hcz36_6
          try clear hcz36_7
          try clear hcz36_8
          try clear hfz13_0
          try clear hfz13_1
          try clear hfz13_2
          try clear hfz13_3
          try clear hfz13_4
          try clear hfz13_5
          try clear hfz13_6
          try clear hfz13_7
          try clear hfz13_8
          try clear hfz14_0
          try clear hfz14_1
          try clear hfz14_2
          try clear hfz14_3
          try clear hfz14_4
          try clear hfz14_5
          try clear hfz14_6
          try clear hfz14_7
          try clear hfz14_8
          try clear hfz17_0
          try clear hfz17_1
          try clear hfz17_2
          try clear hfz17_3
          try clear hfz17_4
          try clear hfz17_5
          try clear hfz17_6
          try clear hfz17_7
          try clear hfz17_8
          try clear hfz18_0
          try clear hfz18_1
          try clear hfz18_2
          try clear hfz18_3
          try clear hfz18_4
          try clear hfz18_5
          try clear hfz18_6
          try clear hfz18_7
          try clear hfz18_8
          try clear hfz20_0
          try clear hfz20_1
          try clear hfz20_2
          try clear hfz20_3
          try clear hfz20_4
          try clear hfz20_5
          try clear hfz20_6
          try clear hfz20_7
          try clear hfz20_8
          try clear hfz21_0
          try clear hfz21_1
          try clear hfz21_2
          try clear hfz21_3
          try clear hfz21_4
          try clear hfz21_5
          try clear hfz21_6
          try clear hfz21_7
          try clear hfz21_8
          try clear hfz23_0
          try clear hfz23_1
          try clear hfz23_2
          try clear hfz23_3
          try clear hfz23_4
          try clear hfz23_5
          try clear hfz23_6
          try clear hfz23_7
          try clear hfz23_8
          try clear hfz24_0
          try clear hfz24_1
          try clear hfz24_2
          try clear hfz24_3
          try clear hfz24_4
          try clear hfz24_5
          try clear hfz24_6
          try clear hfz24_7
          try clear hfz24_8
          try clear hfz26_0
          try clear hfz26_1
          try clear hfz26_2
          try clear hfz26_3
          try clear hfz26_4
          try clear hfz26_5
          try clear hfz26_6
          try clear hfz26_7
          try clear hfz26_8
          try clear hfz27_0
          try clear hfz27_1
          try clear hfz27_2
          try clear hfz27_3
          try clear hfz27_4
          try clear hfz27_5
          try clear hfz27_6
          try clear hfz27_7
          try clear hfz27_8
          try clear hfz29_0
          try clear hfz29_1
          try clear hfz29_2
          try clear hfz29_3
          try clear hfz29_4
          try clear hfz29_5
          try clear hfz29_6
          try clear hfz29_7
          try clear hfz29_8
          try clear hfz30_0
          try clear hfz30_1
          try clear hfz30_2
          try clear hfz30_3
          try clear hfz30_4
          try clear hfz30_5
          try clear hfz30_6
          try clear hfz30_7
          try clear hfz30_8
          try clear hfz32_0
          try clear hfz32_1
          try clear hfz32_2
          try clear hfz32_3
          try clear hfz32_4
          try clear hfz32_5
          try clear hfz32_6
          try clear hfz32_7
          try clear hfz32_8
          try clear hfz33_0
          try clear hfz33_1
          try clear hfz33_2
          try clear hfz33_3
          try clear hfz33_4
          try clear hfz33_5
          try clear hfz33_6
          try clear hfz33_7
          try clear hfz33_8
          try clear hfz35_0
          try clear hfz35_1
          try clear hfz35_2
          try clear hfz35_3
          try clear hfz35_4
          try clear hfz35_5
          try clear hfz35_6
          try clear hfz35_7
          try clear hfz35_8
          try clear hfz36_0
          try clear hfz36_1
          try clear hfz36_2
          try clear hfz36_3
          try clear hfz36_4
          try clear hfz36_5
          try clear hfz36_6
          try clear hfz36_7
          try clear hfz36_8
          try clear p2
          obtain ⟨x5_2, rfl, HA, HK2, BK198, BK199, HB⟩ := hrel
          cases gk with
          | zero => exact absurd HA.out (by simp [vitrineref20_Same.l0])
          | succ k2 =>
            have H := HA.out
            clear HA
            simp only [vitrineref20_Same.l0] at H
            by_cases c38 : x5_2 < (l0_8.length : Int)
            · rw [if_pos c38] at H
              have c38b0 : decide (x5_2 < (l0_8.length : Int)) = true := decide_eq_true c38
              clear c38
              by_cases c39 : 0 ≤ x5_2
              · rw [if_pos c39] at H
                have c39b0 : decide (0 ≤ x5_2) = true := decide_eq_true c39
                clear c39
                by_cases c40 : x5_2 < (l1_8.length : Int)
                · rw [if_pos c40] at H
                  have c40b0 : decide (x5_2 < (l1_8.length : Int)) = true := decide_eq_true c40
                  clear c40
                  by_cases c41 : (rdOf ByteArray.empty l0_8 x5_2).toList = (rdOf ByteArray.empty l1_8 x5_2).toList
                  · rw [if_pos c41] at H
                    have c41b0 : ((rdOf ByteArray.empty l0_8 x5_2).toList == (rdOf ByteArray.empty l1_8 x5_2).toList) = true := beq_iff_eq.mpr c41
                    have c41b1 : ((rdOf ByteArray.empty l0_8 x5_2).toList != (rdOf ByteArray.empty l1_8 x5_2).toList) = false := bne_eq_false_iff_eq.mpr c41
                    clear c41
                    have H' := Aside0.mk H
                    clear H
                    have hnb42 := NB198_199.out
                    have hnc42 := NB199_198.out
                    have hcz43_0 : wr.cell? ⟨gb198, 0, none⟩ = some (.int .i64 a0_0) := (blk_cell BK198.out 0).trans rfl
                    have hcz43_1 : wr.cell? ⟨gb198, 1, none⟩ = some (.int .i64 a0_1) := (blk_cell BK198.out 1).trans rfl
                    have hcz43_2 : wr.cell? ⟨gb198, 2, none⟩ = some (.int .i64 a0_2) := (blk_cell BK198.out 2).trans rfl
                    have hcz43_3 : wr.cell? ⟨gb198, 3, none⟩ = some (.int .i64 a0_3) := (blk_cell BK198.out 3).trans rfl
                    have hcz43_4 : wr.cell? ⟨gb198, 4, none⟩ = some (.string a0_4) := (blk_cell BK198.out 4).trans rfl
                    have hcz43_5 : wr.cell? ⟨gb198, 5, none⟩ = some (.int .i64 a0_5) := (blk_cell BK198.out 5).trans rfl
                    have hcz43_6 : wr.cell? ⟨gb198, 6, none⟩ = some (.int .i64 a0_6) := (blk_cell BK198.out 6).trans rfl
                    have hcz43_7 : wr.cell? ⟨gb198, 7, none⟩ = some (.string a0_7) := (blk_cell BK198.out 7).trans rfl
                    have hcz43_8 : wr.cell? ⟨gb198, 8, none⟩ = some (.slice A0_8 l0_8.length c0_8) := (blk_cell BK198.out 8).trans rfl
                    have hfz43_0 := blk_frozen BK198.out 0
                    have hfz43_1 := blk_frozen BK198.out 1
                    have hfz43_2 := blk_frozen BK198.out 2
                    have hfz43_3 := blk_frozen BK198.out 3
                    have hfz43_4 := blk_frozen BK198.out 4
                    have hfz43_5 := blk_frozen BK198.out 5
                    have hfz43_6 := blk_frozen BK198.out 6
                    have hfz43_7 := blk_frozen BK198.out 7
                    have hfz43_8 := blk_frozen BK198.out 8
                    have p200 : 0 ≤ (x5_2 : Int) := of_decide_eq_true (by first | (with_reducible assumption) | assumption)
                    have q200 : x5_2 < (l0_8.length : Int) := of_decide_eq_true (by first | (with_reducible assumption) | assumption)
                    obtain ⟨ad200, e200, hx200_0⟩ := Kd.at_string HR0_8.out x5_2 p200 q200
                    cases e200
                    replace hx200_0 := (HB.out.cell (World.block_lt_of_cell? w _ hx200_0)).trans hx200_0
                    replace p200 := eq_true p200
                    replace q200 := eq_true q200
                    have hcz44_0 : wr.cell? ⟨gb199, 0, none⟩ = some (.int .i64 a1_0) := (blk_cell BK199.out 0).trans rfl
                    have hcz44_1 : wr.cell? ⟨gb199, 1, none⟩ = some (.int .i64 a1_1) := (blk_cell BK199.out 1).trans rfl
                    have hcz44_2 : wr.cell? ⟨gb199, 2, none⟩ = some (.int .i64 a1_2) := (blk_cell BK199.out 2).trans rfl
                    have hcz44_3 : wr.cell? ⟨gb199, 3, none⟩ = some (.int .i64 a1_3) := (blk_cell BK199.out 3).trans rfl
                    have hcz44_4 : wr.cell? ⟨gb199, 4, none⟩ = some (.string a1_4) := (blk_cell BK199.out 4).trans rfl
                    have hcz44_5 : wr.cell? ⟨gb199, 5, none⟩ = some (.int .i64 a1_5) := (blk_cell BK199.out 5).trans rfl
                    have hcz44_6 : wr.cell? ⟨gb199, 6, none⟩ = some (.int .i64 a1_6) := (blk_cell BK199.out 6).trans rfl
                    have hcz44_7 : wr.cell? ⟨gb199, 7, none⟩ = some (.string a1_7) := (blk_cell BK199.out 7).trans rfl
                    have hcz44_8 : wr.cell? ⟨gb199, 8, none⟩ = some (.slice A1_8 l1_8.length c1_8) := (blk_cell BK199.out 8).trans rfl
                    have hfz44_0 := blk_frozen BK199.out 0
                    have hfz44_1 := blk_frozen BK199.out 1
                    have hfz44_2 := blk_frozen BK199.out 2
                    have hfz44_3 := blk_frozen BK199.out 3
                    have hfz44_4 := blk_frozen BK199.out 4
                    have hfz44_5 := blk_frozen BK199.out 5
                    have hfz44_6 := blk_frozen BK199.out 6
                    have hfz44_7 := blk_frozen BK199.out 7
                    have hfz44_8 := blk_frozen BK199.out 8
                    have p201 : 0 ≤ (x5_2 : Int) := of_decide_eq_true (by first | (with_reducible assumption) | assumption)
                    have q201 : x5_2 < (l1_8.length : Int) := of_decide_eq_true (by first | (with_reducible assumption) | assumption)
                    obtain ⟨ad201, e201, hx201_0⟩ := Kd.at_string HR1_8.out x5_2 p201 q201
                    cases e201
                    replace hx201_0 := (HB.out.cell (World.block_lt_of_cell? w _ hx201_0)).trans hx201_0
                    replace p201 := eq_true p201
                    replace q201 := eq_true q201
                    go_wp2
                    repeat (go_quiet (fail); try go_wp2)
                    go_roundg k2
                    case measure => have := HJ2.out; have := HK2.out; omega
                    case rel => exact ⟨(wrap64 (x5_2 + 1)), (by first | rfl | (simp; done) | (simp [*]; done)), H', ⟨by have := HJ2.out; have := HK2.out; omega⟩, ⟨by (with_reducible repeat (first | refine blk_drewN ?_ _ | refine blk_drew ?_ | refine blk_alloc ?_ _)); exact BK198.out⟩, ⟨by (with_reducible repeat (first | refine blk_drewN ?_ _ | refine blk_drew ?_ | refine blk_alloc ?_ _)); exact BK199.out⟩, ⟨by repeat (first | (with_reducible first | exact HB.out | apply below_alloc | apply pw_below_drewN | apply below_drew1 | refine below_set ?_ GE198.out | refine below_set ?_ GE199.out) | exact HB.out)⟩⟩
                  · rw [if_neg c41] at H
                    have c41b0 : ((rdOf ByteArray.empty l0_8 x5_2).toList == (rdOf ByteArray.empty l1_8 x5_2).toList) = false := beq_eq_false_iff_ne.mpr c41
                    have c41b1 : ((rdOf ByteArray.empty l0_8 x5_2).toList != (rdOf ByteArray.empty l1_8 x5_2).toList) = true := bne_iff_ne.mpr c41
                    obtain rfl := Option.some.inj H
                    have hnb45 := NB198_199.out
                    have hnc45 := NB199_198.out
                    have hcz46_0 : wr.cell? ⟨gb198, 0, none⟩ = some (.int .i64 a0_0) := (blk_cell BK198.out 0).trans rfl
                    have hcz46_1 : wr.cell? ⟨gb198, 1, none⟩ = some (.int .i64 a0_1) := (blk_cell BK198.out 1).trans rfl
                    have hcz46_2 : wr.cell? ⟨gb198, 2, none⟩ = some (.int .i64 a0_2) := (blk_cell BK198.out 2).trans rfl
                    have hcz46_3 : wr.cell? ⟨gb198, 3, none⟩ = some (.int .i64 a0_3) := (blk_cell BK198.out 3).trans rfl
                    have hcz46_4 : wr.cell? ⟨gb198, 4, none⟩ = some (.string a0_4) := (blk_cell BK198.out 4).trans rfl
                    have hcz46_5 : wr.cell? ⟨gb198, 5, none⟩ = some (.int .i64 a0_5) := (blk_cell BK198.out 5).trans rfl
                    have hcz46_6 : wr.cell? ⟨gb198, 6, none⟩ = some (.int .i64 a0_6) := (blk_cell BK198.out 6).trans rfl
                    have hcz46_7 : wr.cell? ⟨gb198, 7, none⟩ = some (.string a0_7) := (blk_cell BK198.out 7).trans rfl
                    have hcz46_8 : wr.cell? ⟨gb198, 8, none⟩ = some (.slice A0_8 l0_8.length c0_8) := (blk_cell BK198.out 8).trans rfl
                    have hfz46_0 := blk_frozen BK198.out 0
                    have hfz46_1 := blk_frozen BK198.out 1
                    have hfz46_2 := blk_frozen BK198.out 2
                    have hfz46_3 := blk_frozen BK198.out 3
                    have hfz46_4 := blk_frozen BK198.out 4
                    have hfz46_5 := blk_frozen BK198.out 5
                    have hfz46_6 := blk_frozen BK198.out 6
                    have hfz46_7 := blk_frozen BK198.out 7
                    have hfz46_8 := blk_frozen BK198.out 8
                    have p200 : 0 ≤ (x5_2 : Int) := of_decide_eq_true (by first | (with_reducible assumption) | assumption)
                    have q200 : x5_2 < (l0_8.length : Int) := of_decide_eq_true (by first | (with_reducible assumption) | assumption)
                    obtain ⟨ad200, e200, hx200_0⟩ := Kd.at_string HR0_8.out x5_2 p200 q200
                    cases e200
                    replace hx200_0 := (HB.out.cell (World.block_lt_of_cell? w _ hx200_0)).trans hx200_0
                    replace p200 := eq_true p200
                    replace q200 := eq_true q200
                    have hcz47_0 : wr.cell? ⟨gb199, 0, none⟩ = some (.int .i64 a1_0) := (blk_cell BK199.out 0).trans rfl
                    have hcz47_1 : wr.cell? ⟨gb199, 1, none⟩ = some (.int .i64 a1_1) := (blk_cell BK199.out 1).trans rfl
                    have hcz47_2 : wr.cell? ⟨gb199, 2, none⟩ = some (.int .i64 a1_2) := (blk_cell BK199.out 2).trans rfl
                    have hcz47_3 : wr.cell? ⟨gb199, 3, none⟩ = some (.int .i64 a1_3) := (blk_cell BK199.out 3).trans rfl
                    have hcz47_4 : wr.cell? ⟨gb199, 4, none⟩ = some (.string a1_4) := (blk_cell BK199.out 4).trans rfl
                    have hcz47_5 : wr.cell? ⟨gb199, 5, none⟩ = some (.int .i64 a1_5) := (blk_cell BK199.out 5).trans rfl
                    have hcz47_6 : wr.cell? ⟨gb199, 6, none⟩ = some (.int .i64 a1_6) := (blk_cell BK199.out 6).trans rfl
                    have hcz47_7 : wr.cell? ⟨gb199, 7, none⟩ = some (.string a1_7) := (blk_cell BK199.out 7).trans rfl
                    have hcz47_8 : wr.cell? ⟨gb199, 8, none⟩ = some (.slice A1_8 l1_8.length c1_8) := (blk_cell BK199.out 8).trans rfl
                    have hfz47_0 := blk_frozen BK199.out 0
                    have hfz47_1 := blk_frozen BK199.out 1
                    have hfz47_2 := blk_frozen BK199.out 2
                    have hfz47_3 := blk_frozen BK199.out 3
                    have hfz47_4 := blk_frozen BK199.out 4
                    have hfz47_5 := blk_frozen BK199.out 5
                    have hfz47_6 := blk_frozen BK199.out 6
                    have hfz47_7 := blk_frozen BK199.out 7
                    have hfz47_8 := blk_frozen BK199.out 8
                    have p201 : 0 ≤ (x5_2 : Int) := of_decide_eq_true (by first | (with_reducible assumption) | assumption)
                    have q201 : x5_2 < (l1_8.length : Int) := of_decide_eq_true (by first | (with_reducible assumption) | assumption)
                    obtain ⟨ad201, e201, hx201_0⟩ := Kd.at_string HR1_8.out x5_2 p201 q201
                    cases e201
                    replace hx201_0 := (HB.out.cell (World.block_lt_of_cell? w _ hx201_0)).trans hx201_0
                    replace p201 := eq_true p201
                    replace q201 := eq_true q201
                    go_wp2
                    repeat (go_quiet (fail); try go_wp2)
                    go_ret
                    exact ⟨by first | rfl | (simp [errW_none, errW_some] <;> rfl) | (simp [*, errW_none, errW_some] <;> rfl), by repeat (first | (with_reducible first | exact HB.out | apply below_alloc | apply pw_below_drewN | apply below_drew1 | refine below_set ?_ GE198.out | refine below_set ?_ GE199.out) | exact HB.out)⟩
                · rw [if_neg c40] at H
                  exact absurd H (by simp)
              · rw [if_neg c39] at H
                exact absurd H (by simp)
            · rw [if_neg c38] at H
              have c38b0 : decide (x5_2 < (l0_8.length : Int)) = false := decide_eq_false c38
              clear c38
              obtain rfl := Option.some.inj H
              have hnb48 := NB198_199.out
              have hnc48 := NB199_198.out
              have hcz49_0 : wr.cell? ⟨gb198, 0, none⟩ = some (.int .i64 a0_0) := (blk_cell BK198.out 0).trans rfl
              have hcz49_1 : wr.cell? ⟨gb198, 1, none⟩ = some (.int .i64 a0_1) := (blk_cell BK198.out 1).trans rfl
              have hcz49_2 : wr.cell? ⟨gb198, 2, none⟩ = some (.int .i64 a0_2) := (blk_cell BK198.out 2).trans rfl
              have hcz49_3 : wr.cell? ⟨gb198, 3, none⟩ = some (.int .i64 a0_3) := (blk_cell BK198.out 3).trans rfl
              have hcz49_4 : wr.cell? ⟨gb198, 4, none⟩ = some (.string a0_4) := (blk_cell BK198.out 4).trans rfl
              have hcz49_5 : wr.cell? ⟨gb198, 5, none⟩ = some (.int .i64 a0_5) := (blk_cell BK198.out 5).trans rfl
              have hcz49_6 : wr.cell? ⟨gb198, 6, none⟩ = some (.int .i64 a0_6) := (blk_cell BK198.out 6).trans rfl
              have hcz49_7 : wr.cell? ⟨gb198, 7, none⟩ = some (.string a0_7) := (blk_cell BK198.out 7).trans rfl
              have hcz49_8 : wr.cell? ⟨gb198, 8, none⟩ = some (.slice A0_8 l0_8.length c0_8) := (blk_cell BK198.out 8).trans rfl
              have hfz49_0 := blk_frozen BK198.out 0
              have hfz49_1 := blk_frozen BK198.out 1
              have hfz49_2 := blk_frozen BK198.out 2
              have hfz49_3 := blk_frozen BK198.out 3
              have hfz49_4 := blk_frozen BK198.out 4
              have hfz49_5 := blk_frozen BK198.out 5
              have hfz49_6 := blk_frozen BK198.out 6
              have hfz49_7 := blk_frozen BK198.out 7
              have hfz49_8 := blk_frozen BK198.out 8
              go_wp2
              repeat (go_quiet (fail); try go_wp2)
              go_ret
              exact ⟨by first | rfl | (simp [errW_none, errW_some] <;> rfl) | (simp [*, errW_none, errW_some] <;> rfl), by repeat (first | (with_reducible first | exact HB.out | apply below_alloc | apply pw_below_drewN | apply below_drew1 | refine below_set ?_ GE198.out | refine below_set ?_ GE199.out) | exact HB.out)⟩

end Go.Proofs.Ytnimhhhbefpifaa.PL20
