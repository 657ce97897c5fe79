/- Printed for this claim by a program of this session over the kit's print program: the Go functions as Lean functions, and proofs that the calls come to these answers. No conditions. -/
import Derived.Test.YtdbiokmlgniobaaXH
import Derived.Test.YtdbiokmlgniobaaXPL22x2
import Derived.Test.YtdbiokmlgniobaaXPL22x1
namespace Go.Proofs.Ytdbiokmlgniobaa.PL22
open Go.RowKit Go.Proofs.YtdbiokmlgniobaaW.PrintWords Go.Proofs.YtdbiokmlgniobaaW.PrintLast Go.Proofs.YtdbiokmlgniobaaW.PrintMore
attribute [local go_sem] max2_int min2_int max_two min_two max_three min_three max_four min_four   -- for this text's walks alone
set_option linter.unusedVariables false
set_option linter.unusedSimpArgs false

attribute [local go_sem high] eqA23
mutual
def vitrineref20_Same.j0 : Nat → Bool → Int → Int → Int → Int → ByteArray → Int → Int → ByteArray → List ByteArray → Int → Int → Int → Int → ByteArray → Int → Int → ByteArray → List ByteArray → Option (Bool)
 | 0, _, _, _, _, _, _, _, _, _, _, _, _, _, _, _, _, _, _, _ => none
 | k + 1, x61, x133000, x133001, x133002, x133003, x133004, x133005, x133006, x133007, x133008, x134000, x134001, x134002, x134003, x134004, x134005, x134006, x134007, x134008 => if x61 = true then (some false) else (vitrineref20_Same.l0 k 0 x133000 x133001 x133002 x133003 x133004 x133005 x133006 x133007 x133008 x134000 x134001 x134002 x134003 x134004 x134005 x134006 x134007 x134008)
def vitrineref20_Same.l0 : Nat → Int → Int → Int → Int → Int → ByteArray → Int → Int → ByteArray → List ByteArray → Int → Int → Int → Int → ByteArray → Int → Int → ByteArray → List ByteArray → Option (Bool)
 | 0, _, _, _, _, _, _, _, _, _, _, _, _, _, _, _, _, _, _, _ => none
 | k + 1, x5, x133000, x133001, x133002, x133003, x133004, x133005, x133006, x133007, x133008, x134000, x134001, x134002, x134003, x134004, x134005, x134006, x134007, x134008 => if x5 < (x133008.length : Int) then (if 0 ≤ x5 then (if x5 < (x134008.length : Int) then (if (rdOf ByteArray.empty x133008 x5).toList = (rdOf ByteArray.empty x134008 x5).toList then (vitrineref20_Same.l0 k (wrap64 (x5 + 1)) x133000 x133001 x133002 x133003 x133004 x133005 x133006 x133007 x133008 x134000 x134001 x134002 x134003 x134004 x134005 x134006 x134007 x134008) else (some false)) else (none)) else (none)) else (some true)
end
def vitrineref20_Same.f (k : Nat) (a0_0 : Int) (a0_1 : Int) (a0_2 : Int) (a0_3 : Int) (a0_4 : ByteArray) (a0_5 : Int) (a0_6 : Int) (a0_7 : ByteArray) (l0_8 : List ByteArray) (a1_0 : Int) (a1_1 : Int) (a1_2 : Int) (a1_3 : Int) (a1_4 : ByteArray) (a1_5 : Int) (a1_6 : Int) (a1_7 : ByteArray) (l1_8 : List ByteArray) : Option (Bool) := if a0_0 = a1_0 then (if a0_1 = a1_1 then (if a0_2 = a1_2 then (if a0_3 = a1_3 then (if a0_4.toList = a1_4.toList then (if (!(a0_5 == a1_5) || (!(a0_6 == a1_6))) = true then (vitrineref20_Same.j0 k true a0_0 a0_1 a0_2 a0_3 a0_4 a0_5 a0_6 a0_7 l0_8 a1_0 a1_1 a1_2 a1_3 a1_4 a1_5 a1_6 a1_7 l1_8) else (if a0_7.toList = a1_7.toList then (vitrineref20_Same.j0 k ((l0_8.length : Int) != (l1_8.length : Int)) a0_0 a0_1 a0_2 a0_3 a0_4 a0_5 a0_6 a0_7 l0_8 a1_0 a1_1 a1_2 a1_3 a1_4 a1_5 a1_6 a1_7 l1_8) else (vitrineref20_Same.j0 k true a0_0 a0_1 a0_2 a0_3 a0_4 a0_5 a0_6 a0_7 l0_8 a1_0 a1_1 a1_2 a1_3 a1_4 a1_5 a1_6 a1_7 l1_8))) else (vitrineref20_Same.j0 k true a0_0 a0_1 a0_2 a0_3 a0_4 a0_5 a0_6 a0_7 l0_8 a1_0 a1_1 a1_2 a1_3 a1_4 a1_5 a1_6 a1_7 l1_8)) else (vitrineref20_Same.j0 k true a0_0 a0_1 a0_2 a0_3 a0_4 a0_5 a0_6 a0_7 l0_8 a1_0 a1_1 a1_2 a1_3 a1_4 a1_5 a1_6 a1_7 l1_8)) else (vitrineref20_Same.j0 k true a0_0 a0_1 a0_2 a0_3 a0_4 a0_5 a0_6 a0_7 l0_8 a1_0 a1_1 a1_2 a1_3 a1_4 a1_5 a1_6 a1_7 l1_8)) else (vitrineref20_Same.j0 k true a0_0 a0_1 a0_2 a0_3 a0_4 a0_5 a0_6 a0_7 l0_8 a1_0 a1_1 a1_2 a1_3 a1_4 a1_5 a1_6 a1_7 l1_8)) else (vitrineref20_Same.j0 k true a0_0 a0_1 a0_2 a0_3 a0_4 a0_5 a0_6 a0_7 l0_8 a1_0 a1_1 a1_2 a1_3 a1_4 a1_5 a1_6 a1_7 l1_8)
set_option maxHeartbeats 40000000 in
set_option maxRecDepth 100000 in
theorem vitrineref20_Same.calls (k : Nat) (a0_0 : Int) (a0_1 : Int) (a0_2 : Int) (a0_3 : Int) (a0_4 : ByteArray) (a0_5 : Int) (a0_6 : Int) (a0_7 : ByteArray) (A0_8 : Option Addr) (c0_8 : Nat) (l0_8 : List ByteArray) (a1_0 : Int) (a1_1 : Int) (a1_2 : Int) (a1_3 : Int) (a1_4 : ByteArray) (a1_5 : Int) (a1_6 : Int) (a1_7 : ByteArray) (A1_8 : Option Addr) (c1_8 : Nat) (l1_8 : List ByteArray) (r : Bool) (w : World) (hr0_8 : Kd.C Kd.string w A0_8 l0_8.length l0_8) (hc0_8 : l0_8.length ≤ c0_8) (hr1_8 : Kd.C Kd.string w A1_8 l1_8.length l1_8) (hc1_8 : l1_8.length ≤ c1_8) (h : vitrineref20_Same.f k a0_0 a0_1 a0_2 a0_3 a0_4 a0_5 a0_6 a0_7 l0_8 a1_0 a1_1 a1_2 a1_3 a1_4 a1_5 a1_6 a1_7 l1_8 = some r) :
  Calls Try.prog 36 #[.agg #[.int .i64 a0_0, .int .i64 a0_1, .int .i64 a0_2, .int .i64 a0_3, .string a0_4, .int .i64 a0_5, .int .i64 a0_6, .string a0_7, .slice A0_8 l0_8.length c0_8], .agg #[.int .i64 a1_0, .int .i64 a1_1, .int .i64 a1_2, .int .i64 a1_3, .string a1_4, .int .i64 a1_5, .int .i64 a1_6, .string a1_7, .slice A1_8 l1_8.length c1_8]] w fun e w' => e = .returned (.bool r) ∧ Below w.heap.size w w' := by
 have hu26 := Try.underlying26
 have hu23 := Try.underlying23
 have HR0_8 := Aside0.mk hr0_8
 have HC0_8 := Aside0.mk hc0_8
 clear hr0_8 hc0_8
 have HR1_8 := Aside0.mk hr1_8
 have HC1_8 := Aside0.mk hc1_8
 clear hr1_8 hc1_8
 have HB := Aside0.mk (Below.refl w.heap.size w)
 have H : (if a0_0 = a1_0 then (if a0_1 = a1_1 then (if a0_2 = a1_2 then (if a0_3 = a1_3 then (if a0_4.toList = a1_4.toList then (if (!(a0_5 == a1_5) || (!(a0_6 == a1_6))) = true then (vitrineref20_Same.j0 k true a0_0 a0_1 a0_2 a0_3 a0_4 a0_5 a0_6 a0_7 l0_8 a1_0 a1_1 a1_2 a1_3 a1_4 a1_5 a1_6 a1_7 l1_8) else (if a0_7.toList = a1_7.toList then (vitrineref20_Same.j0 k ((l0_8.length : Int) != (l1_8.length : Int)) a0_0 a0_1 a0_2 a0_3 a0_4 a0_5 a0_6 a0_7 l0_8 a1_0 a1_1 a1_2 a1_3 a1_4 a1_5 a1_6 a1_7 l1_8) else (vitrineref20_Same.j0 k true a0_0 a0_1 a0_2 a0_3 a0_4 a0_5 a0_6 a0_7 l0_8 a1_0 a1_1 a1_2 a1_3 a1_4 a1_5 a1_6 a1_7 l1_8))) else (vitrineref20_Same.j0 k true a0_0 a0_1 a0_2 a0_3 a0_4 a0_5 a0_6 a0_7 l0_8 a1_0 a1_1 a1_2 a1_3 a1_4 a1_5 a1_6 a1_7 l1_8)) else (vitrineref20_Same.j0 k true a0_0 a0_1 a0_2 a0_3 a0_4 a0_5 a0_6 a0_7 l0_8 a1_0 a1_1 a1_2 a1_3 a1_4 a1_5 a1_6 a1_7 l1_8)) else (vitrineref20_Same.j0 k true a0_0 a0_1 a0_2 a0_3 a0_4 a0_5 a0_6 a0_7 l0_8 a1_0 a1_1 a1_2 a1_3 a1_4 a1_5 a1_6 a1_7 l1_8)) else (vitrineref20_Same.j0 k true a0_0 a0_1 a0_2 a0_3 a0_4 a0_5 a0_6 a0_7 l0_8 a1_0 a1_1 a1_2 a1_3 a1_4 a1_5 a1_6 a1_7 l1_8)) else (vitrineref20_Same.j0 k true a0_0 a0_1 a0_2 a0_3 a0_4 a0_5 a0_6 a0_7 l0_8 a1_0 a1_1 a1_2 a1_3 a1_4 a1_5 a1_6 a1_7 l1_8)) = some r := h
 clear h
 have HC3 := Aside0.mk H
 clear H
 go_enter Try.func36, Try.ntmps36
 go_upto_region 1 with (first | ((with_reducible refine gate_dst (N := 2) rfl ?_); (try (refine gate_guard (by rfl) ?_; dsimp only)); refine box_event ?hg (N := 2) ?hd (cs := #[.int .i64 a0_0, .int .i64 a0_1, .int .i64 a0_2, .int .i64 a0_3, .string a0_4, .int .i64 a0_5, .int .i64 a0_6, .string a0_7, .slice A0_8 l0_8.length c0_8]) (t := 26) ?hr ?_; (case hd => rfl); (case hg => rfl); (case hr => first | (go_simp; done) | (go_simp; rfl)); intro gb132 hg w4 hbox hb; have n0_ := Aside0.mk (below_step (hz HB) hb); have n1_ := Aside0.mk (hbox); have n2_ := Aside0.mk ((by rw [hg]; exact (below_size (hz HB)) : w.heap.size ≤ gb132)); have n3_ := Aside0.mk ((by rw [hg]; exact (below_size (hz HB)) : w.heap.size ≤ gb132)); clear HB; have HB := n0_; have BK132 := n1_; have GW132 := n2_; have GE132 := n3_; clear n0_ n1_ n2_ n3_; clear hb hbox hg) | ((with_reducible refine gate_dst (N := 3) rfl ?_); (try (refine gate_guard (by rfl) ?_; dsimp only)); refine box_event ?hg (N := 3) ?hd (cs := #[.int .i64 a1_0, .int .i64 a1_1, .int .i64 a1_2, .int .i64 a1_3, .string a1_4, .int .i64 a1_5, .int .i64 a1_6, .string a1_7, .slice A1_8 l1_8.length c1_8]) (t := 26) ?hr ?_; (case hd => rfl); (case hg => rfl); (case hr => first | (go_simp; done) | (go_simp; rfl)); intro gb133 hg w5 hbox hb; have n0_ := Aside0.mk (blk_below (g := gb132) (o := .cells #[.int .i64 a0_0, .int .i64 a0_1, .int .i64 a0_2, .int .i64 a0_3, .string a0_4, .int .i64 a0_5, .int .i64 a0_6, .string a0_7, .slice A0_8 l0_8.length c0_8] 26 (0, 0)) (kz BK132) hb); have n1_ := Aside0.mk (below_step (hz HB) hb); have n2_ := Aside0.mk (hbox); have n3_ := Aside0.mk ((by rw [hg]; exact (below_size (hz HB)) : w.heap.size ≤ gb133)); have n4_ := Aside0.mk ((by rw [hg]; exact (below_size (hz HB)) : w.heap.size ≤ gb133)); have n5_ := Aside0.mk ((by rw [hg]; exact Nat.ne_of_lt (blk_lt (g := gb132) (o := .cells #[.int .i64 a0_0, .int .i64 a0_1, .int .i64 a0_2, .int .i64 a0_3, .string a0_4, .int .i64 a0_5, .int .i64 a0_6, .string a0_7, .slice A0_8 l0_8.length c0_8] 26 (0, 0)) (kz BK132)) : gb132 ≠ gb133)); have n6_ := Aside0.mk ((by rw [hg]; exact Nat.ne_of_gt (blk_lt (g := gb132) (o := .cells #[.int .i64 a0_0, .int .i64 a0_1, .int .i64 a0_2, .int .i64 a0_3, .string a0_4, .int .i64 a0_5, .int .i64 a0_6, .string a0_7, .slice A0_8 l0_8.length c0_8] 26 (0, 0)) (kz BK132)) : gb133 ≠ gb132)); clear BK132; clear HB; have BK132 := n0_; have HB := n1_; have BK133 := n2_; have GW133 := n3_; have GE133 := n4_; have NB132_133 := n5_; have NB133_132 := n6_; clear n0_ n1_ n2_ n3_ n4_ n5_ n6_; clear hb hbox hg))
 repeat (go_quiet (first | ((with_reducible refine gate_dst (N := 2) rfl ?_); (try (refine gate_guard (by rfl) ?_; dsimp only)); refine box_event ?hg (N := 2) ?hd (cs := #[.int .i64 a0_0, .int .i64 a0_1, .int .i64 a0_2, .int .i64 a0_3, .string a0_4, .int .i64 a0_5, .int .i64 a0_6, .string a0_7, .slice A0_8 l0_8.length c0_8]) (t := 26) ?hr ?_; (case hd => rfl); (case hg => rfl); (case hr => first | (go_simp; done) | (go_simp; rfl)); intro gb132 hg w4 hbox hb; have n0_ := Aside0.mk (below_step (hz HB) hb); have n1_ := Aside0.mk (hbox); have n2_ := Aside0.mk ((by rw [hg]; exact (below_size (hz HB)) : w.heap.size ≤ gb132)); have n3_ := Aside0.mk ((by rw [hg]; exact (below_size (hz HB)) : w.heap.size ≤ gb132)); clear HB; have HB := n0_; have BK132 := n1_; have GW132 := n2_; have GE132 := n3_; clear n0_ n1_ n2_ n3_; clear hb hbox hg) | ((with_reducible refine gate_dst (N := 3) rfl ?_); (try (refine gate_guard (by rfl) ?_; dsimp only)); refine box_event ?hg (N := 3) ?hd (cs := #[.int .i64 a1_0, .int .i64 a1_1, .int .i64 a1_2, .int .i64 a1_3, .string a1_4, .int .i64 a1_5, .int .i64 a1_6, .string a1_7, .slice A1_8 l1_8.length c1_8]) (t := 26) ?hr ?_; (case hd => rfl); (case hg => rfl); (case hr => first | (go_simp; done) | (go_simp; rfl)); intro gb133 hg w5 hbox hb; have n0_ := Aside0.mk (blk_below (g := gb132) (o := .cells #[.int .i64 a0_0, .int .i64 a0_1, .int .i64 a0_2, .int .i64 a0_3, .string a0_4, .int .i64 a0_5, .int .i64 a0_6, .string a0_7, .slice A0_8 l0_8.length c0_8] 26 (0, 0)) (kz BK132) hb); have n1_ := Aside0.mk (below_step (hz HB) hb); have n2_ := Aside0.mk (hbox); have n3_ := Aside0.mk ((by rw [hg]; exact (below_size (hz HB)) : w.heap.size ≤ gb133)); have n4_ := Aside0.mk ((by rw [hg]; exact (below_size (hz HB)) : w.heap.size ≤ gb133)); have n5_ := Aside0.mk ((by rw [hg]; exact Nat.ne_of_lt (blk_lt (g := gb132) (o := .cells #[.int .i64 a0_0, .int .i64 a0_1, .int .i64 a0_2, .int .i64 a0_3, .string a0_4, .int .i64 a0_5, .int .i64 a0_6, .string a0_7, .slice A0_8 l0_8.length c0_8] 26 (0, 0)) (kz BK132)) : gb132 ≠ gb133)); have n6_ := Aside0.mk ((by rw [hg]; exact Nat.ne_of_gt (blk_lt (g := gb132) (o := .cells #[.int .i64 a0_0, .int .i64 a0_1, .int .i64 a0_2, .int .i64 a0_3, .string a0_4, .int .i64 a0_5, .int .i64 a0_6, .string a0_7, .slice A0_8 l0_8.length c0_8] 26 (0, 0)) (kz BK132)) : gb133 ≠ gb132)); clear BK132; clear HB; have BK132 := n0_; have HB := n1_; have BK133 := n2_; have GW133 := n3_; have GE133 := n4_; have NB132_133 := n5_; have NB133_132 := n6_; clear n0_ n1_ n2_ n3_ n4_ n5_ n6_; clear hb hbox hg)); go_upto_region 1 with (first | ((with_reducible refine gate_dst (N := 2) rfl ?_); (try (refine gate_guard (by rfl) ?_; dsimp only)); refine box_event ?hg (N := 2) ?hd (cs := #[.int .i64 a0_0, .int .i64 a0_1, .int .i64 a0_2, .int .i64 a0_3, .string a0_4, .int .i64 a0_5, .int .i64 a0_6, .string a0_7, .slice A0_8 l0_8.length c0_8]) (t := 26) ?hr ?_; (case hd => rfl); (case hg => rfl); (case hr => first | (go_simp; done) | (go_simp; rfl)); intro gb132 hg w4 hbox hb; have n0_ := Aside0.mk (below_step (hz HB) hb); have n1_ := Aside0.mk (hbox); have n2_ := Aside0.mk ((by rw [hg]; exact (below_size (hz HB)) : w.heap.size ≤ gb132)); have n3_ := Aside0.mk ((by rw [hg]; exact (below_size (hz HB)) : w.heap.size ≤ gb132)); clear HB; have HB := n0_; have BK132 := n1_; have GW132 := n2_; have GE132 := n3_; clear n0_ n1_ n2_ n3_; clear hb hbox hg) | ((with_reducible refine gate_dst (N := 3) rfl ?_); (try (refine gate_guard (by rfl) ?_; dsimp only)); refine box_event ?hg (N := 3) ?hd (cs := #[.int .i64 a1_0, .int .i64 a1_1, .int .i64 a1_2, .int .i64 a1_3, .string a1_4, .int .i64 a1_5, .int .i64 a1_6, .string a1_7, .slice A1_8 l1_8.length c1_8]) (t := 26) ?hr ?_; (case hd => rfl); (case hg => rfl); (case hr => first | (go_simp; done) | (go_simp; rfl)); intro gb133 hg w5 hbox hb; have n0_ := Aside0.mk (blk_below (g := gb132) (o := .cells #[.int .i64 a0_0, .int .i64 a0_1, .int .i64 a0_2, .int .i64 a0_3, .string a0_4, .int .i64 a0_5, .int .i64 a0_6, .string a0_7, .slice A0_8 l0_8.length c0_8] 26 (0, 0)) (kz BK132) hb); have n1_ := Aside0.mk (below_step (hz HB) hb); have n2_ := Aside0.mk (hbox); have n3_ := Aside0.mk ((by rw [hg]; exact (below_size (hz HB)) : w.heap.size ≤ gb133)); have n4_ := Aside0.mk ((by rw [hg]; exact (below_size (hz HB)) : w.heap.size ≤ gb133)); have n5_ := Aside0.mk ((by rw [hg]; exact Nat.ne_of_lt (blk_lt (g := gb132) (o := .cells #[.int .i64 a0_0, .int .i64 a0_1, .int .i64 a0_2, .int .i64 a0_3, .string a0_4, .int .i64 a0_5, .int .i64 a0_6, .string a0_7, .slice A0_8 l0_8.length c0_8] 26 (0, 0)) (kz BK132)) : gb132 ≠ gb133)); have n6_ := Aside0.mk ((by rw [hg]; exact Nat.ne_of_gt (blk_lt (g := gb132) (o := .cells #[.int .i64 a0_0, .int .i64 a0_1, .int .i64 a0_2, .int .i64 a0_3, .string a0_4, .int .i64 a0_5, .int .i64 a0_6, .string a0_7, .slice A0_8 l0_8.length c0_8] 26 (0, 0)) (kz BK132)) : gb133 ≠ gb132)); clear BK132; clear HB; have BK132 := n0_; have HB := n1_; have BK133 := n2_; have GW133 := n3_; have GE133 := n4_; have NB132_133 := n5_; have NB133_132 := n6_; clear n0_ n1_ n2_ n3_ n4_ n5_ n6_; clear hb hbox hg)))
 (try simp only [Act.put, List.setIfInBounds_toArray, List.set_cons_zero, List.set_cons_succ])
 go_cut [61] (fun v61 wc => ∃ (kq : Nat) (x61_2 : Bool), v61 = .bool x61_2 ∧ Aside0 (vitrineref20_Same.j0 kq x61_2 a0_0 a0_1 a0_2 a0_3 a0_4 a0_5 a0_6 a0_7 l0_8 a1_0 a1_1 a1_2 a1_3 a1_4 a1_5 a1_6 a1_7 l1_8 = some r) ∧ Aside0 (kq ≤ k) ∧ Aside0 (wc.heap[gb132]? = some (.cells #[.int .i64 a0_0, .int .i64 a0_1, .int .i64 a0_2, .int .i64 a0_3, .string a0_4, .int .i64 a0_5, .int .i64 a0_6, .string a0_7, (.slice A0_8 l0_8.length c0_8)] 26 (0, 0))) ∧ Aside0 (wc.heap[gb133]? = some (.cells #[.int .i64 a1_0, .int .i64 a1_1, .int .i64 a1_2, .int .i64 a1_3, .string a1_4, .int .i64 a1_5, .int .i64 a1_6, .string a1_7, (.slice A1_8 l1_8.length c1_8)] 26 (0, 0))) ∧ Aside0 (Below w.heap.size w wc))
 case first =>
  have H := HC3.out
  clear HC3
  by_cases c6 : a0_0 = a1_0
  ·rw [if_pos c6] at H
   have c6b0 : (a0_0 == a1_0) = true := beq_iff_eq.mpr c6
   have c6b1 : (a0_0 != a1_0) = false := bne_eq_false_iff_eq.mpr c6
   clear c6
   (first | rw [c6b0] | (simp only [i64_w, i32_w]; rw [c6b0]) | skip)
   by_cases c7 : a0_1 = a1_1
   ·rw [if_pos c7] at H
    have c7b0 : (a0_1 == a1_1) = true := beq_iff_eq.mpr c7
    have c7b1 : (a0_1 != a1_1) = false := bne_eq_false_iff_eq.mpr c7
    clear c7
    by_cases c8 : a0_2 = a1_2
    ·rw [if_pos c8] at H
     have c8b0 : (a0_2 == a1_2) = true := beq_iff_eq.mpr c8
     have c8b1 : (a0_2 != a1_2) = false := bne_eq_false_iff_eq.mpr c8
     clear c8
     by_cases c9 : a0_3 = a1_3
     ·rw [if_pos c9] at H
      have c9b0 : (a0_3 == a1_3) = true := beq_iff_eq.mpr c9
      have c9b1 : (a0_3 != a1_3) = false := bne_eq_false_iff_eq.mpr c9
      clear c9
      by_cases c10 : a0_4.toList = a1_4.toList
      ·rw [if_pos c10] at H
       have c10b0 : (a0_4.toList == a1_4.toList) = true := beq_iff_eq.mpr c10
       have c10b1 : (a0_4.toList != a1_4.toList) = false := bne_eq_false_iff_eq.mpr c10
       clear c10
       by_cases c11 : (!(a0_5 == a1_5) || (!(a0_6 == a1_6))) = true
       ·rw [if_pos c11] at H
        have c11b0 : (!(a0_5 == a1_5) || (!(a0_6 == a1_6))) = true := c11
        clear c11
        have H' := Aside0.mk H
        clear H
        have hnb12 := NB132_133.out
        have hnc12 := NB133_132.out
        have hcz13_0 : w5.cell? ⟨gb132, 0, none⟩ = some (.int .i64 a0_0) := (blk_cell BK132.out 0).trans rfl
        have hcz13_1 : w5.cell? ⟨gb132, 1, none⟩ = some (.int .i64 a0_1) := (blk_cell BK132.out 1).trans rfl
        have hcz13_2 : w5.cell? ⟨gb132, 2, none⟩ = some (.int .i64 a0_2) := (blk_cell BK132.out 2).trans rfl
        have hcz13_3 : w5.cell? ⟨gb132, 3, none⟩ = some (.int .i64 a0_3) := (blk_cell BK132.out 3).trans rfl
        have hcz13_4 : w5.cell? ⟨gb132, 4, none⟩ = some (.string a0_4) := (blk_cell BK132.out 4).trans rfl
        have hcz13_5 : w5.cell? ⟨gb132, 5, none⟩ = some (.int .i64 a0_5) := (blk_cell BK132.out 5).trans rfl
        have hcz13_6 : w5.cell? ⟨gb132, 6, none⟩ = some (.int .i64 a0_6) := (blk_cell BK132.out 6).trans rfl
        have hcz13_7 : w5.cell? ⟨gb132, 7, none⟩ = some (.string a0_7) := (blk_cell BK132.out 7).trans rfl
        have hcz13_8 : w5.cell? ⟨gb132, 8, none⟩ = some (.slice A0_8 l0_8.length c0_8) := (blk_cell BK132.out 8).trans rfl
        have hfz13_0 := blk_frozen BK132.out 0
        have hfz13_1 := blk_frozen BK132.out 1
        have hfz13_2 := blk_frozen BK132.out 2
        have hfz13_3 := blk_frozen BK132.out 3
        have hfz13_4 := blk_frozen BK132.out 4
        have hfz13_5 := blk_frozen BK132.out 5
        have hfz13_6 := blk_frozen BK132.out 6
        have hfz13_7 := blk_frozen BK132.out 7
        have hfz13_8 := blk_frozen BK132.out 8
        have hcz14_0 : w5.cell? ⟨gb133, 0, none⟩ = some (.int .i64 a1_0) := (blk_cell BK133.out 0).trans rfl
        have hcz14_1 : w5.cell? ⟨gb133, 1, none⟩ = some (.int .i64 a1_1) := (blk_cell BK133.out 1).trans rfl
        have hcz14_2 : w5.cell? ⟨gb133, 2, none⟩ = some (.int .i64 a1_2) := (blk_cell BK133.out 2).trans rfl
        have hcz14_3 : w5.cell? ⟨gb133, 3, none⟩ = some (.int .i64 a1_3) := (blk_cell BK133.out 3).trans rfl
        have hcz14_4 : w5.cell? ⟨gb133, 4, none⟩ = some (.string a1_4) := (blk_cell BK133.out 4).trans rfl
        have hcz14_5 : w5.cell? ⟨gb133, 5, none⟩ = some (.int .i64 a1_5) := (blk_cell BK133.out 5).trans rfl
        have hcz14_6 : w5.cell? ⟨gb133, 6, none⟩ = some (.int .i64 a1_6) := (blk_cell BK133.out 6).trans rfl
        have hcz14_7 : w5.cell? ⟨gb133, 7, none⟩ = some (.string a1_7) := (blk_cell BK133.out 7).trans rfl
        have hcz14_8 : w5.cell? ⟨gb133, 8, none⟩ = some (.slice A1_8 l1_8.length c1_8) := (blk_cell BK133.out 8).trans rfl
        have hfz14_0 := blk_frozen BK133.out 0
        have hfz14_1 := blk_frozen BK133.out 1
        have hfz14_2 := blk_frozen BK133.out 2
        have hfz14_3 := blk_frozen BK133.out 3
        have hfz14_4 := blk_frozen BK133.out 4
        have hfz14_5 := blk_frozen BK133.out 5
        have hfz14_6 := blk_frozen BK133.out 6
        have hfz14_7 := blk_frozen BK133.out 7
        have hfz14_8 := blk_frozen BK133.out 8
        go_wp2
        repeat (go_quiet (fail); try go_wp2)
        go_meet
        case rel => exact ⟨_, (true), (by first | rfl | (simp; done) | (simp [*]; done)), H', ⟨by first | omega | exact Nat.le_refl _⟩, ⟨kz BK132⟩, ⟨kz BK133⟩, ⟨hz HB⟩⟩
       ·rw [if_neg c11] at H
        have c11b0 : (!(a0_5 == a1_5) || (!(a0_6 == a1_6))) = false := by simpa using c11
        clear c11
        by_cases c15 : a0_7.toList = a1_7.toList
        ·rw [if_pos c15] at H
         have c15b0 : (a0_7.toList == a1_7.toList) = true := beq_iff_eq.mpr c15
         have c15b1 : (a0_7.toList != a1_7.toList) = false := bne_eq_false_iff_eq.mpr c15
         clear c15
         have H' := Aside0.mk H
         clear H
         have hnb16 := NB132_133.out
         have hnc16 := NB133_132.out
         have hcz17_0 : w5.cell? ⟨gb132, 0, none⟩ = some (.int .i64 a0_0) := (blk_cell BK132.out 0).trans rfl
         have hcz17_1 : w5.cell? ⟨gb132, 1, none⟩ = some (.int .i64 a0_1) := (blk_cell BK132.out 1).trans rfl
         have hcz17_2 : w5.cell? ⟨gb132, 2, none⟩ = some (.int .i64 a0_2) := (blk_cell BK132.out 2).trans rfl
         have hcz17_3 : w5.cell? ⟨gb132, 3, none⟩ = some (.int .i64 a0_3) := (blk_cell BK132.out 3).trans rfl
         have hcz17_4 : w5.cell? ⟨gb132, 4, none⟩ = some (.string a0_4) := (blk_cell BK132.out 4).trans rfl
         have hcz17_5 : w5.cell? ⟨gb132, 5, none⟩ = some (.int .i64 a0_5) := (blk_cell BK132.out 5).trans rfl
         have hcz17_6 : w5.cell? ⟨gb132, 6, none⟩ = some (.int .i64 a0_6) := (blk_cell BK132.out 6).trans rfl
         have hcz17_7 : w5.cell? ⟨gb132, 7, none⟩ = some (.string a0_7) := (blk_cell BK132.out 7).trans rfl
         have hcz17_8 : w5.cell? ⟨gb132, 8, none⟩ = some (.slice A0_8 l0_8.length c0_8) := (blk_cell BK132.out 8).trans rfl
         have hfz17_0 := blk_frozen BK132.out 0
         have hfz17_1 := blk_frozen BK132.out 1
         have hfz17_2 := blk_frozen BK132.out 2
         have hfz17_3 := blk_frozen BK132.out 3
         have hfz17_4 := blk_frozen BK132.out 4
         have hfz17_5 := blk_frozen BK132.out 5
         have hfz17_6 := blk_frozen BK132.out 6
         have hfz17_7 := blk_frozen BK132.out 7
         have hfz17_8 := blk_frozen BK132.out 8
         have hcz18_0 : w5.cell? ⟨gb133, 0, none⟩ = some (.int .i64 a1_0) := (blk_cell BK133.out 0).trans rfl
         have hcz18_1 : w5.cell? ⟨gb133, 1, none⟩ = some (.int .i64 a1_1) := (blk_cell BK133.out 1).trans rfl
         have hcz18_2 : w5.cell? ⟨gb133, 2, none⟩ = some (.int .i64 a1_2) := (blk_cell BK133.out 2).trans rfl
         have hcz18_3 : w5.cell? ⟨gb133, 3, none⟩ = some (.int .i64 a1_3) := (blk_cell BK133.out 3).trans rfl
         have hcz18_4 : w5.cell? ⟨gb133, 4, none⟩ = some (.string a1_4) := (blk_cell BK133.out 4).trans rfl
         have hcz18_5 : w5.cell? ⟨gb133, 5, none⟩ = some (.int .i64 a1_5) := (blk_cell BK133.out 5).trans rfl
         have hcz18_6 : w5.cell? ⟨gb133, 6, none⟩ = some (.int .i64 a1_6) := (blk_cell BK133.out 6).trans rfl
         have hcz18_7 : w5.cell? ⟨gb133, 7, none⟩ = some (.string a1_7) := (blk_cell BK133.out 7).trans rfl
         have hcz18_8 : w5.cell? ⟨gb133, 8, none⟩ = some (.slice A1_8 l1_8.length c1_8) := (blk_cell BK133.out 8).trans rfl
         have hfz18_0 := blk_frozen BK133.out 0
         have hfz18_1 := blk_frozen BK133.out 1
         have hfz18_2 := blk_frozen BK133.out 2
         have hfz18_3 := blk_frozen BK133.out 3
         have hfz18_4 := blk_frozen BK133.out 4
         have hfz18_5 := blk_frozen BK133.out 5
         have hfz18_6 := blk_frozen BK133.out 6
         have hfz18_7 := blk_frozen BK133.out 7
         have hfz18_8 := blk_frozen BK133.out 8
         go_wp2
         repeat (go_quiet (fail); try go_wp2)
         go_meet
         case rel => exact ⟨_, (((l0_8.length : Int) != (l1_8.length : Int))), (by first | rfl | (simp; done) | (simp [*]; done)), H', ⟨by first | omega | exact Nat.le_refl _⟩, ⟨kz BK132⟩, ⟨kz BK133⟩, ⟨hz HB⟩⟩
        ·rw [if_neg c15] at H
         have c15b0 : (a0_7.toList == a1_7.toList) = false := beq_eq_false_iff_ne.mpr c15
         have c15b1 : (a0_7.toList != a1_7.toList) = true := bne_iff_ne.mpr c15
         have H' := Aside0.mk H
         clear H
         have hnb19 := NB132_133.out
         have hnc19 := NB133_132.out
         have hcz20_0 : w5.cell? ⟨gb132, 0, none⟩ = some (.int .i64 a0_0) := (blk_cell BK132.out 0).trans rfl
         have hcz20_1 : w5.cell? ⟨gb132, 1, none⟩ = some (.int .i64 a0_1) := (blk_cell BK132.out 1).trans rfl
         have hcz20_2 : w5.cell? ⟨gb132, 2, none⟩ = some (.int .i64 a0_2) := (blk_cell BK132.out 2).trans rfl
         have hcz20_3 : w5.cell? ⟨gb132, 3, none⟩ = some (.int .i64 a0_3) := (blk_cell BK132.out 3).trans rfl
         have hcz20_4 : w5.cell? ⟨gb132, 4, none⟩ = some (.string a0_4) := (blk_cell BK132.out 4).trans rfl
         have hcz20_5 : w5.cell? ⟨gb132, 5, none⟩ = some (.int .i64 a0_5) := (blk_cell BK132.out 5).trans rfl
         have hcz20_6 : w5.cell? ⟨gb132, 6, none⟩ = some (.int .i64 a0_6) := (blk_cell BK132.out 6).trans rfl
         have hcz20_7 : w5.cell? ⟨gb132, 7, none⟩ = some (.string a0_7) := (blk_cell BK132.out 7).trans rfl
         have hcz20_8 : w5.cell? ⟨gb132, 8, none⟩ = some (.slice A0_8 l0_8.length c0_8) := (blk_cell BK132.out 8).trans rfl
         have hfz20_0 := blk_frozen BK132.out 0
         have hfz20_1 := blk_frozen BK132.out 1
         have hfz20_2 := blk_frozen BK132.out 2
         have hfz20_3 := blk_frozen BK132.out 3
         have hfz20_4 := blk_frozen BK132.out 4
         have hfz20_5 := blk_frozen BK132.out 5
         have hfz20_6 := blk_frozen BK132.out 6
         have hfz20_7 := blk_frozen BK132.out 7
         have hfz20_8 := blk_frozen BK132.out 8
         have hcz21_0 : w5.cell? ⟨gb133, 0, none⟩ = some (.int .i64 a1_0) := (blk_cell BK133.out 0).trans rfl
         have hcz21_1 : w5.cell? ⟨gb133, 1, none⟩ = some (.int .i64 a1_1) := (blk_cell BK133.out 1).trans rfl
         have hcz21_2 : w5.cell? ⟨gb133, 2, none⟩ = some (.int .i64 a1_2) := (blk_cell BK133.out 2).trans rfl
         have hcz21_3 : w5.cell? ⟨gb133, 3, none⟩ = some (.int .i64 a1_3) := (blk_cell BK133.out 3).trans rfl
         have hcz21_4 : w5.cell? ⟨gb133, 4, none⟩ = some (.string a1_4) := (blk_cell BK133.out 4).trans rfl
         have hcz21_5 : w5.cell? ⟨gb133, 5, none⟩ = some (.int .i64 a1_5) := (blk_cell BK133.out 5).trans rfl
         have hcz21_6 : w5.cell? ⟨gb133, 6, none⟩ = some (.int .i64 a1_6) := (blk_cell BK133.out 6).trans rfl
         have hcz21_7 : w5.cell? ⟨gb133, 7, none⟩ = some (.string a1_7) := (blk_cell BK133.out 7).trans rfl
         have hcz21_8 : w5.cell? ⟨gb133, 8, none⟩ = some (.slice A1_8 l1_8.length c1_8) := (blk_cell BK133.out 8).trans rfl
         have hfz21_0 := blk_frozen BK133.out 0
         have hfz21_1 := blk_frozen BK133.out 1
         have hfz21_2 := blk_frozen BK133.out 2
         have hfz21_3 := blk_frozen BK133.out 3
         have hfz21_4 := blk_frozen BK133.out 4
         have hfz21_5 := blk_frozen BK133.out 5
         have hfz21_6 := blk_frozen BK133.out 6
         have hfz21_7 := blk_frozen BK133.out 7
         have hfz21_8 := blk_frozen BK133.out 8
         go_wp2
         repeat (go_quiet (fail); try go_wp2)
         go_meet
         case rel => exact ⟨_, (true), (by first | rfl | (simp; done) | (simp [*]; done)), H', ⟨by first | omega | exact Nat.le_refl _⟩, ⟨kz BK132⟩, ⟨kz BK133⟩, ⟨hz HB⟩⟩
      ·rw [if_neg c10] at H
       have c10b0 : (a0_4.toList == a1_4.toList) = false := beq_eq_false_iff_ne.mpr c10
       have c10b1 : (a0_4.toList != a1_4.toList) = true := bne_iff_ne.mpr c10
       have H' := Aside0.mk H
       clear H
       have hnb22 := NB132_133.out
       have hnc22 := NB133_132.out
       have hcz23_0 : w5.cell? ⟨gb132, 0, none⟩ = some (.int .i64 a0_0) := (blk_cell BK132.out 0).trans rfl
       have hcz23_1 : w5.cell? ⟨gb132, 1, none⟩ = some (.int .i64 a0_1) := (blk_cell BK132.out 1).trans rfl
       have hcz23_2 : w5.cell? ⟨gb132, 2, none⟩ = some (.int .i64 a0_2) := (blk_cell BK132.out 2).trans rfl
       have hcz23_3 : w5.cell? ⟨gb132, 3, none⟩ = some (.int .i64 a0_3) := (blk_cell BK132.out 3).trans rfl
       have hcz23_4 : w5.cell? ⟨gb132, 4, none⟩ = some (.string a0_4) := (blk_cell BK132.out 4).trans rfl
       have hcz23_5 : w5.cell? ⟨gb132, 5, none⟩ = some (.int .i64 a0_5) := (blk_cell BK132.out 5).trans rfl
       have hcz23_6 : w5.cell? ⟨gb132, 6, none⟩ = some (.int .i64 a0_6) := (blk_cell BK132.out 6).trans rfl
       have hcz23_7 : w5.cell? ⟨gb132, 7, none⟩ = some (.string a0_7) := (blk_cell BK132.out 7).trans rfl
       have hcz23_8 : w5.cell? ⟨gb132, 8, none⟩ = some (.slice A0_8 l0_8.length c0_8) := (blk_cell BK132.out 8).trans rfl
       have hfz23_0 := blk_frozen BK132.out 0
       have hfz23_1 := blk_frozen BK132.out 1
       have hfz23_2 := blk_frozen BK132.out 2
       have hfz23_3 := blk_frozen BK132.out 3
       have hfz23_4 := blk_frozen BK132.out 4
       have hfz23_5 := blk_frozen BK132.out 5
       have hfz23_6 := blk_frozen BK132.out 6
       have hfz23_7 := blk_frozen BK132.out 7
       have hfz23_8 := blk_frozen BK132.out 8
       have hcz24_0 : w5.cell? ⟨gb133, 0, none⟩ = some (.int .i64 a1_0) := (blk_cell BK133.out 0).trans rfl
       have hcz24_1 : w5.cell? ⟨gb133, 1, none⟩ = some (.int .i64 a1_1) := (blk_cell BK133.out 1).trans rfl
       have hcz24_2 : w5.cell? ⟨gb133, 2, none⟩ = some (.int .i64 a1_2) := (blk_cell BK133.out 2).trans rfl
       have hcz24_3 : w5.cell? ⟨gb133, 3, none⟩ = some (.int .i64 a1_3) := (blk_cell BK133.out 3).trans rfl
       have hcz24_4 : w5.cell? ⟨gb133, 4, none⟩ = some (.string a1_4) := (blk_cell BK133.out 4).trans rfl
       have hcz24_5 : w5.cell? ⟨gb133, 5, none⟩ = some (.int .i64 a1_5) := (blk_cell BK133.out 5).trans rfl
       have hcz24_6 : w5.cell? ⟨gb133, 6, none⟩ = some (.int .i64 a1_6) := (blk_cell BK133.out 6).trans rfl
       have hcz24_7 : w5.cell? ⟨gb133, 7, none⟩ = some (.string a1_7) := (blk_cell BK133.out 7).trans rfl
       have hcz24_8 : w5.cell? ⟨gb133, 8, none⟩ = some (.slice A1_8 l1_8.length c1_8) := (blk_cell BK133.out 8).trans rfl
       have hfz24_0 := blk_frozen BK133.out 0
       have hfz24_1 := blk_frozen BK133.out 1
       have hfz24_2 := blk_frozen BK133.out 2
       have hfz24_3 := blk_frozen BK133.out 3
       have hfz24_4 := blk_frozen BK133.out 4
       have hfz24_5 := blk_frozen BK133.out 5
       have hfz24_6 := blk_frozen BK133.out 6
       have hfz24_7 := blk_frozen BK133.out 7
       have hfz24_8 := blk_frozen BK133.out 8
       go_wp2
       repeat (go_quiet (fail); try go_wp2)
       go_meet
       case rel => exact ⟨_, (true), (by first | rfl | (simp; done) | (simp [*]; done)), H', ⟨by first | omega | exact Nat.le_refl _⟩, ⟨kz BK132⟩, ⟨kz BK133⟩, ⟨hz HB⟩⟩
     ·rw [if_neg c9] at H
      have c9b0 : (a0_3 == a1_3) = false := beq_eq_false_iff_ne.mpr c9
      have c9b1 : (a0_3 != a1_3) = true := bne_iff_ne.mpr c9
      have H' := Aside0.mk H
      clear H
      have hnb25 := NB132_133.out
      have hnc25 := NB133_132.out
      have hcz26_0 : w5.cell? ⟨gb132, 0, none⟩ = some (.int .i64 a0_0) := (blk_cell BK132.out 0).trans rfl
      have hcz26_1 : w5.cell? ⟨gb132, 1, none⟩ = some (.int .i64 a0_1) := (blk_cell BK132.out 1).trans rfl
      have hcz26_2 : w5.cell? ⟨gb132, 2, none⟩ = some (.int .i64 a0_2) := (blk_cell BK132.out 2).trans rfl
      have hcz26_3 : w5.cell? ⟨gb132, 3, none⟩ = some (.int .i64 a0_3) := (blk_cell BK132.out 3).trans rfl
      have hcz26_4 : w5.cell? ⟨gb132, 4, none⟩ = some (.string a0_4) := (blk_cell BK132.out 4).trans rfl
      have hcz26_5 : w5.cell? ⟨gb132, 5, none⟩ = some (.int .i64 a0_5) := (blk_cell BK132.out 5).trans rfl
      have hcz26_6 : w5.cell? ⟨gb132, 6, none⟩ = some (.int .i64 a0_6) := (blk_cell BK132.out 6).trans rfl
      have hcz26_7 : w5.cell? ⟨gb132, 7, none⟩ = some (.string a0_7) := (blk_cell BK132.out 7).trans rfl
      have hcz26_8 : w5.cell? ⟨gb132, 8, none⟩ = some (.slice A0_8 l0_8.length c0_8) := (blk_cell BK132.out 8).trans rfl
      have hfz26_0 := blk_frozen BK132.out 0
      have hfz26_1 := blk_frozen BK132.out 1
      have hfz26_2 := blk_frozen BK132.out 2
      have hfz26_3 := blk_frozen BK132.out 3
      have hfz26_4 := blk_frozen BK132.out 4
      have hfz26_5 := blk_frozen BK132.out 5
      have hfz26_6 := blk_frozen BK132.out 6
      have hfz26_7 := blk_frozen BK132.out 7
      have hfz26_8 := blk_frozen BK132.out 8
      have hcz27_0 : w5.cell? ⟨gb133, 0, none⟩ = some (.int .i64 a1_0) := (blk_cell BK133.out 0).trans rfl
      have hcz27_1 : w5.cell? ⟨gb133, 1, none⟩ = some (.int .i64 a1_1) := (blk_cell BK133.out 1).trans rfl
      have hcz27_2 : w5.cell? ⟨gb133, 2, none⟩ = some (.int .i64 a1_2) := (blk_cell BK133.out 2).trans rfl
      have hcz27_3 : w5.cell? ⟨gb133, 3, none⟩ = some (.int .i64 a1_3) := (blk_cell BK133.out 3).trans rfl
      have hcz27_4 : w5.cell? ⟨gb133, 4, none⟩ = some (.string a1_4) := (blk_cell BK133.out 4).trans rfl
      have hcz27_5 : w5.cell? ⟨gb133, 5, none⟩ = some (.int .i64 a1_5) := (blk_cell BK133.out 5).trans rfl
      have hcz27_6 : w5.cell? ⟨gb133, 6, none⟩ = some (.int .i64 a1_6) := (blk_cell BK133.out 6).trans rfl
      have hcz27_7 : w5.cell? ⟨gb133, 7, none⟩ = some (.string a1_7) := (blk_cell BK133.out 7).trans rfl
      have hcz27_8 : w5.cell? ⟨gb133, 8, none⟩ = some (.slice A1_8 l1_8.length c1_8) := (blk_cell BK133.out 8).trans rfl
      have hfz27_0 := blk_frozen BK133.out 0
      have hfz27_1 := blk_frozen BK133.out 1
      have hfz27_2 := blk_frozen BK133.out 2
      have hfz27_3 := blk_frozen BK133.out 3
      have hfz27_4 := blk_frozen BK133.out 4
      have hfz27_5 := blk_frozen BK133.out 5
      have hfz27_6 := blk_frozen BK133.out 6
      have hfz27_7 := blk_frozen BK133.out 7
      have hfz27_8 := blk_frozen BK133.out 8
      go_wp2
      repeat (go_quiet (fail); try go_wp2)
      go_meet
      case rel => exact ⟨_, (true), (by first | rfl | (simp; done) | (simp [*]; done)), H', ⟨by first | omega | exact Nat.le_refl _⟩, ⟨kz BK132⟩, ⟨kz BK133⟩, ⟨hz HB⟩⟩
    ·rw [if_neg c8] at H
     have c8b0 : (a0_2 == a1_2) = false := beq_eq_false_iff_ne.mpr c8
     have c8b1 : (a0_2 != a1_2) = true := bne_iff_ne.mpr c8
     have H' := Aside0.mk H
     clear H
     have hnb28 := NB132_133.out
     have hnc28 := NB133_132.out
     have hcz29_0 : w5.cell? ⟨gb132, 0, none⟩ = some (.int .i64 a0_0) := (blk_cell BK132.out 0).trans rfl
     have hcz29_1 : w5.cell? ⟨gb132, 1, none⟩ = some (.int .i64 a0_1) := (blk_cell BK132.out 1).trans rfl
     have hcz29_2 : w5.cell? ⟨gb132, 2, none⟩ = some (.int .i64 a0_2) := (blk_cell BK132.out 2).trans rfl
     have hcz29_3 : w5.cell? ⟨gb132, 3, none⟩ = some (.int .i64 a0_3) := (blk_cell BK132.out 3).trans rfl
     have hcz29_4 : w5.cell? ⟨gb132, 4, none⟩ = some (.string a0_4) := (blk_cell BK132.out 4).trans rfl
     have hcz29_5 : w5.cell? ⟨gb132, 5, none⟩ = some (.int .i64 a0_5) := (blk_cell BK132.out 5).trans rfl
     have hcz29_6 : w5.cell? ⟨gb132, 6, none⟩ = some (.int .i64 a0_6) := (blk_cell BK132.out 6).trans rfl
     have hcz29_7 : w5.cell? ⟨gb132, 7, none⟩ = some (.string a0_7) := (blk_cell BK132.out 7).trans rfl
     have hcz29_8 : w5.cell? ⟨gb132, 8, none⟩ = some (.slice A0_8 l0_8.length c0_8) := (blk_cell BK132.out 8).trans rfl
     have hfz29_0 := blk_frozen BK132.out 0
     have hfz29_1 := blk_frozen BK132.out 1
     have hfz29_2 := blk_frozen BK132.out 2
     have hfz29_3 := blk_frozen BK132.out 3
     have hfz29_4 := blk_frozen BK132.out 4
     have hfz29_5 := blk_frozen BK132.out 5
     have hfz29_6 := blk_frozen BK132.out 6
     have hfz29_7 := blk_frozen BK132.out 7
     have hfz29_8 := blk_frozen BK132.out 8
     have hcz30_0 : w5.cell? ⟨gb133, 0, none⟩ = some (.int .i64 a1_0) := (blk_cell BK133.out 0).trans rfl
     have hcz30_1 : w5.cell? ⟨gb133, 1, none⟩ = some (.int .i64 a1_1) := (blk_cell BK133.out 1).trans rfl
     have hcz30_2 : w5.cell? ⟨gb133, 2, none⟩ = some (.int .i64 a1_2) := (blk_cell BK133.out 2).trans rfl
     have hcz30_3 : w5.cell? ⟨gb133, 3, none⟩ = some (.int .i64 a1_3) := (blk_cell BK133.out 3).trans rfl
     have hcz30_4 : w5.cell? ⟨gb133, 4, none⟩ = some (.string a1_4) := (blk_cell BK133.out 4).trans rfl
     have hcz30_5 : w5.cell? ⟨gb133, 5, none⟩ = some (.int .i64 a1_5) := (blk_cell BK133.out 5).trans rfl
     have hcz30_6 : w5.cell? ⟨gb133, 6, none⟩ = some (.int .i64 a1_6) := (blk_cell BK133.out 6).trans rfl
     have hcz30_7 : w5.cell? ⟨gb133, 7, none⟩ = some (.string a1_7) := (blk_cell BK133.out 7).trans rfl
     have hcz30_8 : w5.cell? ⟨gb133, 8, none⟩ = some (.slice A1_8 l1_8.length c1_8) := (blk_cell BK133.out 8).trans rfl
     have hfz30_0 := blk_frozen BK133.out 0
     have hfz30_1 := blk_frozen BK133.out 1
     have hfz30_2 := blk_frozen BK133.out 2
     have hfz30_3 := blk_frozen BK133.out 3
     have hfz30_4 := blk_frozen BK133.out 4
     have hfz30_5 := blk_frozen BK133.out 5
     have hfz30_6 := blk_frozen BK133.out 6
     have hfz30_7 := blk_frozen BK133.out 7
     have hfz30_8 := blk_frozen BK133.out 8
     go_wp2
     repeat (go_quiet (fail); try go_wp2)
     go_meet
     case rel => exact ⟨_, (true), (by first | rfl | (simp; done) | (simp [*]; done)), H', ⟨by first | omega | exact Nat.le_refl _⟩, ⟨kz BK132⟩, ⟨kz BK133⟩, ⟨hz HB⟩⟩
   ·rw [if_neg c7] at H
    have c7b0 : (a0_1 == a1_1) = false := beq_eq_false_iff_ne.mpr c7
    have c7b1 : (a0_1 != a1_1) = true := bne_iff_ne.mpr c7
    have H' := Aside0.mk H
    clear H
    have hnb31 := NB132_133.out
    have hnc31 := NB133_132.out
    have hcz32_0 : w5.cell? ⟨gb132, 0, none⟩ = some (.int .i64 a0_0) := (blk_cell BK132.out 0).trans rfl
    have hcz32_1 : w5.cell? ⟨gb132, 1, none⟩ = some (.int .i64 a0_1) := (blk_cell BK132.out 1).trans rfl
    have hcz32_2 : w5.cell? ⟨gb132, 2, none⟩ = some (.int .i64 a0_2) := (blk_cell BK132.out 2).trans rfl
    have hcz32_3 : w5.cell? ⟨gb132, 3, none⟩ = some (.int .i64 a0_3) := (blk_cell BK132.out 3).trans rfl
    have hcz32_4 : w5.cell? ⟨gb132, 4, none⟩ = some (.string a0_4) := (blk_cell BK132.out 4).trans rfl
    have hcz32_5 : w5.cell? ⟨gb132, 5, none⟩ = some (.int .i64 a0_5) := (blk_cell BK132.out 5).trans rfl
    have hcz32_6 : w5.cell? ⟨gb132, 6, none⟩ = some (.int .i64 a0_6) := (blk_cell BK132.out 6).trans rfl
    have hcz32_7 : w5.cell? ⟨gb132, 7, none⟩ = some (.string a0_7) := (blk_cell BK132.out 7).trans rfl
    have hcz32_8 : w5.cell? ⟨gb132, 8, none⟩ = some (.slice A0_8 l0_8.length c0_8) := (blk_cell BK132.out 8).trans rfl
    have hfz32_0 := blk_frozen BK132.out 0
    have hfz32_1 := blk_frozen BK132.out 1
    have hfz32_2 := blk_frozen BK132.out 2
    have hfz32_3 := blk_frozen BK132.out 3
    have hfz32_4 := blk_frozen BK132.out 4
    have hfz32_5 := blk_frozen BK132.out 5
    have hfz32_6 := blk_frozen BK132.out 6
    have hfz32_7 := blk_frozen BK132.out 7
    have hfz32_8 := blk_frozen BK132.out 8
    have hcz33_0 : w5.cell? ⟨gb133, 0, none⟩ = some (.int .i64 a1_0) := (blk_cell BK133.out 0).trans rfl
    have hcz33_1 : w5.cell? ⟨gb133, 1, none⟩ = some (.int .i64 a1_1) := (blk_cell BK133.out 1).trans rfl
    have hcz33_2 : w5.cell? ⟨gb133, 2, none⟩ = some (.int .i64 a1_2) := (blk_cell BK133.out 2).trans rfl
    have hcz33_3 : w5.cell? ⟨gb133, 3, none⟩ = some (.int .i64 a1_3) := (blk_cell BK133.out 3).trans rfl
    have hcz33_4 : w5.cell? ⟨gb133, 4, none⟩ = some (.string a1_4) := (blk_cell BK133.out 4).trans rfl
    have hcz33_5 : w5.cell? ⟨gb133, 5, none⟩ = some (.int .i64 a1_5) := (blk_cell BK133.out 5).trans rfl
    have hcz33_6 : w5.cell? ⟨gb133, 6, none⟩ = some (.int .i64 a1_6) := (blk_cell BK133.out 6).trans rfl
    have hcz33_7 : w5.cell? ⟨gb133, 7, none⟩ = some (.string a1_7) := (blk_cell BK133.out 7).trans rfl
    have hcz33_8 : w5.cell? ⟨gb133, 8, none⟩ = some (.slice A1_8 l1_8.length c1_8) := (blk_cell BK133.out 8).trans rfl
    have hfz33_0 := blk_frozen BK133.out 0
    have hfz33_1 := blk_frozen BK133.out 1
    have hfz33_2 := blk_frozen BK133.out 2
    have hfz33_3 := blk_frozen BK133.out 3
    have hfz33_4 := blk_frozen BK133.out 4
    have hfz33_5 := blk_frozen BK133.out 5
    have hfz33_6 := blk_frozen BK133.out 6
    have hfz33_7 := blk_frozen BK133.out 7
    have hfz33_8 := blk_frozen BK133.out 8
    go_wp2
    repeat (go_quiet (fail); try go_wp2)
    go_meet
    case rel => exact ⟨_, (true), (by first | rfl | (simp; done) | (simp [*]; done)), H', ⟨by first | omega | exact Nat.le_refl _⟩, ⟨kz BK132⟩, ⟨kz BK133⟩, ⟨hz HB⟩⟩
  ·rw [if_neg c6] at H
   have c6b0 : (a0_0 == a1_0) = false := beq_eq_false_iff_ne.mpr c6
   have c6b1 : (a0_0 != a1_0) = true := bne_iff_ne.mpr c6
   (first | rw [c6b0] | (simp only [i64_w, i32_w]; rw [c6b0]) | skip)
   have H' := Aside0.mk H
   clear H
   have hnb34 := NB132_133.out
   have hnc34 := NB133_132.out
   have hcz35_0 : w5.cell? ⟨gb132, 0, none⟩ = some (.int .i64 a0_0) := (blk_cell BK132.out 0).trans rfl
   have hcz35_1 : w5.cell? ⟨gb132, 1, none⟩ = some (.int .i64 a0_1) := (blk_cell BK132.out 1).trans rfl
   have hcz35_2 : w5.cell? ⟨gb132, 2, none⟩ = some (.int .i64 a0_2) := (blk_cell BK132.out 2).trans rfl
   have hcz35_3 : w5.cell? ⟨gb132, 3, none⟩ = some (.int .i64 a0_3) := (blk_cell BK132.out 3).trans rfl
   have hcz35_4 : w5.cell? ⟨gb132, 4, none⟩ = some (.string a0_4) := (blk_cell BK132.out 4).trans rfl
   have hcz35_5 : w5.cell? ⟨gb132, 5, none⟩ = some (.int .i64 a0_5) := (blk_cell BK132.out 5).trans rfl
   have hcz35_6 : w5.cell? ⟨gb132, 6, none⟩ = some (.int .i64 a0_6) := (blk_cell BK132.out 6).trans rfl
   have hcz35_7 : w5.cell? ⟨gb132, 7, none⟩ = some (.string a0_7) := (blk_cell BK132.out 7).trans rfl
   have hcz35_8 : w5.cell? ⟨gb132, 8, none⟩ = some (.slice A0_8 l0_8.length c0_8) := (blk_cell BK132.out 8).trans rfl
   have hfz35_0 := blk_frozen BK132.out 0
   have hfz35_1 := blk_frozen BK132.out 1
   have hfz35_2 := blk_frozen BK132.out 2
   have hfz35_3 := blk_frozen BK132.out 3
   have hfz35_4 := blk_frozen BK132.out 4
   have hfz35_5 := blk_frozen BK132.out 5
   have hfz35_6 := blk_frozen BK132.out 6
   have hfz35_7 := blk_frozen BK132.out 7
   have hfz35_8 := blk_frozen BK132.out 8
   have hcz36_0 : w5.cell? ⟨gb133, 0, none⟩ = some (.int .i64 a1_0) := (blk_cell BK133.out 0).trans rfl
   have hcz36_1 : w5.cell? ⟨gb133, 1, none⟩ = some (.int .i64 a1_1) := (blk_cell BK133.out 1).trans rfl
   have hcz36_2 : w5.cell? ⟨gb133, 2, none⟩ = some (.int .i64 a1_2) := (blk_cell BK133.out 2).trans rfl
   have hcz36_3 : w5.cell? ⟨gb133, 3, none⟩ = some (.int .i64 a1_3) := (blk_cell BK133.out 3).trans rfl
   have hcz36_4 : w5.cell? ⟨gb133, 4, none⟩ = some (.string a1_4) := (blk_cell BK133.out 4).trans rfl
   have hcz36_5 : w5.cell? ⟨gb133, 5, none⟩ = some (.int .i64 a1_5) := (blk_cell BK133.out 5).trans rfl
   have hcz36_6 : w5.cell? ⟨gb133, 6, none⟩ = some (.int .i64 a1_6) := (blk_cell BK133.out 6).trans rfl
   have hcz36_7 : w5.cell? ⟨gb133, 7, none⟩ = some (.string a1_7) := (blk_cell BK133.out 7).trans rfl
   have hcz36_8 : w5.cell? ⟨gb133, 8, none⟩ = some (.slice A1_8 l1_8.length c1_8) := (blk_cell BK133.out 8).trans rfl
   have hfz36_0 := blk_frozen BK133.out 0
   have hfz36_1 := blk_frozen BK133.out 1
   have hfz36_2 := blk_frozen BK133.out 2
   have hfz36_3 := blk_frozen BK133.out 3
   have hfz36_4 := blk_frozen BK133.out 4
   have hfz36_5 := blk_frozen BK133.out 5
   have hfz36_6 := blk_frozen BK133.out 6
   have hfz36_7 := blk_frozen BK133.out 7
   have hfz36_8 := blk_frozen BK133.out 8
   go_wp2
   repeat (go_quiet (fail); try go_wp2)
   go_meet
   case rel => exact ⟨_, (true), (by first | rfl | (simp; done) | (simp [*]; done)), H', ⟨by first | omega | exact Nat.le_refl _⟩, ⟨kz BK132⟩, ⟨kz BK133⟩, ⟨hz HB⟩⟩
 case rest =>
  clear HC3
  obtain ⟨kq, x61_2, rfl, HA, HJ2, BK132, BK133, HB⟩ := hcut
  cases kq with
  | zero => exact absurd HA.out (by simp [vitrineref20_Same.j0])
  | succ kj2 =>
   have H := HA.out
   clear HA
   simp only [vitrineref20_Same.j0] at H
   by_cases c37 : x61_2 = true
   ·subst c37
    have H1 : (some false) = some r := by rw [if_pos rfl] at H; exact H
    clear H
    have H := H1
    clear H1
    obtain rfl := Option.some.inj H
    go_wp2
    repeat (go_quiet (fail); try go_wp2)
    go_ret
    exact ⟨by first | rfl | (simp [errW_none, errW_some] <;> rfl) | (simp [*, errW_none, errW_some] <;> rfl), by repeat (first | (with_reducible first | exact HB.out | apply below_alloc | apply pw_below_drewN | apply below_drew1 | refine below_set ?_ GE132.out | refine below_set ?_ GE133.out) | exact HB.out)⟩
   ·replace c37 := Bool.eq_false_iff.mpr c37
    subst c37
    have H1 : (vitrineref20_Same.l0 kj2 0 a0_0 a0_1 a0_2 a0_3 a0_4 a0_5 a0_6 a0_7 l0_8 a1_0 a1_1 a1_2 a1_3 a1_4 a1_5 a1_6 a1_7 l1_8) = some r := by rw [if_neg (show ¬ (false = true) by decide)] at H; exact H
    clear H
    have H := H1
    clear H1
    have H' := Aside0.mk H
    clear H
    go_wp2
    repeat (go_quiet (fail); try go_wp2)
    go_loopg [5] kj2 (fun kq v5 w' => ∃ (x5_2 : Int), v5 = .int .i64 x5_2 ∧ Aside0 (vitrineref20_Same.l0 kq x5_2 a0_0 a0_1 a0_2 a0_3 a0_4 a0_5 a0_6 a0_7 l0_8 a1_0 a1_1 a1_2 a1_3 a1_4 a1_5 a1_6 a1_7 l1_8 = some r) ∧ Aside0 (kq ≤ kj2) ∧ Aside0 (w'.heap[gb132]? = some (.cells #[.int .i64 a0_0, .int .i64 a0_1, .int .i64 a0_2, .int .i64 a0_3, .string a0_4, .int .i64 a0_5, .int .i64 a0_6, .string a0_7, (.slice A0_8 l0_8.length c0_8)] 26 (0, 0))) ∧ Aside0 (w'.heap[gb133]? = some (.cells #[.int .i64 a1_0, .int .i64 a1_1, .int .i64 a1_2, .int .i64 a1_3, .string a1_4, .int .i64 a1_5, .int .i64 a1_6, .string a1_7, (.slice A1_8 l1_8.length c1_8)] 26 (0, 0))) ∧ Aside0 (Below w.heap.size w w'))
    case atStart => exact ⟨(0), (by first | rfl | (simp; done) | (simp [*]; done)), H', ⟨Nat.le_refl _⟩, ⟨kz BK132⟩, ⟨kz BK133⟩, ⟨hz HB⟩⟩
    case round =>
     clear H'
     try clear c37
     obtain ⟨x5_2, rfl, HA, HK2, BK132, BK133, HB⟩ := hrel
     cases gk with
     | zero => exact absurd HA.out (by simp [vitrineref20_Same.l0])
     | succ k2 =>
      have H := HA.out
      clear HA
      simp only [vitrineref20_Same.l0] at H
      by_cases c38 : x5_2 < (l0_8.length : Int)
      ·rw [if_pos c38] at H
       have c38b0 : decide (x5_2 < (l0_8.length : Int)) = true := decide_eq_true c38
       clear c38
       by_cases c39 : 0 ≤ x5_2
       ·rw [if_pos c39] at H
        have c39b0 : decide (0 ≤ x5_2) = true := decide_eq_true c39
        clear c39
        by_cases c40 : x5_2 < (l1_8.length : Int)
        ·rw [if_pos c40] at H
         have c40b0 : decide (x5_2 < (l1_8.length : Int)) = true := decide_eq_true c40
         clear c40
         by_cases c41 : (rdOf ByteArray.empty l0_8 x5_2).toList = (rdOf ByteArray.empty l1_8 x5_2).toList
         ·rw [if_pos c41] at H
          have c41b0 : ((rdOf ByteArray.empty l0_8 x5_2).toList == (rdOf ByteArray.empty l1_8 x5_2).toList) = true := beq_iff_eq.mpr c41
          have c41b1 : ((rdOf ByteArray.empty l0_8 x5_2).toList != (rdOf ByteArray.empty l1_8 x5_2).toList) = false := bne_eq_false_iff_eq.mpr c41
          clear c41
          have H' := Aside0.mk H
          clear H
          have hnb42 := NB132_133.out
          have hnc42 := NB133_132.out
          have hcz43_0 : wr.cell? ⟨gb132, 0, none⟩ = some (.int .i64 a0_0) := (blk_cell BK132.out 0).trans rfl
          have hcz43_1 : wr.cell? ⟨gb132, 1, none⟩ = some (.int .i64 a0_1) := (blk_cell BK132.out 1).trans rfl
          have hcz43_2 : wr.cell? ⟨gb132, 2, none⟩ = some (.int .i64 a0_2) := (blk_cell BK132.out 2).trans rfl
          have hcz43_3 : wr.cell? ⟨gb132, 3, none⟩ = some (.int .i64 a0_3) := (blk_cell BK132.out 3).trans rfl
          have hcz43_4 : wr.cell? ⟨gb132, 4, none⟩ = some (.string a0_4) := (blk_cell BK132.out 4).trans rfl
          have hcz43_5 : wr.cell? ⟨gb132, 5, none⟩ = some (.int .i64 a0_5) := (blk_cell BK132.out 5).trans rfl
          have hcz43_6 : wr.cell? ⟨gb132, 6, none⟩ = some (.int .i64 a0_6) := (blk_cell BK132.out 6).trans rfl
          have hcz43_7 : wr.cell? ⟨gb132, 7, none⟩ = some (.string a0_7) := (blk_cell BK132.out 7).trans rfl
          have hcz43_8 : wr.cell? ⟨gb132, 8, none⟩ = some (.slice A0_8 l0_8.length c0_8) := (blk_cell BK132.out 8).trans rfl
          have hfz43_0 := blk_frozen BK132.out 0
          have hfz43_1 := blk_frozen BK132.out 1
          have hfz43_2 := blk_frozen BK132.out 2
          have hfz43_3 := blk_frozen BK132.out 3
          have hfz43_4 := blk_frozen BK132.out 4
          have hfz43_5 := blk_frozen BK132.out 5
          have hfz43_6 := blk_frozen BK132.out 6
          have hfz43_7 := blk_frozen BK132.out 7
          have hfz43_8 := blk_frozen BK132.out 8
          have p134 : 0 ≤ (x5_2 : Int) := of_decide_eq_true (by first | (with_reducible assumption) | assumption)
          have q134 : x5_2 < (l0_8.length : Int) := of_decide_eq_true (by first | (with_reducible assumption) | assumption)
          obtain ⟨ad134, e134, hx134_0⟩ := Kd.at_string HR0_8.out x5_2 p134 q134
          cases e134
          replace hx134_0 := (HB.out.cell (World.block_lt_of_cell? w _ hx134_0)).trans hx134_0
          replace p134 := eq_true p134
          replace q134 := eq_true q134
          have hcz44_0 : wr.cell? ⟨gb133, 0, none⟩ = some (.int .i64 a1_0) := (blk_cell BK133.out 0).trans rfl
          have hcz44_1 : wr.cell? ⟨gb133, 1, none⟩ = some (.int .i64 a1_1) := (blk_cell BK133.out 1).trans rfl
          have hcz44_2 : wr.cell? ⟨gb133, 2, none⟩ = some (.int .i64 a1_2) := (blk_cell BK133.out 2).trans rfl
          have hcz44_3 : wr.cell? ⟨gb133, 3, none⟩ = some (.int .i64 a1_3) := (blk_cell BK133.out 3).trans rfl
          have hcz44_4 : wr.cell? ⟨gb133, 4, none⟩ = some (.string a1_4) := (blk_cell BK133.out 4).trans rfl
          have hcz44_5 : wr.cell? ⟨gb133, 5, none⟩ = some (.int .i64 a1_5) := (blk_cell BK133.out 5).trans rfl
          have hcz44_6 : wr.cell? ⟨gb133, 6, none⟩ = some (.int .i64 a1_6) := (blk_cell BK133.out 6).trans rfl
          have hcz44_7 : wr.cell? ⟨gb133, 7, none⟩ = some (.string a1_7) := (blk_cell BK133.out 7).trans rfl
          have hcz44_8 : wr.cell? ⟨gb133, 8, none⟩ = some (.slice A1_8 l1_8.length c1_8) := (blk_cell BK133.out 8).trans rfl
          have hfz44_0 := blk_frozen BK133.out 0
          have hfz44_1 := blk_frozen BK133.out 1
          have hfz44_2 := blk_frozen BK133.out 2
          have hfz44_3 := blk_frozen BK133.out 3
          have hfz44_4 := blk_frozen BK133.out 4
          have hfz44_5 := blk_frozen BK133.out 5
          have hfz44_6 := blk_frozen BK133.out 6
          have hfz44_7 := blk_frozen BK133.out 7
          have hfz44_8 := blk_frozen BK133.out 8
          have p135 : 0 ≤ (x5_2 : Int) := of_decide_eq_true (by first | (with_reducible assumption) | assumption)
          have q135 : x5_2 < (l1_8.length : Int) := of_decide_eq_true (by first | (with_reducible assumption) | assumption)
          obtain ⟨ad135, e135, hx135_0⟩ := Kd.at_string HR1_8.out x5_2 p135 q135
          cases e135
          replace hx135_0 := (HB.out.cell (World.block_lt_of_cell? w _ hx135_0)).trans hx135_0
          replace p135 := eq_true p135
          replace q135 := eq_true q135
          go_wp2
          repeat (go_quiet (fail); try go_wp2)
          go_roundg k2
          case measure => have := HJ2.out; have := HK2.out; omega
          case rel => exact ⟨(wrap64 (x5_2 + 1)), (by first | rfl | (simp; done) | (simp [*]; done)), H', ⟨by have := HJ2.out; have := HK2.out; omega⟩, ⟨kz BK132⟩, ⟨kz BK133⟩, ⟨hz HB⟩⟩
         ·rw [if_neg c41] at H
          have c41b0 : ((rdOf ByteArray.empty l0_8 x5_2).toList == (rdOf ByteArray.empty l1_8 x5_2).toList) = false := beq_eq_false_iff_ne.mpr c41
          have c41b1 : ((rdOf ByteArray.empty l0_8 x5_2).toList != (rdOf ByteArray.empty l1_8 x5_2).toList) = true := bne_iff_ne.mpr c41
          obtain rfl := Option.some.inj H
          have hnb45 := NB132_133.out
          have hnc45 := NB133_132.out
          have hcz46_0 : wr.cell? ⟨gb132, 0, none⟩ = some (.int .i64 a0_0) := (blk_cell BK132.out 0).trans rfl
          have hcz46_1 : wr.cell? ⟨gb132, 1, none⟩ = some (.int .i64 a0_1) := (blk_cell BK132.out 1).trans rfl
          have hcz46_2 : wr.cell? ⟨gb132, 2, none⟩ = some (.int .i64 a0_2) := (blk_cell BK132.out 2).trans rfl
          have hcz46_3 : wr.cell? ⟨gb132, 3, none⟩ = some (.int .i64 a0_3) := (blk_cell BK132.out 3).trans rfl
          have hcz46_4 : wr.cell? ⟨gb132, 4, none⟩ = some (.string a0_4) := (blk_cell BK132.out 4).trans rfl
          have hcz46_5 : wr.cell? ⟨gb132, 5, none⟩ = some (.int .i64 a0_5) := (blk_cell BK132.out 5).trans rfl
          have hcz46_6 : wr.cell? ⟨gb132, 6, none⟩ = some (.int .i64 a0_6) := (blk_cell BK132.out 6).trans rfl
          have hcz46_7 : wr.cell? ⟨gb132, 7, none⟩ = some (.string a0_7) := (blk_cell BK132.out 7).trans rfl
          have hcz46_8 : wr.cell? ⟨gb132, 8, none⟩ = some (.slice A0_8 l0_8.length c0_8) := (blk_cell BK132.out 8).trans rfl
          have hfz46_0 := blk_frozen BK132.out 0
          have hfz46_1 := blk_frozen BK132.out 1
          have hfz46_2 := blk_frozen BK132.out 2
          have hfz46_3 := blk_frozen BK132.out 3
          have hfz46_4 := blk_frozen BK132.out 4
          have hfz46_5 := blk_frozen BK132.out 5
          have hfz46_6 := blk_frozen BK132.out 6
          have hfz46_7 := blk_frozen BK132.out 7
          have hfz46_8 := blk_frozen BK132.out 8
          have p134 : 0 ≤ (x5_2 : Int) := of_decide_eq_true (by first | (with_reducible assumption) | assumption)
          have q134 : x5_2 < (l0_8.length : Int) := of_decide_eq_true (by first | (with_reducible assumption) | assumption)
          obtain ⟨ad134, e134, hx134_0⟩ := Kd.at_string HR0_8.out x5_2 p134 q134
          cases e134
          replace hx134_0 := (HB.out.cell (World.block_lt_of_cell? w _ hx134_0)).trans hx134_0
          replace p134 := eq_true p134
          replace q134 := eq_true q134
          have hcz47_0 : wr.cell? ⟨gb133, 0, none⟩ = some (.int .i64 a1_0) := (blk_cell BK133.out 0).trans rfl
          have hcz47_1 : wr.cell? ⟨gb133, 1, none⟩ = some (.int .i64 a1_1) := (blk_cell BK133.out 1).trans rfl
          have hcz47_2 : wr.cell? ⟨gb133, 2, none⟩ = some (.int .i64 a1_2) := (blk_cell BK133.out 2).trans rfl
          have hcz47_3 : wr.cell? ⟨gb133, 3, none⟩ = some (.int .i64 a1_3) := (blk_cell BK133.out 3).trans rfl
          have hcz47_4 : wr.cell? ⟨gb133, 4, none⟩ = some (.string a1_4) := (blk_cell BK133.out 4).trans rfl
          have hcz47_5 : wr.cell? ⟨gb133, 5, none⟩ = some (.int .i64 a1_5) := (blk_cell BK133.out 5).trans rfl
          have hcz47_6 : wr.cell? ⟨gb133, 6, none⟩ = some (.int .i64 a1_6) := (blk_cell BK133.out 6).trans rfl
          have hcz47_7 : wr.cell? ⟨gb133, 7, none⟩ = some (.string a1_7) := (blk_cell BK133.out 7).trans rfl
          have hcz47_8 : wr.cell? ⟨gb133, 8, none⟩ = some (.slice A1_8 l1_8.length c1_8) := (blk_cell BK133.out 8).trans rfl
          have hfz47_0 := blk_frozen BK133.out 0
          have hfz47_1 := blk_frozen BK133.out 1
          have hfz47_2 := blk_frozen BK133.out 2
          have hfz47_3 := blk_frozen BK133.out 3
          have hfz47_4 := blk_frozen BK133.out 4
          have hfz47_5 := blk_frozen BK133.out 5
          have hfz47_6 := blk_frozen BK133.out 6
          have hfz47_7 := blk_frozen BK133.out 7
          have hfz47_8 := blk_frozen BK133.out 8
          have p135 : 0 ≤ (x5_2 : Int) := of_decide_eq_true (by first | (with_reducible assumption) | assumption)
          have q135 : x5_2 < (l1_8.length : Int) := of_decide_eq_true (by first | (with_reducible assumption) | assumption)
          obtain ⟨ad135, e135, hx135_0⟩ := Kd.at_string HR1_8.out x5_2 p135 q135
          cases e135
          replace hx135_0 := (HB.out.cell (World.block_lt_of_cell? w _ hx135_0)).trans hx135_0
          replace p135 := eq_true p135
          replace q135 := eq_true q135
          go_wp2
          repeat (go_quiet (fail); try go_wp2)
          go_ret
          exact ⟨by first | rfl | (simp [errW_none, errW_some] <;> rfl) | (simp [*, errW_none, errW_some] <;> rfl), by repeat (first | (with_reducible first | exact HB.out | apply below_alloc | apply pw_below_drewN | apply below_drew1 | refine below_set ?_ GE132.out | refine below_set ?_ GE133.out) | exact HB.out)⟩
        ·rw [if_neg c40] at H
         exact absurd H (by simp)
       ·rw [if_neg c39] at H
        exact absurd H (by simp)
      ·rw [if_neg c38] at H
       have c38b0 : decide (x5_2 < (l0_8.length : Int)) = false := decide_eq_false c38
       clear c38
       obtain rfl := Option.some.inj H
       have hnb48 := NB132_133.out
       have hnc48 := NB133_132.out
       have hcz49_0 : wr.cell? ⟨gb132, 0, none⟩ = some (.int .i64 a0_0) := (blk_cell BK132.out 0).trans rfl
       have hcz49_1 : wr.cell? ⟨gb132, 1, none⟩ = some (.int .i64 a0_1) := (blk_cell BK132.out 1).trans rfl
       have hcz49_2 : wr.cell? ⟨gb132, 2, none⟩ = some (.int .i64 a0_2) := (blk_cell BK132.out 2).trans rfl
       have hcz49_3 : wr.cell? ⟨gb132, 3, none⟩ = some (.int .i64 a0_3) := (blk_cell BK132.out 3).trans rfl
       have hcz49_4 : wr.cell? ⟨gb132, 4, none⟩ = some (.string a0_4) := (blk_cell BK132.out 4).trans rfl
       have hcz49_5 : wr.cell? ⟨gb132, 5, none⟩ = some (.int .i64 a0_5) := (blk_cell BK132.out 5).trans rfl
       have hcz49_6 : wr.cell? ⟨gb132, 6, none⟩ = some (.int .i64 a0_6) := (blk_cell BK132.out 6).trans rfl
       have hcz49_7 : wr.cell? ⟨gb132, 7, none⟩ = some (.string a0_7) := (blk_cell BK132.out 7).trans rfl
       have hcz49_8 : wr.cell? ⟨gb132, 8, none⟩ = some (.slice A0_8 l0_8.length c0_8) := (blk_cell BK132.out 8).trans rfl
       have hfz49_0 := blk_frozen BK132.out 0
       have hfz49_1 := blk_frozen BK132.out 1
       have hfz49_2 := blk_frozen BK132.out 2
       have hfz49_3 := blk_frozen BK132.out 3
       have hfz49_4 := blk_frozen BK132.out 4
       have hfz49_5 := blk_frozen BK132.out 5
       have hfz49_6 := blk_frozen BK132.out 6
       have hfz49_7 := blk_frozen BK132.out 7
       have hfz49_8 := blk_frozen BK132.out 8
       go_wp2
       repeat (go_quiet (fail); try go_wp2)
       go_ret
       exact ⟨by first | rfl | (simp [errW_none, errW_some] <;> rfl) | (simp [*, errW_none, errW_some] <;> rfl), by repeat (first | (with_reducible first | exact HB.out | apply below_alloc | apply pw_below_drewN | apply below_drew1 | refine below_set ?_ GE132.out | refine below_set ?_ GE133.out) | exact HB.out)⟩

end Go.Proofs.Ytdbiokmlgniobaa.PL22

namespace Go.Proofs.Ytdbiokmlgniobaa.PL22
open Go.RowKit Go.Proofs.YtdbiokmlgniobaaW.PrintWords Go.Proofs.YtdbiokmlgniobaaW.PrintLast Go.Proofs.YtdbiokmlgniobaaW.PrintMore
attribute [local go_sem] max2_int min2_int max_two min_two max_three min_three max_four min_four   -- for this text's walks alone
set_option linter.unusedVariables false
set_option linter.unusedSimpArgs false

def vitrinelaw22_same.l0 : Nat → List (S26) → List (S26) → Int → Option (Bool)
 | 0, _, _, _ => none
 | k + 1, x0, x1, x5 => if x5 < (x0.length : Int) then (if 0 ≤ x5 then (if x5 < (x1.length : Int) then ((vitrineref20_Same.f k ((rd_T26 x0 x5).f0) ((rd_T26 x0 x5).f1) ((rd_T26 x0 x5).f2) ((rd_T26 x0 x5).f3) ((rd_T26 x0 x5).f4) ((rd_T26 x0 x5).f5.f0) ((rd_T26 x0 x5).f5.f1) ((rd_T26 x0 x5).f6) ((rd_T26 x0 x5).f7) ((rd_T26 x1 x5).f0) ((rd_T26 x1 x5).f1) ((rd_T26 x1 x5).f2) ((rd_T26 x1 x5).f3) ((rd_T26 x1 x5).f4) ((rd_T26 x1 x5).f5.f0) ((rd_T26 x1 x5).f5.f1) ((rd_T26 x1 x5).f6) ((rd_T26 x1 x5).f7)).bind fun t138 => (if t138 = true then (vitrinelaw22_same.l0 k x0 x1 (wrap64 (x5 + 1))) else (some false))) else (none)) else (none)) else (some true)
def vitrinelaw22_same.f (k : Nat) (l0 : List (S26)) (l1 : List (S26)) : Option (Bool) := if (l0.length : Int) = (l1.length : Int) then (vitrinelaw22_same.l0 k l0 l1 0) else (some false)
def vitrinelaw22_same.T6 : Bool × List (List Nat × List Nat) := (true, [([], []), ([], []), ([0, 1], [0, 1]), ([2], [2]), ([], []), ([], []), ([4, 5], [4, 5]), ([6], [6]), ([3, 7], [3, 7]), ([8], [8])])
def vitrinelaw22_same.B6 : List Nat := [0, 0, 3, 7, 0, 0, 48, 112, 255, 511]
theorem vitrinelaw22_same.tab6 : rtab .any (opsOf Try.f15 6) = vitrinelaw22_same.T6 := by kernel_rfl
theorem vitrinelaw22_same.bits6 : waitsOk vitrinelaw22_same.T6.2 vitrinelaw22_same.B6 = true := by kernel_rfl
set_option maxHeartbeats 40000000 in
set_option maxRecDepth 100000 in
theorem vitrinelaw22_same.calls (k : Nat) (A0 : Option Addr) (c0 : Nat) (l0 : List (S26)) (A1 : Option Addr) (c1 : Nat) (l1 : List (S26)) (r : Bool) (w : World) (hr0 : Kd.C k26 w A0 l0.length l0) (hc0 : l0.length ≤ c0) (hr1 : Kd.C k26 w A1 l1.length l1) (hc1 : l1.length ≤ c1) (h : vitrinelaw22_same.f k l0 l1 = some r) :
  Calls Try.prog 15 #[.slice A0 l0.length c0, .slice A1 l1.length c1] w fun e w' => e = .returned (.bool r) ∧ Below w.heap.size w w' := by
 have hu26 := Try.underlying26
 have HR0 := Aside0.mk hr0
 have HC0 := Aside0.mk hc0
 clear hr0 hc0
 have HR1 := Aside0.mk hr1
 have HC1 := Aside0.mk hc1
 clear hr1 hc1
 have HB := Aside0.mk (Below.refl w.heap.size w)
 have H : (if (l0.length : Int) = (l1.length : Int) then (vitrinelaw22_same.l0 k l0 l1 0) else (some false)) = some r := h
 clear h
 by_cases c3 : (l0.length : Int) = (l1.length : Int)
 ·rw [if_pos c3] at H
  have c3b0 : ((l0.length : Int) == (l1.length : Int)) = true := beq_iff_eq.mpr c3
  have c3b1 : ((l0.length : Int) != (l1.length : Int)) = false := bne_eq_false_iff_eq.mpr c3
  have c3b2 : (l0.length == l1.length) = true := by first | simpa using c3 | (simp at c3 ⊢; omega)
  clear c3
  have H' := Aside0.mk H
  clear H
  go_enter Try.func15, Try.ntmps15
  go_wp2
  go_loopg [5] k (fun kq v5 w' => ∃ (x5_1 : Int), v5 = .int .i64 x5_1 ∧ Aside0 (vitrinelaw22_same.l0 kq l0 l1 x5_1 = some r) ∧ Aside0 (kq ≤ k) ∧ Aside0 (Below w.heap.size w w'))
  case atStart => exact ⟨(0), (by first | rfl | (simp; done) | (simp [*]; done)), H', ⟨Nat.le_refl _⟩, ⟨hz HB⟩⟩
  case round =>
   clear H'
   try clear c3
   try clear c3b0
   try clear c3b1
   try clear c3b2
   obtain ⟨x5_1, rfl, HA, HK1, HB⟩ := hrel
   cases gk with
   | zero => exact absurd HA.out (by simp [vitrinelaw22_same.l0])
   | succ k1 =>
    have H := HA.out
    clear HA
    simp only [vitrinelaw22_same.l0] at H
    by_cases c4 : x5_1 < (l0.length : Int)
    ·rw [if_pos c4] at H
     have c4b0 : decide (x5_1 < (l0.length : Int)) = true := decide_eq_true c4
     clear c4
     by_cases c5 : 0 ≤ x5_1
     ·rw [if_pos c5] at H
      have c5b0 : decide (0 ≤ x5_1) = true := decide_eq_true c5
      clear c5
      by_cases c6 : x5_1 < (l1.length : Int)
      ·rw [if_pos c6] at H
       have c6b0 : decide (x5_1 < (l1.length : Int)) = true := decide_eq_true c6
       clear c6
       replace H := Option.bind_eq_some_iff.mp H
       obtain ⟨t138, A70, H⟩ := H
       replace H : (if t138 = true then (vitrinelaw22_same.l0 k1 l0 l1 (wrap64 (x5_1 + 1))) else (some false)) = some r := H
       have A7 := Aside0.mk A70
       clear A70
       by_cases c8 : t138 = true
       ·subst c8
        have H1 : (vitrinelaw22_same.l0 k1 l0 l1 (wrap64 (x5_1 + 1))) = some r := by rw [if_pos rfl] at H; exact H
        clear H
        have H := H1
        clear H1
        have H' := Aside0.mk H
        clear H
        try go_wp2
        have n0_ := Aside0.mk (below_drew1 HB.out)
        clear HB
        have HB := n0_
        clear n0_
        have p136 : 0 ≤ (x5_1 : Int) := of_decide_eq_true (by first | (with_reducible assumption) | assumption)
        have q136 : x5_1 < (l0.length : Int) := of_decide_eq_true (by first | (with_reducible assumption) | assumption)
        obtain ⟨ad136, A136_8, c136_8, e136, hx136_0, hx136_1, hx136_2, hx136_3, hx136_4, hx136_5, hx136_6, hx136_7, hx136_8, hl136_8, hi136_8⟩ := at_T26 HR0.out x5_1 p136 q136
        have hw136_8 := hx136_8
        have hw136_7 := hx136_7
        have hw136_6 := hx136_6
        have hw136_5 := hx136_5
        have hw136_4 := hx136_4
        have hw136_3 := hx136_3
        have hw136_2 := hx136_2
        have hw136_1 := hx136_1
        have hw136_0 := hx136_0
        cases e136
        replace hx136_0 := (HB.out.cell (World.block_lt_of_cell? w _ hx136_0)).trans hx136_0
        replace hx136_1 := (HB.out.cell (World.block_lt_of_cell? w _ hx136_1)).trans hx136_1
        replace hx136_2 := (HB.out.cell (World.block_lt_of_cell? w _ hx136_2)).trans hx136_2
        replace hx136_3 := (HB.out.cell (World.block_lt_of_cell? w _ hx136_3)).trans hx136_3
        replace hx136_4 := (HB.out.cell (World.block_lt_of_cell? w _ hx136_4)).trans hx136_4
        replace hx136_5 := (HB.out.cell (World.block_lt_of_cell? w _ hx136_5)).trans hx136_5
        replace hx136_6 := (HB.out.cell (World.block_lt_of_cell? w _ hx136_6)).trans hx136_6
        replace hx136_7 := (HB.out.cell (World.block_lt_of_cell? w _ hx136_7)).trans hx136_7
        replace hx136_8 := (HB.out.cell (World.block_lt_of_cell? w _ hx136_8)).trans hx136_8
        have HR136_8 := Aside0.mk hi136_8
        have HC136_8 := Aside0.mk hl136_8
        clear hi136_8 hl136_8
        replace p136 := eq_true p136
        replace q136 := eq_true q136
        have p137 : 0 ≤ (x5_1 : Int) := of_decide_eq_true (by first | (with_reducible assumption) | assumption)
        have q137 : x5_1 < (l1.length : Int) := of_decide_eq_true (by first | (with_reducible assumption) | assumption)
        obtain ⟨ad137, A137_8, c137_8, e137, hx137_0, hx137_1, hx137_2, hx137_3, hx137_4, hx137_5, hx137_6, hx137_7, hx137_8, hl137_8, hi137_8⟩ := at_T26 HR1.out x5_1 p137 q137
        have hw137_8 := hx137_8
        have hw137_7 := hx137_7
        have hw137_6 := hx137_6
        have hw137_5 := hx137_5
        have hw137_4 := hx137_4
        have hw137_3 := hx137_3
        have hw137_2 := hx137_2
        have hw137_1 := hx137_1
        have hw137_0 := hx137_0
        cases e137
        replace hx137_0 := (HB.out.cell (World.block_lt_of_cell? w _ hx137_0)).trans hx137_0
        replace hx137_1 := (HB.out.cell (World.block_lt_of_cell? w _ hx137_1)).trans hx137_1
        replace hx137_2 := (HB.out.cell (World.block_lt_of_cell? w _ hx137_2)).trans hx137_2
        replace hx137_3 := (HB.out.cell (World.block_lt_of_cell? w _ hx137_3)).trans hx137_3
        replace hx137_4 := (HB.out.cell (World.block_lt_of_cell? w _ hx137_4)).trans hx137_4
        replace hx137_5 := (HB.out.cell (World.block_lt_of_cell? w _ hx137_5)).trans hx137_5
        replace hx137_6 := (HB.out.cell (World.block_lt_of_cell? w _ hx137_6)).trans hx137_6
        replace hx137_7 := (HB.out.cell (World.block_lt_of_cell? w _ hx137_7)).trans hx137_7
        replace hx137_8 := (HB.out.cell (World.block_lt_of_cell? w _ hx137_8)).trans hx137_8
        have HR137_8 := Aside0.mk hi137_8
        have HC137_8 := Aside0.mk hl137_8
        clear hi137_8 hl137_8
        replace p137 := eq_true p137
        replace q137 := eq_true q137
        refine start_ (n := 10) (S := fun w' => w'.cell? (ad136.add ((x5_1).toNat * 9)) = some (.int .i64 ((rd_T26 l0 x5_1).f0)) ∧ w'.cell? ⟨(ad136.add ((x5_1).toNat * 9)).block, (ad136.add ((x5_1).toNat * 9)).off + 1, none⟩ = some (.int .i64 ((rd_T26 l0 x5_1).f1)) ∧ w'.cell? ⟨(ad136.add ((x5_1).toNat * 9)).block, (ad136.add ((x5_1).toNat * 9)).off + 2, none⟩ = some (.int .i64 ((rd_T26 l0 x5_1).f2)) ∧ w'.cell? ⟨(ad136.add ((x5_1).toNat * 9)).block, (ad136.add ((x5_1).toNat * 9)).off + 3, none⟩ = some (.int .i64 ((rd_T26 l0 x5_1).f3)) ∧ w'.cell? ⟨(ad136.add ((x5_1).toNat * 9)).block, (ad136.add ((x5_1).toNat * 9)).off + 4, none⟩ = some (.string ((rd_T26 l0 x5_1).f4)) ∧ w'.cell? ⟨(ad136.add ((x5_1).toNat * 9)).block, (ad136.add ((x5_1).toNat * 9)).off + 5, none⟩ = some (.int .i64 ((rd_T26 l0 x5_1).f5.f0)) ∧ w'.cell? ⟨(ad136.add ((x5_1).toNat * 9)).block, (ad136.add ((x5_1).toNat * 9)).off + 6, none⟩ = some (.int .i64 ((rd_T26 l0 x5_1).f5.f1)) ∧ w'.cell? ⟨(ad136.add ((x5_1).toNat * 9)).block, (ad136.add ((x5_1).toNat * 9)).off + 7, none⟩ = some (.string ((rd_T26 l0 x5_1).f6)) ∧ w'.cell? ⟨(ad136.add ((x5_1).toNat * 9)).block, (ad136.add ((x5_1).toNat * 9)).off + 8, none⟩ = some (.slice A136_8 ((rd_T26 l0 x5_1).f7).length c136_8) ∧ w'.cell? (ad137.add ((x5_1).toNat * 9)) = some (.int .i64 ((rd_T26 l1 x5_1).f0)) ∧ w'.cell? ⟨(ad137.add ((x5_1).toNat * 9)).block, (ad137.add ((x5_1).toNat * 9)).off + 1, none⟩ = some (.int .i64 ((rd_T26 l1 x5_1).f1)) ∧ w'.cell? ⟨(ad137.add ((x5_1).toNat * 9)).block, (ad137.add ((x5_1).toNat * 9)).off + 2, none⟩ = some (.int .i64 ((rd_T26 l1 x5_1).f2)) ∧ w'.cell? ⟨(ad137.add ((x5_1).toNat * 9)).block, (ad137.add ((x5_1).toNat * 9)).off + 3, none⟩ = some (.int .i64 ((rd_T26 l1 x5_1).f3)) ∧ w'.cell? ⟨(ad137.add ((x5_1).toNat * 9)).block, (ad137.add ((x5_1).toNat * 9)).off + 4, none⟩ = some (.string ((rd_T26 l1 x5_1).f4)) ∧ w'.cell? ⟨(ad137.add ((x5_1).toNat * 9)).block, (ad137.add ((x5_1).toNat * 9)).off + 5, none⟩ = some (.int .i64 ((rd_T26 l1 x5_1).f5.f0)) ∧ w'.cell? ⟨(ad137.add ((x5_1).toNat * 9)).block, (ad137.add ((x5_1).toNat * 9)).off + 6, none⟩ = some (.int .i64 ((rd_T26 l1 x5_1).f5.f1)) ∧ w'.cell? ⟨(ad137.add ((x5_1).toNat * 9)).block, (ad137.add ((x5_1).toNat * 9)).off + 7, none⟩ = some (.string ((rd_T26 l1 x5_1).f6)) ∧ w'.cell? ⟨(ad137.add ((x5_1).toNat * 9)).block, (ad137.add ((x5_1).toNat * 9)).off + 8, none⟩ = some (.slice A137_8 ((rd_T26 l1 x5_1).f7).length c137_8)) (ds := []) (bm 10 0) (by kernel_rfl) rfl rfl ⟨((HB.out.cell (World.block_lt_of_cell? w _ hw136_0)).trans hw136_0), ((HB.out.cell (World.block_lt_of_cell? w _ hw136_1)).trans hw136_1), ((HB.out.cell (World.block_lt_of_cell? w _ hw136_2)).trans hw136_2), ((HB.out.cell (World.block_lt_of_cell? w _ hw136_3)).trans hw136_3), ((HB.out.cell (World.block_lt_of_cell? w _ hw136_4)).trans hw136_4), ((HB.out.cell (World.block_lt_of_cell? w _ hw136_5)).trans hw136_5), ((HB.out.cell (World.block_lt_of_cell? w _ hw136_6)).trans hw136_6), ((HB.out.cell (World.block_lt_of_cell? w _ hw136_7)).trans hw136_7), ((HB.out.cell (World.block_lt_of_cell? w _ hw136_8)).trans hw136_8), ((HB.out.cell (World.block_lt_of_cell? w _ hw137_0)).trans hw137_0), ((HB.out.cell (World.block_lt_of_cell? w _ hw137_1)).trans hw137_1), ((HB.out.cell (World.block_lt_of_cell? w _ hw137_2)).trans hw137_2), ((HB.out.cell (World.block_lt_of_cell? w _ hw137_3)).trans hw137_3), ((HB.out.cell (World.block_lt_of_cell? w _ hw137_4)).trans hw137_4), ((HB.out.cell (World.block_lt_of_cell? w _ hw137_5)).trans hw137_5), ((HB.out.cell (World.block_lt_of_cell? w _ hw137_6)).trans hw137_6), ((HB.out.cell (World.block_lt_of_cell? w _ hw137_7)).trans hw137_7), ((HB.out.cell (World.block_lt_of_cell? w _ hw137_8)).trans hw137_8)⟩ (fun hHeld => ?_); refine with_tabW vitrinelaw22_same.tab6 vitrinelaw22_same.bits6 (fun HT_ HW_ => ?_)
        generalize wr.drew = w9 at HB HR136_8 HR137_8 hx136_0 hx136_1 hx136_2 hx136_3 hx136_4 hx136_5 hx136_6 hx136_7 hx136_8 hx137_0 hx137_1 hx137_2 hx137_3 hx137_4 hx137_5 hx137_6 hx137_7 hx137_8 hHeld ⊢
        refine zp 0 17 (bm 10 1) ?_
        refine zp 1 18 (bm 10 3) ?_
        refine zp 2 19 (bm 10 7) ?_
        refine zp 4 21 (bm 10 23) ?_
        refine zp 5 22 (bm 10 55) ?_
        refine zp 6 23 (bm 10 119) ?_
        refine zt 3 20 (bm 10 127) rfl (by rintro w' ⟨s0, s1, s2, s3, s4, s5, s6, s7, s8, s9, s10, s11, s12, s13, s14, s15, s16, s17⟩; go_simp; with_reducible rfl) ?_
        refine zt 7 24 (bm 10 255) rfl (by rintro w' ⟨s0, s1, s2, s3, s4, s5, s6, s7, s8, s9, s10, s11, s12, s13, s14, s15, s16, s17⟩; go_simp; with_reducible rfl) ?_
        refine one_ (i := 8) (N := some 25) (bm 10 511) rfl rfl (one_of HT_.out (by kernel_rfl)) (by decide) (fun K hK => ?_)
        refine goes_ Try.func36 (by kernel_rfl) rfl #[.agg #[.int .i64 ((rd_T26 l0 x5_1).f0), .int .i64 ((rd_T26 l0 x5_1).f1), .int .i64 ((rd_T26 l0 x5_1).f2), .int .i64 ((rd_T26 l0 x5_1).f3), .string ((rd_T26 l0 x5_1).f4), .int .i64 ((rd_T26 l0 x5_1).f5.f0), .int .i64 ((rd_T26 l0 x5_1).f5.f1), .string ((rd_T26 l0 x5_1).f6), .slice A136_8 ((rd_T26 l0 x5_1).f7).length c136_8], .agg #[.int .i64 ((rd_T26 l1 x5_1).f0), .int .i64 ((rd_T26 l1 x5_1).f1), .int .i64 ((rd_T26 l1 x5_1).f2), .int .i64 ((rd_T26 l1 x5_1).f3), .string ((rd_T26 l1 x5_1).f4), .int .i64 ((rd_T26 l1 x5_1).f5.f0), .int .i64 ((rd_T26 l1 x5_1).f5.f1), .string ((rd_T26 l1 x5_1).f6), .slice A137_8 ((rd_T26 l1 x5_1).f7).length c137_8]] (by rfl) rfl rfl (by (try simp only [List.map_toArray, List.map_cons, List.map_nil]); first | done | rfl | (simp only [List.length_drop, List.length_take]; rfl) | (simp only [ByteArray.size_extract, Nat.min_self]; done) | (simp only [ByteArray.size_extract, Nat.min_self]; rfl)) ?_
        with_reducible refine (vitrineref20_Same.calls k1 ((rd_T26 l0 x5_1).f0) ((rd_T26 l0 x5_1).f1) ((rd_T26 l0 x5_1).f2) ((rd_T26 l0 x5_1).f3) ((rd_T26 l0 x5_1).f4) ((rd_T26 l0 x5_1).f5.f0) ((rd_T26 l0 x5_1).f5.f1) ((rd_T26 l0 x5_1).f6) _ _ ((rd_T26 l0 x5_1).f7) ((rd_T26 l1 x5_1).f0) ((rd_T26 l1 x5_1).f1) ((rd_T26 l1 x5_1).f2) ((rd_T26 l1 x5_1).f3) ((rd_T26 l1 x5_1).f4) ((rd_T26 l1 x5_1).f5.f0) ((rd_T26 l1 x5_1).f5.f1) ((rd_T26 l1 x5_1).f6) _ _ ((rd_T26 l1 x5_1).f7) true _ ?side1 ?side2 ?side3 ?side4 A7.out).mono ?_
        (case side1 => repeat (first | exact (Kd.C_below HR136_8.out HB.out) | (with_reducible refine Kd.C_alloc ?_ _) | (with_reducible refine Kd.C_drewN ?_ _) | (with_reducible refine Kd.C_drew ?_)))
        (case side2 => exact HC136_8.out)
        (case side3 => repeat (first | exact (Kd.C_below HR137_8.out HB.out) | (with_reducible refine Kd.C_alloc ?_ _) | (with_reducible refine Kd.C_drewN ?_ _) | (with_reducible refine Kd.C_drew ?_)))
        (case side4 => exact HC137_8.out)
        rintro e w10 ⟨rfl, hb⟩
        refine ⟨_, rfl, ?_⟩
        have n0_ := Aside0.mk (below_step (hz HB) hb)
        clear HB
        have HB := n0_
        clear n0_
        (try clear hb)
        refine hK.out _ _ ⟨((HB.out.cell (World.block_lt_of_cell? w _ hw136_0)).trans hw136_0), ((HB.out.cell (World.block_lt_of_cell? w _ hw136_1)).trans hw136_1), ((HB.out.cell (World.block_lt_of_cell? w _ hw136_2)).trans hw136_2), ((HB.out.cell (World.block_lt_of_cell? w _ hw136_3)).trans hw136_3), ((HB.out.cell (World.block_lt_of_cell? w _ hw136_4)).trans hw136_4), ((HB.out.cell (World.block_lt_of_cell? w _ hw136_5)).trans hw136_5), ((HB.out.cell (World.block_lt_of_cell? w _ hw136_6)).trans hw136_6), ((HB.out.cell (World.block_lt_of_cell? w _ hw136_7)).trans hw136_7), ((HB.out.cell (World.block_lt_of_cell? w _ hw136_8)).trans hw136_8), ((HB.out.cell (World.block_lt_of_cell? w _ hw137_0)).trans hw137_0), ((HB.out.cell (World.block_lt_of_cell? w _ hw137_1)).trans hw137_1), ((HB.out.cell (World.block_lt_of_cell? w _ hw137_2)).trans hw137_2), ((HB.out.cell (World.block_lt_of_cell? w _ hw137_3)).trans hw137_3), ((HB.out.cell (World.block_lt_of_cell? w _ hw137_4)).trans hw137_4), ((HB.out.cell (World.block_lt_of_cell? w _ hw137_5)).trans hw137_5), ((HB.out.cell (World.block_lt_of_cell? w _ hw137_6)).trans hw137_6), ((HB.out.cell (World.block_lt_of_cell? w _ hw137_7)).trans hw137_7), ((HB.out.cell (World.block_lt_of_cell? w _ hw137_8)).trans hw137_8)⟩ (fun hHeld => ?_)
        clear hK K
        refine norm_ (a' := ?_) ?_ ?_
        rotate_left
        ·show Act.put _ (some 25) _ = _
         simp only [Act.put, zq1, zq2, zq3, i64_w, i32_w]
         rfl
        refine zp 9 26 (bm 10 1023) ?_
        refine done_ (done_of HT_.out (by kernel_rfl)) ?_
        try go_wp2
        go_roundg k1
        case measure => have := HK1.out; omega
        case rel => exact ⟨(wrap64 (x5_1 + 1)), (by first | rfl | (simp; done) | (simp [*]; done)), H', ⟨by have := HK1.out; omega⟩, ⟨hz HB⟩⟩
       ·replace c8 := Bool.eq_false_iff.mpr c8
        subst c8
        have H1 : (some false) = some r := by rw [if_neg (show ¬ (false = true) by decide)] at H; exact H
        clear H
        have H := H1
        clear H1
        obtain rfl := Option.some.inj H
        try go_wp2
        have n0_ := Aside0.mk (below_drew1 HB.out)
        clear HB
        have HB := n0_
        clear n0_
        have p136 : 0 ≤ (x5_1 : Int) := of_decide_eq_true (by first | (with_reducible assumption) | assumption)
        have q136 : x5_1 < (l0.length : Int) := of_decide_eq_true (by first | (with_reducible assumption) | assumption)
        obtain ⟨ad136, A136_8, c136_8, e136, hx136_0, hx136_1, hx136_2, hx136_3, hx136_4, hx136_5, hx136_6, hx136_7, hx136_8, hl136_8, hi136_8⟩ := at_T26 HR0.out x5_1 p136 q136
        have hw136_8 := hx136_8
        have hw136_7 := hx136_7
        have hw136_6 := hx136_6
        have hw136_5 := hx136_5
        have hw136_4 := hx136_4
        have hw136_3 := hx136_3
        have hw136_2 := hx136_2
        have hw136_1 := hx136_1
        have hw136_0 := hx136_0
        cases e136
        replace hx136_0 := (HB.out.cell (World.block_lt_of_cell? w _ hx136_0)).trans hx136_0
        replace hx136_1 := (HB.out.cell (World.block_lt_of_cell? w _ hx136_1)).trans hx136_1
        replace hx136_2 := (HB.out.cell (World.block_lt_of_cell? w _ hx136_2)).trans hx136_2
        replace hx136_3 := (HB.out.cell (World.block_lt_of_cell? w _ hx136_3)).trans hx136_3
        replace hx136_4 := (HB.out.cell (World.block_lt_of_cell? w _ hx136_4)).trans hx136_4
        replace hx136_5 := (HB.out.cell (World.block_lt_of_cell? w _ hx136_5)).trans hx136_5
        replace hx136_6 := (HB.out.cell (World.block_lt_of_cell? w _ hx136_6)).trans hx136_6
        replace hx136_7 := (HB.out.cell (World.block_lt_of_cell? w _ hx136_7)).trans hx136_7
        replace hx136_8 := (HB.out.cell (World.block_lt_of_cell? w _ hx136_8)).trans hx136_8
        have HR136_8 := Aside0.mk hi136_8
        have HC136_8 := Aside0.mk hl136_8
        clear hi136_8 hl136_8
        replace p136 := eq_true p136
        replace q136 := eq_true q136
        have p137 : 0 ≤ (x5_1 : Int) := of_decide_eq_true (by first | (with_reducible assumption) | assumption)
        have q137 : x5_1 < (l1.length : Int) := of_decide_eq_true (by first | (with_reducible assumption) | assumption)
        obtain ⟨ad137, A137_8, c137_8, e137, hx137_0, hx137_1, hx137_2, hx137_3, hx137_4, hx137_5, hx137_6, hx137_7, hx137_8, hl137_8, hi137_8⟩ := at_T26 HR1.out x5_1 p137 q137
        have hw137_8 := hx137_8
        have hw137_7 := hx137_7
        have hw137_6 := hx137_6
        have hw137_5 := hx137_5
        have hw137_4 := hx137_4
        have hw137_3 := hx137_3
        have hw137_2 := hx137_2
        have hw137_1 := hx137_1
        have hw137_0 := hx137_0
        cases e137
        replace hx137_0 := (HB.out.cell (World.block_lt_of_cell? w _ hx137_0)).trans hx137_0
        replace hx137_1 := (HB.out.cell (World.block_lt_of_cell? w _ hx137_1)).trans hx137_1
        replace hx137_2 := (HB.out.cell (World.block_lt_of_cell? w _ hx137_2)).trans hx137_2
        replace hx137_3 := (HB.out.cell (World.block_lt_of_cell? w _ hx137_3)).trans hx137_3
        replace hx137_4 := (HB.out.cell (World.block_lt_of_cell? w _ hx137_4)).trans hx137_4
        replace hx137_5 := (HB.out.cell (World.block_lt_of_cell? w _ hx137_5)).trans hx137_5
        replace hx137_6 := (HB.out.cell (World.block_lt_of_cell? w _ hx137_6)).trans hx137_6
        replace hx137_7 := (HB.out.cell (World.block_lt_of_cell? w _ hx137_7)).trans hx137_7
        replace hx137_8 := (HB.out.cell (World.block_lt_of_cell? w _ hx137_8)).trans hx137_8
        have HR137_8 := Aside0.mk hi137_8
        have HC137_8 := Aside0.mk hl137_8
        clear hi137_8 hl137_8
        replace p137 := eq_true p137
        replace q137 := eq_true q137
        refine start_ (n := 10) (S := fun w' => w'.cell? (ad136.add ((x5_1).toNat * 9)) = some (.int .i64 ((rd_T26 l0 x5_1).f0)) ∧ w'.cell? ⟨(ad136.add ((x5_1).toNat * 9)).block, (ad136.add ((x5_1).toNat * 9)).off + 1, none⟩ = some (.int .i64 ((rd_T26 l0 x5_1).f1)) ∧ w'.cell? ⟨(ad136.add ((x5_1).toNat * 9)).block, (ad136.add ((x5_1).toNat * 9)).off + 2, none⟩ = some (.int .i64 ((rd_T26 l0 x5_1).f2)) ∧ w'.cell? ⟨(ad136.add ((x5_1).toNat * 9)).block, (ad136.add ((x5_1).toNat * 9)).off + 3, none⟩ = some (.int .i64 ((rd_T26 l0 x5_1).f3)) ∧ w'.cell? ⟨(ad136.add ((x5_1).toNat * 9)).block, (ad136.add ((x5_1).toNat * 9)).off + 4, none⟩ = some (.string ((rd_T26 l0 x5_1).f4)) ∧ w'.cell? ⟨(ad136.add ((x5_1).toNat * 9)).block, (ad136.add ((x5_1).toNat * 9)).off + 5, none⟩ = some (.int .i64 ((rd_T26 l0 x5_1).f5.f0)) ∧ w'.cell? ⟨(ad136.add ((x5_1).toNat * 9)).block, (ad136.add ((x5_1).toNat * 9)).off + 6, none⟩ = some (.int .i64 ((rd_T26 l0 x5_1).f5.f1)) ∧ w'.cell? ⟨(ad136.add ((x5_1).toNat * 9)).block, (ad136.add ((x5_1).toNat * 9)).off + 7, none⟩ = some (.string ((rd_T26 l0 x5_1).f6)) ∧ w'.cell? ⟨(ad136.add ((x5_1).toNat * 9)).block, (ad136.add ((x5_1).toNat * 9)).off + 8, none⟩ = some (.slice A136_8 ((rd_T26 l0 x5_1).f7).length c136_8) ∧ w'.cell? (ad137.add ((x5_1).toNat * 9)) = some (.int .i64 ((rd_T26 l1 x5_1).f0)) ∧ w'.cell? ⟨(ad137.add ((x5_1).toNat * 9)).block, (ad137.add ((x5_1).toNat * 9)).off + 1, none⟩ = some (.int .i64 ((rd_T26 l1 x5_1).f1)) ∧ w'.cell? ⟨(ad137.add ((x5_1).toNat * 9)).block, (ad137.add ((x5_1).toNat * 9)).off + 2, none⟩ = some (.int .i64 ((rd_T26 l1 x5_1).f2)) ∧ w'.cell? ⟨(ad137.add ((x5_1).toNat * 9)).block, (ad137.add ((x5_1).toNat * 9)).off + 3, none⟩ = some (.int .i64 ((rd_T26 l1 x5_1).f3)) ∧ w'.cell? ⟨(ad137.add ((x5_1).toNat * 9)).block, (ad137.add ((x5_1).toNat * 9)).off + 4, none⟩ = some (.string ((rd_T26 l1 x5_1).f4)) ∧ w'.cell? ⟨(ad137.add ((x5_1).toNat * 9)).block, (ad137.add ((x5_1).toNat * 9)).off + 5, none⟩ = some (.int .i64 ((rd_T26 l1 x5_1).f5.f0)) ∧ w'.cell? ⟨(ad137.add ((x5_1).toNat * 9)).block, (ad137.add ((x5_1).toNat * 9)).off + 6, none⟩ = some (.int .i64 ((rd_T26 l1 x5_1).f5.f1)) ∧ w'.cell? ⟨(ad137.add ((x5_1).toNat * 9)).block, (ad137.add ((x5_1).toNat * 9)).off + 7, none⟩ = some (.string ((rd_T26 l1 x5_1).f6)) ∧ w'.cell? ⟨(ad137.add ((x5_1).toNat * 9)).block, (ad137.add ((x5_1).toNat * 9)).off + 8, none⟩ = some (.slice A137_8 ((rd_T26 l1 x5_1).f7).length c137_8)) (ds := []) (bm 10 0) (by kernel_rfl) rfl rfl ⟨((HB.out.cell (World.block_lt_of_cell? w _ hw136_0)).trans hw136_0), ((HB.out.cell (World.block_lt_of_cell? w _ hw136_1)).trans hw136_1), ((HB.out.cell (World.block_lt_of_cell? w _ hw136_2)).trans hw136_2), ((HB.out.cell (World.block_lt_of_cell? w _ hw136_3)).trans hw136_3), ((HB.out.cell (World.block_lt_of_cell? w _ hw136_4)).trans hw136_4), ((HB.out.cell (World.block_lt_of_cell? w _ hw136_5)).trans hw136_5), ((HB.out.cell (World.block_lt_of_cell? w _ hw136_6)).trans hw136_6), ((HB.out.cell (World.block_lt_of_cell? w _ hw136_7)).trans hw136_7), ((HB.out.cell (World.block_lt_of_cell? w _ hw136_8)).trans hw136_8), ((HB.out.cell (World.block_lt_of_cell? w _ hw137_0)).trans hw137_0), ((HB.out.cell (World.block_lt_of_cell? w _ hw137_1)).trans hw137_1), ((HB.out.cell (World.block_lt_of_cell? w _ hw137_2)).trans hw137_2), ((HB.out.cell (World.block_lt_of_cell? w _ hw137_3)).trans hw137_3), ((HB.out.cell (World.block_lt_of_cell? w _ hw137_4)).trans hw137_4), ((HB.out.cell (World.block_lt_of_cell? w _ hw137_5)).trans hw137_5), ((HB.out.cell (World.block_lt_of_cell? w _ hw137_6)).trans hw137_6), ((HB.out.cell (World.block_lt_of_cell? w _ hw137_7)).trans hw137_7), ((HB.out.cell (World.block_lt_of_cell? w _ hw137_8)).trans hw137_8)⟩ (fun hHeld => ?_); refine with_tabW vitrinelaw22_same.tab6 vitrinelaw22_same.bits6 (fun HT_ HW_ => ?_)
        generalize wr.drew = w11 at HB HR136_8 HR137_8 hx136_0 hx136_1 hx136_2 hx136_3 hx136_4 hx136_5 hx136_6 hx136_7 hx136_8 hx137_0 hx137_1 hx137_2 hx137_3 hx137_4 hx137_5 hx137_6 hx137_7 hx137_8 hHeld ⊢
        refine zp 0 17 (bm 10 1) ?_
        refine zp 1 18 (bm 10 3) ?_
        refine zp 2 19 (bm 10 7) ?_
        refine zp 4 21 (bm 10 23) ?_
        refine zp 5 22 (bm 10 55) ?_
        refine zp 6 23 (bm 10 119) ?_
        refine zt 3 20 (bm 10 127) rfl (by rintro w' ⟨s0, s1, s2, s3, s4, s5, s6, s7, s8, s9, s10, s11, s12, s13, s14, s15, s16, s17⟩; go_simp; with_reducible rfl) ?_
        refine zt 7 24 (bm 10 255) rfl (by rintro w' ⟨s0, s1, s2, s3, s4, s5, s6, s7, s8, s9, s10, s11, s12, s13, s14, s15, s16, s17⟩; go_simp; with_reducible rfl) ?_
        refine one_ (i := 8) (N := some 25) (bm 10 511) rfl rfl (one_of HT_.out (by kernel_rfl)) (by decide) (fun K hK => ?_)
        refine goes_ Try.func36 (by kernel_rfl) rfl #[.agg #[.int .i64 ((rd_T26 l0 x5_1).f0), .int .i64 ((rd_T26 l0 x5_1).f1), .int .i64 ((rd_T26 l0 x5_1).f2), .int .i64 ((rd_T26 l0 x5_1).f3), .string ((rd_T26 l0 x5_1).f4), .int .i64 ((rd_T26 l0 x5_1).f5.f0), .int .i64 ((rd_T26 l0 x5_1).f5.f1), .string ((rd_T26 l0 x5_1).f6), .slice A136_8 ((rd_T26 l0 x5_1).f7).length c136_8], .agg #[.int .i64 ((rd_T26 l1 x5_1).f0), .int .i64 ((rd_T26 l1 x5_1).f1), .int .i64 ((rd_T26 l1 x5_1).f2), .int .i64 ((rd_T26 l1 x5_1).f3), .string ((rd_T26 l1 x5_1).f4), .int .i64 ((rd_T26 l1 x5_1).f5.f0), .int .i64 ((rd_T26 l1 x5_1).f5.f1), .string ((rd_T26 l1 x5_1).f6), .slice A137_8 ((rd_T26 l1 x5_1).f7).length c137_8]] (by rfl) rfl rfl (by (try simp only [List.map_toArray, List.map_cons, List.map_nil]); first | done | rfl | (simp only [List.length_drop, List.length_take]; rfl) | (simp only [ByteArray.size_extract, Nat.min_self]; done) | (simp only [ByteArray.size_extract, Nat.min_self]; rfl)) ?_
        with_reducible refine (vitrineref20_Same.calls k1 ((rd_T26 l0 x5_1).f0) ((rd_T26 l0 x5_1).f1) ((rd_T26 l0 x5_1).f2) ((rd_T26 l0 x5_1).f3) ((rd_T26 l0 x5_1).f4) ((rd_T26 l0 x5_1).f5.f0) ((rd_T26 l0 x5_1).f5.f1) ((rd_T26 l0 x5_1).f6) _ _ ((rd_T26 l0 x5_1).f7) ((rd_T26 l1 x5_1).f0) ((rd_T26 l1 x5_1).f1) ((rd_T26 l1 x5_1).f2) ((rd_T26 l1 x5_1).f3) ((rd_T26 l1 x5_1).f4) ((rd_T26 l1 x5_1).f5.f0) ((rd_T26 l1 x5_1).f5.f1) ((rd_T26 l1 x5_1).f6) _ _ ((rd_T26 l1 x5_1).f7) false _ ?side1 ?side2 ?side3 ?side4 A7.out).mono ?_
        (case side1 => repeat (first | exact (Kd.C_below HR136_8.out HB.out) | (with_reducible refine Kd.C_alloc ?_ _) | (with_reducible refine Kd.C_drewN ?_ _) | (with_reducible refine Kd.C_drew ?_)))
        (case side2 => exact HC136_8.out)
        (case side3 => repeat (first | exact (Kd.C_below HR137_8.out HB.out) | (with_reducible refine Kd.C_alloc ?_ _) | (with_reducible refine Kd.C_drewN ?_ _) | (with_reducible refine Kd.C_drew ?_)))
        (case side4 => exact HC137_8.out)
        rintro e w12 ⟨rfl, hb⟩
        refine ⟨_, rfl, ?_⟩
        have n0_ := Aside0.mk (below_step (hz HB) hb)
        clear HB
        have HB := n0_
        clear n0_
        (try clear hb)
        refine hK.out _ _ ⟨((HB.out.cell (World.block_lt_of_cell? w _ hw136_0)).trans hw136_0), ((HB.out.cell (World.block_lt_of_cell? w _ hw136_1)).trans hw136_1), ((HB.out.cell (World.block_lt_of_cell? w _ hw136_2)).trans hw136_2), ((HB.out.cell (World.block_lt_of_cell? w _ hw136_3)).trans hw136_3), ((HB.out.cell (World.block_lt_of_cell? w _ hw136_4)).trans hw136_4), ((HB.out.cell (World.block_lt_of_cell? w _ hw136_5)).trans hw136_5), ((HB.out.cell (World.block_lt_of_cell? w _ hw136_6)).trans hw136_6), ((HB.out.cell (World.block_lt_of_cell? w _ hw136_7)).trans hw136_7), ((HB.out.cell (World.block_lt_of_cell? w _ hw136_8)).trans hw136_8), ((HB.out.cell (World.block_lt_of_cell? w _ hw137_0)).trans hw137_0), ((HB.out.cell (World.block_lt_of_cell? w _ hw137_1)).trans hw137_1), ((HB.out.cell (World.block_lt_of_cell? w _ hw137_2)).trans hw137_2), ((HB.out.cell (World.block_lt_of_cell? w _ hw137_3)).trans hw137_3), ((HB.out.cell (World.block_lt_of_cell? w _ hw137_4)).trans hw137_4), ((HB.out.cell (World.block_lt_of_cell? w _ hw137_5)).trans hw137_5), ((HB.out.cell (World.block_lt_of_cell? w _ hw137_6)).trans hw137_6), ((HB.out.cell (World.block_lt_of_cell? w _ hw137_7)).trans hw137_7), ((HB.out.cell (World.block_lt_of_cell? w _ hw137_8)).trans hw137_8)⟩ (fun hHeld => ?_)
        clear hK K
        refine norm_ (a' := ?_) ?_ ?_
        rotate_left
        ·show Act.put _ (some 25) _ = _
         simp only [Act.put, zq1, zq2, zq3, i64_w, i32_w]
         rfl
        refine zp 9 26 (bm 10 1023) ?_
        refine done_ (done_of HT_.out (by kernel_rfl)) ?_
        try go_wp2
        go_ret
        exact ⟨by first | rfl | (simp [errW_none, errW_some] <;> rfl) | (simp [*, errW_none, errW_some] <;> rfl), by repeat (first | (with_reducible first | exact HB.out | apply below_alloc | apply pw_below_drewN | apply below_drew1) | exact HB.out)⟩
      ·rw [if_neg c6] at H
       exact absurd H (by simp)
     ·rw [if_neg c5] at H
      exact absurd H (by simp)
    ·rw [if_neg c4] at H
     have c4b0 : decide (x5_1 < (l0.length : Int)) = false := decide_eq_false c4
     clear c4
     obtain rfl := Option.some.inj H
     go_wp2
     go_ret
     exact ⟨by first | rfl | (simp [errW_none, errW_some] <;> rfl) | (simp [*, errW_none, errW_some] <;> rfl), by repeat (first | (with_reducible first | exact HB.out | apply below_alloc | apply pw_below_drewN | apply below_drew1) | exact HB.out)⟩
 ·rw [if_neg c3] at H
  have c3b0 : ((l0.length : Int) == (l1.length : Int)) = false := beq_eq_false_iff_ne.mpr c3
  have c3b1 : ((l0.length : Int) != (l1.length : Int)) = true := bne_iff_ne.mpr c3
  have c3b2 : (l0.length == l1.length) = false := by first | simpa using c3 | (simp at c3 ⊢; omega)
  obtain rfl := Option.some.inj H
  go_enter Try.func15, Try.ntmps15
  go_wp2
  go_ret
  exact ⟨by first | rfl | (simp [errW_none, errW_some] <;> rfl) | (simp [*, errW_none, errW_some] <;> rfl), by repeat (first | (with_reducible first | exact HB.out | apply below_alloc | apply pw_below_drewN | apply below_drew1) | exact HB.out)⟩

end Go.Proofs.Ytdbiokmlgniobaa.PL22
