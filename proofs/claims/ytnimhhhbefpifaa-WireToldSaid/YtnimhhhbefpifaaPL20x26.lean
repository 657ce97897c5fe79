/- Printed for this claim by a program of this session over the kit's print program: the Go functions as Lean functions, and proofs that the calls come to these answers. No conditions. -/
import Derived.Test.YtnimhhhbefpifaaM
import Derived.Test.YtnimhhhbefpifaaPL20x0
import Derived.Test.YtnimhhhbefpifaaPL20x2
import Derived.Test.YtnimhhhbefpifaaPL20x8
import Derived.Test.YtnimhhhbefpifaaPL20x9
import Derived.Test.YtnimhhhbefpifaaPL20x22
namespace Go.Proofs.Ytnimhhhbefpifaa.PL20
open Go.RowKit Go.Proofs.YtnimhhhbefpifaaW.PrintWords Go.Proofs.YtnimhhhbefpifaaW.PrintLast Go.Proofs.YtnimhhhbefpifaaW.PrintMore
attribute [local go_sem] max2_int min2_int max_two min_two max_three min_three max_four min_four   -- for this text's walks alone
set_option linter.unusedVariables false
set_option linter.unusedSimpArgs false

/-! ### vitrinelaw20_WireTold: function 7 -/
def vitrinelaw20_WireTold.j0 : Nat → Int → Int → Bool → Int → Int → Int → Int → ByteArray → Int → Int → ByteArray → List ByteArray → Option (Bool)
  | 0, _, _, _, _, _, _, _, _, _, _, _, _ => none
  | k + 1, x1, x2, x19, x331000, x331001, x331002, x331003, x331004, x331005, x331006, x331007, x331008 => if x19 = true then ((vitrinelaw20_awake.f k).bind fun t332 => (some t332)) else ((wire_Encode.f k x331000 x331001 x331002 x331003 x331004 x331005 x331006 x331007 x331008).bind fun bt333 => (if bt333.2 = 0 then (if bt333.1.size ≤ 140737488355328 then ((some ((bytesOf bt333.1) : List Int)).bind fun y336 => (if (y336.length : Int) < 4 then (some false) else (if (y336.length : Int) = 0 then (none) else (if 0 ≤ (Int.tmod (wrap64 ((Int.tmod x1 (y336.length : Int)) + (y336.length : Int))) (y336.length : Int)) then (if (Int.tmod (wrap64 ((Int.tmod x1 (y336.length : Int)) + (y336.length : Int))) (y336.length : Int)) < (y336.length : Int) then ((wire_Decode.f k (strOfNums (y336.set ((Int.tmod (wrap64 ((Int.tmod x1 (y336.length : Int)) + (y336.length : Int))) (y336.length : Int)) : Int).toNat (Go.bits .xor .u8 (rd y336 (Int.tmod (wrap64 ((Int.tmod x1 (y336.length : Int)) + (y336.length : Int))) (y336.length : Int))) x2)))).bind fun bt341 => (if bt341.2.2.2.2.2.2.2.2.2 = 17 then ((vitrinelaw20_awake.f k).bind fun t354 => (some t354)) else (some false))) else (none)) else (none))))) else (none)) else ((vitrinelaw20_awake.f k).bind fun t335 => (some t335))))
def vitrinelaw20_WireTold.f (k : Nat) (a0_0 : Int) (a0_1 : Int) (a0_2 : Int) (a0_3 : Int) (a0_4 : ByteArray) (a0_5 : Int) (a0_6 : Int) (a0_7 : ByteArray) (l0_8 : List ByteArray) (a1 : Int) (a2 : Int) : Option (Bool) := (vitrinelaw20_few.f k a0_0 a0_1 a0_2 a0_3 a0_4 a0_5 a0_6 a0_7 l0_8).bind fun t331 => (if t331 = true then (vitrinelaw20_WireTold.j0 k a1 a2 (a2 == 0) a0_0 a0_1 a0_2 a0_3 a0_4 a0_5 a0_6 a0_7 l0_8) else (vitrinelaw20_WireTold.j0 k a1 a2 true a0_0 a0_1 a0_2 a0_3 a0_4 a0_5 a0_6 a0_7 l0_8))
theorem vitrinelaw20_WireTold.mono_l : ∀ k, (∀ y0 y1 y2 y3 y4 y5 y6 y7 y8 y9 y10 y11, LeO (vitrinelaw20_WireTold.j0 k y0 y1 y2 y3 y4 y5 y6 y7 y8 y9 y10 y11) (vitrinelaw20_WireTold.j0 (k + 1) y0 y1 y2 y3 y4 y5 y6 y7 y8 y9 y10 y11))
  | 0 => fun _ _ _ _ _ _ _ _ _ _ _ _ r h => by simp [vitrinelaw20_WireTold.j0] at h
  | k + 1 => by
    have ih0 := vitrinelaw20_WireTold.mono_l k
    · intro y0 y1 y2 y3 y4 y5 y6 y7 y8 y9 y10 y11
      unfold vitrinelaw20_WireTold.j0
      repeat' first
      | (with_reducible exact ih0 _ _ _ _ _ _ _ _ _ _ _ _)
      | (with_reducible exact vitrinelaw20_awake.mono _)
      | (with_reducible exact vitrinelaw20_few.mono _ _ _ _ _ _ _ _ _ _)
      | (with_reducible exact wire_Decode.mono _ _)
      | (with_reducible exact wire_Encode.mono _ _ _ _ _ _ _ _ _ _)
      | (with_reducible exact LeO.refl _)
      | (with_reducible exact LeO.none _)
      | (with_reducible refine LeO.ite ?_ ?_)
      | (with_reducible refine LeO.bind ?_ (fun _ => ?_))
      | exact ih0 _ _ _ _ _ _ _ _ _ _ _ _
      | exact vitrinelaw20_awake.mono _
      | exact vitrinelaw20_few.mono _ _ _ _ _ _ _ _ _ _
      | exact wire_Decode.mono _ _
      | exact wire_Encode.mono _ _ _ _ _ _ _ _ _ _
      | exact LeO.none _
      | refine LeO.ite ?_ ?_
      | refine LeO.bind ?_ (fun _ => ?_)
theorem vitrinelaw20_WireTold.mono : ∀ a0 a1 a2 a3 a4 a5 a6 a7 a8 a9 a10 k, LeO (vitrinelaw20_WireTold.f k a0 a1 a2 a3 a4 a5 a6 a7 a8 a9 a10) (vitrinelaw20_WireTold.f (k + 1) a0 a1 a2 a3 a4 a5 a6 a7 a8 a9 a10) := by
  intro a0 a1 a2 a3 a4 a5 a6 a7 a8 a9 a10 k
  have ih0 := vitrinelaw20_WireTold.mono_l k
  unfold vitrinelaw20_WireTold.f
  repeat' first
      | (with_reducible exact ih0 _ _ _ _ _ _ _ _ _ _ _ _)
      | (with_reducible exact vitrinelaw20_awake.mono _)
      | (with_reducible exact vitrinelaw20_few.mono _ _ _ _ _ _ _ _ _ _)
      | (with_reducible exact wire_Decode.mono _ _)
      | (with_reducible exact wire_Encode.mono _ _ _ _ _ _ _ _ _ _)
      | (with_reducible exact LeO.refl _)
      | (with_reducible exact LeO.none _)
      | (with_reducible refine LeO.ite ?_ ?_)
      | (with_reducible refine LeO.bind ?_ (fun _ => ?_))
      | exact ih0 _ _ _ _ _ _ _ _ _ _ _ _
      | exact vitrinelaw20_awake.mono _
      | exact vitrinelaw20_few.mono _ _ _ _ _ _ _ _ _ _
      | exact wire_Decode.mono _ _
      | exact wire_Encode.mono _ _ _ _ _ _ _ _ _ _
      | exact LeO.none _
      | refine LeO.ite ?_ ?_
      | refine LeO.bind ?_ (fun _ => ?_)
set_option maxHeartbeats 40000000 in
set_option maxRecDepth 100000 in
theorem vitrinelaw20_WireTold.calls (k : Nat) (a0_0 : Int) (a0_1 : Int) (a0_2 : Int) (a0_3 : Int) (a0_4 : ByteArray) (a0_5 : Int) (a0_6 : Int) (a0_7 : ByteArray) (A0_8 : Option Addr) (c0_8 : Nat) (l0_8 : List ByteArray) (a1 : Int) (a2 : Int) (r : Bool) (w : World) (hr0_8 : Kd.C Kd.string w A0_8 l0_8.length l0_8) (hc0_8 : l0_8.length ≤ c0_8) (h : vitrinelaw20_WireTold.f k a0_0 a0_1 a0_2 a0_3 a0_4 a0_5 a0_6 a0_7 l0_8 a1 a2 = some r) :
    Calls Try.prog 7 #[.agg #[.int .i64 a0_0, .int .i64 a0_1, .int .i64 a0_2, .int .i64 a0_3, .string a0_4, .int .i64 a0_5, .int .i64 a0_6, .string a0_7, .slice A0_8 l0_8.length c0_8], .int .i64 a1, .int .u8 a2] w fun e w' => e = .returned (.bool r) ∧ Below w.heap.size w w' := by
  have hu26 := Try.underlying26
  have HR0_8 := Aside0.mk hr0_8
  have HC0_8 := Aside0.mk hc0_8
  clear hr0_8 hc0_8
  have HB := Aside0.mk (Below.refl w.heap.size w)
  have H : ((vitrinelaw20_few.f k a0_0 a0_1 a0_2 a0_3 a0_4 a0_5 a0_6 a0_7 l0_8).bind fun t331 => (if t331 = true then (vitrinelaw20_WireTold.j0 k a1 a2 (a2 == 0) a0_0 a0_1 a0_2 a0_3 a0_4 a0_5 a0_6 a0_7 l0_8) else (vitrinelaw20_WireTold.j0 k a1 a2 true a0_0 a0_1 a0_2 a0_3 a0_4 a0_5 a0_6 a0_7 l0_8))) = some r := h
  clear h
  have HC4 := Aside0.mk H
  clear H
  go_enter Try.func7, Try.ntmps7
  go_upto_region 1 with (first | ((with_reducible refine gate_dst (N := 3) rfl ?_); refine box_event ?hg (N := 3) ?hd (cs := #[.int .i64 a0_0, .int .i64 a0_1, .int .i64 a0_2, .int .i64 a0_3, .string a0_4, .int .i64 a0_5, .int .i64 a0_6, .string a0_7, .slice A0_8 l0_8.length c0_8]) (t := 26) ?hr ?_; (case hd => rfl); (case hg => rfl); (case hr => first | (go_simp; done) | (go_simp; rfl)); intro gb330 hg w5 hbox hb; have n0_ := Aside0.mk (below_step (by repeat (first | (with_reducible first | exact HB.out | apply below_alloc | apply pw_below_drewN | apply below_drew1) | exact HB.out)) hb); have n1_ := Aside0.mk (hbox); have n2_ := Aside0.mk ((by rw [hg]; exact (below_size (by repeat (first | (with_reducible first | exact HB.out | apply below_alloc | apply pw_below_drewN | apply below_drew1) | exact HB.out))) : w.heap.size ≤ gb330)); have n3_ := Aside0.mk ((by rw [hg]; exact (below_size (by repeat (first | (with_reducible first | exact HB.out | apply below_alloc | apply pw_below_drewN | apply below_drew1) | exact HB.out))) : w.heap.size ≤ gb330)); clear HB; have HB := n0_; have BK330 := n1_; have GW330 := n2_; have GE330 := n3_; clear n0_ n1_ n2_ n3_; clear hb hbox hg))
  (try simp only [Act.put, List.setIfInBounds_toArray, List.set_cons_zero, List.set_cons_succ])
  go_cut [19] (fun v19 wc => ∃ (kq : Nat) (x19_3 : Bool), v19 = .bool x19_3 ∧ Aside0 (vitrinelaw20_WireTold.j0 kq a1 a2 x19_3 a0_0 a0_1 a0_2 a0_3 a0_4 a0_5 a0_6 a0_7 l0_8 = some r) ∧ Aside0 (kq ≤ k) ∧ Aside0 (wc.heap[gb330]? = some (.cells #[.int .i64 a0_0, .int .i64 a0_1, .int .i64 a0_2, .int .i64 a0_3, .string a0_4, .int .i64 a0_5, .int .i64 a0_6, .string a0_7, (.slice A0_8 l0_8.length c0_8)] 26 (0, 0))) ∧ Aside0 (Below w.heap.size w wc))
  case first =>
    have H := HC4.out
    clear HC4
    replace H := Option.bind_eq_some_iff.mp H
    obtain ⟨t331, A60, H⟩ := H
    replace H : (if t331 = true then (vitrinelaw20_WireTold.j0 k a1 a2 (a2 == 0) a0_0 a0_1 a0_2 a0_3 a0_4 a0_5 a0_6 a0_7 l0_8) else (vitrinelaw20_WireTold.j0 k a1 a2 true a0_0 a0_1 a0_2 a0_3 a0_4 a0_5 a0_6 a0_7 l0_8)) = some r := H
    have A6 := Aside0.mk A60
    clear A60
    by_cases c7 : t331 = true
    · subst c7
      have H1 : (vitrinelaw20_WireTold.j0 k a1 a2 (a2 == 0) a0_0 a0_1 a0_2 a0_3 a0_4 a0_5 a0_6 a0_7 l0_8) = some r := by rw [if_pos rfl] at H; exact H
      clear H
      have H := H1
      clear H1
      have H' := Aside0.mk H
      clear H
      have hcz8_0 : w5.cell? ⟨gb330, 0, none⟩ = some (.int .i64 a0_0) := (blk_cell BK330.out 0).trans rfl
      have hcz8_1 : w5.cell? ⟨gb330, 1, none⟩ = some (.int .i64 a0_1) := (blk_cell BK330.out 1).trans rfl
      have hcz8_2 : w5.cell? ⟨gb330, 2, none⟩ = some (.int .i64 a0_2) := (blk_cell BK330.out 2).trans rfl
      have hcz8_3 : w5.cell? ⟨gb330, 3, none⟩ = some (.int .i64 a0_3) := (blk_cell BK330.out 3).trans rfl
      have hcz8_4 : w5.cell? ⟨gb330, 4, none⟩ = some (.string a0_4) := (blk_cell BK330.out 4).trans rfl
      have hcz8_5 : w5.cell? ⟨gb330, 5, none⟩ = some (.int .i64 a0_5) := (blk_cell BK330.out 5).trans rfl
      have hcz8_6 : w5.cell? ⟨gb330, 6, none⟩ = some (.int .i64 a0_6) := (blk_cell BK330.out 6).trans rfl
      have hcz8_7 : w5.cell? ⟨gb330, 7, none⟩ = some (.string a0_7) := (blk_cell BK330.out 7).trans rfl
      have hcz8_8 : w5.cell? ⟨gb330, 8, none⟩ = some (.slice A0_8 l0_8.length c0_8) := (blk_cell BK330.out 8).trans rfl
      have hfz8_0 := blk_frozen BK330.out 0
      have hfz8_1 := blk_frozen BK330.out 1
      have hfz8_2 := blk_frozen BK330.out 2
      have hfz8_3 := blk_frozen BK330.out 3
      have hfz8_4 := blk_frozen BK330.out 4
      have hfz8_5 := blk_frozen BK330.out 5
      have hfz8_6 := blk_frozen BK330.out 6
      have hfz8_7 := blk_frozen BK330.out 7
      have hfz8_8 := blk_frozen BK330.out 8
      go_wp2_with (first | ((with_reducible refine gate_callee (f := 9) rfl ?_); refine goesL_ (some 14) rfl rfl Try.func9 (by kernel_rfl) rfl #[.agg #[.int .i64 a0_0, .int .i64 a0_1, .int .i64 a0_2, .int .i64 a0_3, .string a0_4, .int .i64 a0_5, .int .i64 a0_6, .string a0_7, .slice A0_8 l0_8.length c0_8]] rfl (by (try simp only [List.map_toArray, List.map_cons, List.map_nil]); first | done | rfl | (simp only [List.length_drop, List.length_take]; rfl) | (simp only [ByteArray.size_extract, Nat.min_self]; done) | (simp only [ByteArray.size_extract, Nat.min_self]; rfl)) ?_; (with_reducible refine (vitrinelaw20_few.calls k a0_0 a0_1 a0_2 a0_3 a0_4 a0_5 a0_6 a0_7 _ _ l0_8 true _ ?side1 ?side2 A6.out).mono ?_); (case side1 => repeat (first | exact (Kd.C_below HR0_8.out HB.out) | (with_reducible refine Kd.C_alloc ?_ _) | (with_reducible refine Kd.C_drewN ?_ _) | (with_reducible refine Kd.C_drew ?_))); (case side2 => exact HC0_8.out); rintro e w9 ⟨rfl, hb⟩; refine ⟨_, rfl, ?_⟩; have n0_ := Aside0.mk (blk_below (g := gb330) (o := .cells #[.int .i64 a0_0, .int .i64 a0_1, .int .i64 a0_2, .int .i64 a0_3, .string a0_4, .int .i64 a0_5, .int .i64 a0_6, .string a0_7, .slice A0_8 l0_8.length c0_8] 26 (0, 0)) (by (with_reducible repeat (first | refine blk_drewN ?_ _ | refine blk_drew ?_ | refine blk_alloc ?_ _)); exact BK330.out) hb); have n1_ := Aside0.mk (below_step (by repeat (first | (with_reducible first | exact HB.out | apply below_alloc | apply pw_below_drewN | apply below_drew1 | refine below_set ?_ GE330.out) | exact HB.out)) hb); clear BK330; clear HB; have BK330 := n0_; have HB := n1_; clear n0_ n1_; (try clear hb); (try clear hb2); (try clear hk); (try clear hi)))
      go_meet
      case rel => exact ⟨_, ((a2 == 0)), (by first | rfl | (simp; done) | (simp [*]; done)), H', ⟨by first | omega | exact Nat.le_refl _⟩, ⟨by (with_reducible repeat (first | refine blk_drewN ?_ _ | refine blk_drew ?_ | refine blk_alloc ?_ _)); exact BK330.out⟩, ⟨by repeat (first | (with_reducible first | exact HB.out | apply below_alloc | apply pw_below_drewN | apply below_drew1 | refine below_set ?_ GE330.out) | exact HB.out)⟩⟩
    · replace c7 := Bool.eq_false_iff.mpr c7
      subst c7
      have H1 : (vitrinelaw20_WireTold.j0 k a1 a2 true a0_0 a0_1 a0_2 a0_3 a0_4 a0_5 a0_6 a0_7 l0_8) = some r := by rw [if_neg (show ¬ (false = true) by decide)] at H; exact H
      clear H
      have H := H1
      clear H1
      have H' := Aside0.mk H
      clear H
      have hcz10_0 : w5.cell? ⟨gb330, 0, none⟩ = some (.int .i64 a0_0) := (blk_cell BK330.out 0).trans rfl
      have hcz10_1 : w5.cell? ⟨gb330, 1, none⟩ = some (.int .i64 a0_1) := (blk_cell BK330.out 1).trans rfl
      have hcz10_2 : w5.cell? ⟨gb330, 2, none⟩ = some (.int .i64 a0_2) := (blk_cell BK330.out 2).trans rfl
      have hcz10_3 : w5.cell? ⟨gb330, 3, none⟩ = some (.int .i64 a0_3) := (blk_cell BK330.out 3).trans rfl
      have hcz10_4 : w5.cell? ⟨gb330, 4, none⟩ = some (.string a0_4) := (blk_cell BK330.out 4).trans rfl
      have hcz10_5 : w5.cell? ⟨gb330, 5, none⟩ = some (.int .i64 a0_5) := (blk_cell BK330.out 5).trans rfl
      have hcz10_6 : w5.cell? ⟨gb330, 6, none⟩ = some (.int .i64 a0_6) := (blk_cell BK330.out 6).trans rfl
      have hcz10_7 : w5.cell? ⟨gb330, 7, none⟩ = some (.string a0_7) := (blk_cell BK330.out 7).trans rfl
      have hcz10_8 : w5.cell? ⟨gb330, 8, none⟩ = some (.slice A0_8 l0_8.length c0_8) := (blk_cell BK330.out 8).trans rfl
      have hfz10_0 := blk_frozen BK330.out 0
      have hfz10_1 := blk_frozen BK330.out 1
      have hfz10_2 := blk_frozen BK330.out 2
      have hfz10_3 := blk_frozen BK330.out 3
      have hfz10_4 := blk_frozen BK330.out 4
      have hfz10_5 := blk_frozen BK330.out 5
      have hfz10_6 := blk_frozen BK330.out 6
      have hfz10_7 := blk_frozen BK330.out 7
      have hfz10_8 := blk_frozen BK330.out 8
      go_wp2_with (first | ((with_reducible refine gate_callee (f := 9) rfl ?_); refine goesL_ (some 14) rfl rfl Try.func9 (by kernel_rfl) rfl #[.agg #[.int .i64 a0_0, .int .i64 a0_1, .int .i64 a0_2, .int .i64 a0_3, .string a0_4, .int .i64 a0_5, .int .i64 a0_6, .string a0_7, .slice A0_8 l0_8.length c0_8]] rfl (by (try simp only [List.map_toArray, List.map_cons, List.map_nil]); first | done | rfl | (simp only [List.length_drop, List.length_take]; rfl) | (simp only [ByteArray.size_extract, Nat.min_self]; done) | (simp only [ByteArray.size_extract, Nat.min_self]; rfl)) ?_; (with_reducible refine (vitrinelaw20_few.calls k a0_0 a0_1 a0_2 a0_3 a0_4 a0_5 a0_6 a0_7 _ _ l0_8 false _ ?side1 ?side2 A6.out).mono ?_); (case side1 => repeat (first | exact (Kd.C_below HR0_8.out HB.out) | (with_reducible refine Kd.C_alloc ?_ _) | (with_reducible refine Kd.C_drewN ?_ _) | (with_reducible refine Kd.C_drew ?_))); (case side2 => exact HC0_8.out); rintro e w11 ⟨rfl, hb⟩; refine ⟨_, rfl, ?_⟩; have n0_ := Aside0.mk (blk_below (g := gb330) (o := .cells #[.int .i64 a0_0, .int .i64 a0_1, .int .i64 a0_2, .int .i64 a0_3, .string a0_4, .int .i64 a0_5, .int .i64 a0_6, .string a0_7, .slice A0_8 l0_8.length c0_8] 26 (0, 0)) (by (with_reducible repeat (first | refine blk_drewN ?_ _ | refine blk_drew ?_ | refine blk_alloc ?_ _)); exact BK330.out) hb); have n1_ := Aside0.mk (below_step (by repeat (first | (with_reducible first | exact HB.out | apply below_alloc | apply pw_below_drewN | apply below_drew1 | refine below_set ?_ GE330.out) | exact HB.out)) hb); clear BK330; clear HB; have BK330 := n0_; have HB := n1_; clear n0_ n1_; (try clear hb); (try clear hb2); (try clear hk); (try clear hi)))
      go_meet
      case rel => exact ⟨_, (true), (by first | rfl | (simp; done) | (simp [*]; done)), H', ⟨by first | omega | exact Nat.le_refl _⟩, ⟨by (with_reducible repeat (first | refine blk_drewN ?_ _ | refine blk_drew ?_ | refine blk_alloc ?_ _)); exact BK330.out⟩, ⟨by repeat (first | (with_reducible first | exact HB.out | apply below_alloc | apply pw_below_drewN | apply below_drew1 | refine below_set ?_ GE330.out) | exact HB.out)⟩⟩
  case rest =>
    clear HC4
    try clear p2
    try clear c7
    try clear c9
    try clear hcz10_0
    try clear hcz10_1
    try clear hcz10_2
    try clear hcz10_3
    try clear hcz10_4
    try clear hcz10_5
    try clear hcz10_6
    try clear hcz10_7
    try clear hcz10_8
    try clear hcz8_0
    try clear hcz8_1
    try clear hcz8_2
    try clear hcz8_3
    try clear hcz8_4
    try clear hcz8_5
    try clear hcz8_6
    try clear hcz8_7
    try clear hcz8_8
    try clear hfz10_0
    try clear hfz10_1
    try clear hfz10_2
    try clear hfz10_3
    try clear hfz10_4
    try clear hfz10_5
    try clear hfz10_6
    try clear hfz10_7
    try clear hfz10_8
    try clear hfz8_0
    try clear hfz8_1
    try clear hfz8_2
    try clear hfz8_3
    try clear hfz8_4
    try clear hfz8_5
    try clear hfz8_6
    try clear hfz8_7
    try clear hfz8_8
    obtain ⟨kq, x19_3, rfl, HA, HJ3, BK330, HB⟩ := hcut
    cases kq with
    | zero => exact absurd HA.out (by simp [vitrinelaw20_WireTold.j0])
    | succ kj3 =>
      have H := HA.out
      clear HA
      simp only [vitrinelaw20_WireTold.j0] at H
      by_cases c12 : x19_3 = true
      · subst c12
        have H1 : ((vitrinelaw20_awake.f kj3).bind fun t332 => (some t332)) = some r := by rw [if_pos rfl] at H; exact H
        clear H
        have H := H1
        clear H1
        replace H := Option.bind_eq_some_iff.mp H
        obtain ⟨t332, A130, H⟩ := H
        replace H : (some t332) = some r := H
        have A13 := Aside0.mk A130
        clear A130
        obtain rfl := Option.some.inj H
        go_wp2_with (first | ((with_reducible refine gate_callee (f := 10) rfl ?_); refine goesL_ (some 20) rfl rfl Try.func10 (by kernel_rfl) rfl #[] rfl (by (try simp only [List.map_toArray, List.map_cons, List.map_nil]); first | done | rfl | (simp only [List.length_drop, List.length_take]; rfl) | (simp only [ByteArray.size_extract, Nat.min_self]; done) | (simp only [ByteArray.size_extract, Nat.min_self]; rfl)) ?_; (with_reducible refine (vitrinelaw20_awake.calls kj3  t332 _ A13.out).mono ?_); rintro e w14 ⟨rfl, hb⟩; refine ⟨_, rfl, ?_⟩; have n0_ := Aside0.mk (blk_below (g := gb330) (o := .cells #[.int .i64 a0_0, .int .i64 a0_1, .int .i64 a0_2, .int .i64 a0_3, .string a0_4, .int .i64 a0_5, .int .i64 a0_6, .string a0_7, .slice A0_8 l0_8.length c0_8] 26 (0, 0)) (by (with_reducible repeat (first | refine blk_drewN ?_ _ | refine blk_drew ?_ | refine blk_alloc ?_ _)); exact BK330.out) hb); have n1_ := Aside0.mk (below_step (by repeat (first | (with_reducible first | exact HB.out | apply below_alloc | apply pw_below_drewN | apply below_drew1 | refine below_set ?_ GE330.out) | exact HB.out)) hb); clear BK330; clear HB; have BK330 := n0_; have HB := n1_; clear n0_ n1_; (try clear hb); (try clear hb2); (try clear hk); (try clear hi)))
        go_ret
        exact ⟨by first | rfl | (simp [errW_none, errW_some] <;> rfl) | (simp [*, errW_none, errW_some] <;> rfl), by repeat (first | (with_reducible first | exact HB.out | apply below_alloc | apply pw_below_drewN | apply below_drew1 | refine below_set ?_ GE330.out) | exact HB.out)⟩
      · replace c12 := Bool.eq_false_iff.mpr c12
        subst c12
        have H1 : ((wire_Encode.f kj3 a0_0 a0_1 a0_2 a0_3 a0_4 a0_5 a0_6 a0_7 l0_8).bind fun bt333 => (if bt333.2 = 0 then (if bt333.1.size ≤ 140737488355328 then ((some ((bytesOf bt333.1) : List Int)).bind fun y336 => (if (y336.length : Int) < 4 then (some false) else (if (y336.length : Int) = 0 then (none) else (if 0 ≤ (Int.tmod (wrap64 ((Int.tmod a1 (y336.length : Int)) + (y336.length : Int))) (y336.length : Int)) then (if (Int.tmod (wrap64 ((Int.tmod a1 (y336.length : Int)) + (y336.length : Int))) (y336.length : Int)) < (y336.length : Int) then ((wire_Decode.f kj3 (strOfNums (y336.set ((Int.tmod (wrap64 ((Int.tmod a1 (y336.length : Int)) + (y336.length : Int))) (y336.length : Int)) : Int).toNat (Go.bits .xor .u8 (rd y336 (Int.tmod (wrap64 ((Int.tmod a1 (y336.length : Int)) + (y336.length : Int))) (y336.length : Int))) a2)))).bind fun bt341 => (if bt341.2.2.2.2.2.2.2.2.2 = 17 then ((vitrinelaw20_awake.f kj3).bind fun t354 => (some t354)) else (some false))) else (none)) else (none))))) else (none)) else ((vitrinelaw20_awake.f kj3).bind fun t335 => (some t335)))) = some r := by rw [if_neg (show ¬ (false = true) by decide)] at H; exact H
        clear H
        have H := H1
        clear H1
        replace H := Option.bind_eq_some_iff.mp H
        obtain ⟨⟨t333, t334⟩, A150, H⟩ := H
        replace H : (if t334 = 0 then (if t333.size ≤ 140737488355328 then ((some ((bytesOf t333) : List Int)).bind fun y336 => (if (y336.length : Int) < 4 then (some false) else (if (y336.length : Int) = 0 then (none) else (if 0 ≤ (Int.tmod (wrap64 ((Int.tmod a1 (y336.length : Int)) + (y336.length : Int))) (y336.length : Int)) then (if (Int.tmod (wrap64 ((Int.tmod a1 (y336.length : Int)) + (y336.length : Int))) (y336.length : Int)) < (y336.length : Int) then ((wire_Decode.f kj3 (strOfNums (y336.set ((Int.tmod (wrap64 ((Int.tmod a1 (y336.length : Int)) + (y336.length : Int))) (y336.length : Int)) : Int).toNat (Go.bits .xor .u8 (rd y336 (Int.tmod (wrap64 ((Int.tmod a1 (y336.length : Int)) + (y336.length : Int))) (y336.length : Int))) a2)))).bind fun bt341 => (if bt341.2.2.2.2.2.2.2.2.2 = 17 then ((vitrinelaw20_awake.f kj3).bind fun t354 => (some t354)) else (some false))) else (none)) else (none))))) else (none)) else ((vitrinelaw20_awake.f kj3).bind fun t335 => (some t335))) = some r := H
        have A15 := Aside0.mk A150
        clear A150
        by_cases c16 : t334 = 0
        · rw [if_pos c16] at H
          have c16b0 : (t334 == 0) = true := beq_iff_eq.mpr c16
          have c16b1 : (t334 != 0) = false := bne_eq_false_iff_eq.mpr c16
          clear c16
          by_cases c17 : t333.size ≤ 140737488355328
          · rw [if_pos c17] at H
            have c17b0 := eq_true c17
            have c17b1 : decide (t333.size ≤ 140737488355328) = true := decide_eq_true c17
            clear c17
            obtain ⟨y336, hy336⟩ : ∃ y_ : List Int, y_ = ((bytesOf t333)) := ⟨_, rfl⟩
            replace H : (if (y336.length : Int) < 4 then (some false) else (if (y336.length : Int) = 0 then (none) else (if 0 ≤ (Int.tmod (wrap64 ((Int.tmod a1 (y336.length : Int)) + (y336.length : Int))) (y336.length : Int)) then (if (Int.tmod (wrap64 ((Int.tmod a1 (y336.length : Int)) + (y336.length : Int))) (y336.length : Int)) < (y336.length : Int) then ((wire_Decode.f kj3 (strOfNums (y336.set ((Int.tmod (wrap64 ((Int.tmod a1 (y336.length : Int)) + (y336.length : Int))) (y336.length : Int)) : Int).toNat (Go.bits .xor .u8 (rd y336 (Int.tmod (wrap64 ((Int.tmod a1 (y336.length : Int)) + (y336.length : Int))) (y336.length : Int))) a2)))).bind fun bt341 => (if bt341.2.2.2.2.2.2.2.2.2 = 17 then ((vitrinelaw20_awake.f kj3).bind fun t354 => (some t354)) else (some false))) else (none)) else (none)))) = some r := by first | (rw [hy336]; with_reducible exact H) | (have H2_ := (Option.bind_some _ _).symm.trans H; rw [hy336]; with_reducible exact H2_) | (have H2_ := (Option.bind_some _ _).symm.trans H; with_reducible exact H2_) | with_reducible exact H | (rw [hy336]; exact H) | exact H
            have Ny336 := Aside0.mk hy336
            clear hy336
            by_cases c18 : (y336.length : Int) < 4
            · rw [if_pos c18] at H
              have c18b0 : decide ((y336.length : Int) < 4) = true := decide_eq_true c18
              have c18b1 : decide (y336.length < 4) = true := decide_eq_true (by omega)
              clear c18
              obtain rfl := Option.some.inj H
              have hcz19_0 : wc.cell? ⟨gb330, 0, none⟩ = some (.int .i64 a0_0) := (blk_cell BK330.out 0).trans rfl
              have hcz19_1 : wc.cell? ⟨gb330, 1, none⟩ = some (.int .i64 a0_1) := (blk_cell BK330.out 1).trans rfl
              have hcz19_2 : wc.cell? ⟨gb330, 2, none⟩ = some (.int .i64 a0_2) := (blk_cell BK330.out 2).trans rfl
              have hcz19_3 : wc.cell? ⟨gb330, 3, none⟩ = some (.int .i64 a0_3) := (blk_cell BK330.out 3).trans rfl
              have hcz19_4 : wc.cell? ⟨gb330, 4, none⟩ = some (.string a0_4) := (blk_cell BK330.out 4).trans rfl
              have hcz19_5 : wc.cell? ⟨gb330, 5, none⟩ = some (.int .i64 a0_5) := (blk_cell BK330.out 5).trans rfl
              have hcz19_6 : wc.cell? ⟨gb330, 6, none⟩ = some (.int .i64 a0_6) := (blk_cell BK330.out 6).trans rfl
              have hcz19_7 : wc.cell? ⟨gb330, 7, none⟩ = some (.string a0_7) := (blk_cell BK330.out 7).trans rfl
              have hcz19_8 : wc.cell? ⟨gb330, 8, none⟩ = some (.slice A0_8 l0_8.length c0_8) := (blk_cell BK330.out 8).trans rfl
              have hfz19_0 := blk_frozen BK330.out 0
              have hfz19_1 := blk_frozen BK330.out 1
              have hfz19_2 := blk_frozen BK330.out 2
              have hfz19_3 := blk_frozen BK330.out 3
              have hfz19_4 := blk_frozen BK330.out 4
              have hfz19_5 := blk_frozen BK330.out 5
              have hfz19_6 := blk_frozen BK330.out 6
              have hfz19_7 := blk_frozen BK330.out 7
              have hfz19_8 := blk_frozen BK330.out 8
              go_wp2_with (first | ((with_reducible refine gate_callee (f := 11) rfl ?_); refine goesL_ (some 23) rfl rfl Try.func11 (by kernel_rfl) rfl #[.agg #[.int .i64 a0_0, .int .i64 a0_1, .int .i64 a0_2, .int .i64 a0_3, .string a0_4, .int .i64 a0_5, .int .i64 a0_6, .string a0_7, .slice A0_8 l0_8.length c0_8]] rfl (by (try simp only [List.map_toArray, List.map_cons, List.map_nil]); first | done | rfl | (simp only [List.length_drop, List.length_take]; rfl) | (simp only [ByteArray.size_extract, Nat.min_self]; done) | (simp only [ByteArray.size_extract, Nat.min_self]; rfl)) ?_; (with_reducible refine (wire_Encode.calls kj3 a0_0 a0_1 a0_2 a0_3 a0_4 a0_5 a0_6 a0_7 _ _ l0_8 t333 t334 _ ?side1 ?side2 A15.out).mono ?_); (case side1 => repeat (first | exact (Kd.C_below HR0_8.out HB.out) | (with_reducible refine Kd.C_alloc ?_ _) | (with_reducible refine Kd.C_drewN ?_ _) | (with_reducible refine Kd.C_drew ?_))); (case side2 => exact HC0_8.out); rintro e w20 ⟨rfl, hb⟩; refine ⟨_, rfl, ?_⟩; have n0_ := Aside0.mk (blk_below (g := gb330) (o := .cells #[.int .i64 a0_0, .int .i64 a0_1, .int .i64 a0_2, .int .i64 a0_3, .string a0_4, .int .i64 a0_5, .int .i64 a0_6, .string a0_7, .slice A0_8 l0_8.length c0_8] 26 (0, 0)) (by (with_reducible repeat (first | refine blk_drewN ?_ _ | refine blk_drew ?_ | refine blk_alloc ?_ _)); exact BK330.out) hb); have n1_ := Aside0.mk (below_step (by repeat (first | (with_reducible first | exact HB.out | apply below_alloc | apply pw_below_drewN | apply below_drew1 | refine below_set ?_ GE330.out) | exact HB.out)) hb); clear BK330; clear HB; have BK330 := n0_; have HB := n1_; clear n0_ n1_; (try clear hb); (try clear hb2); (try clear hk); (try clear hi)) | ((with_reducible refine gate_dst (N := 30) rfl ?_); refine Go.Proofs.YtnimhhhbefpifaaM.convE_event (Kd.int .u8) _ rfl (N := 30) rfl _ 9 36 5 rfl Try.underlying9 Try.underlying36 Try.underlying5 t333 rfl (fun _ => True) (Below.refl _ _) (Nat.le_refl _) (Nat.le_trans (of_decide_eq_true (by first | (with_reducible assumption) | assumption) : t333.size ≤ 140737488355328) (by omega)) ?_; intro v337 w21 ho22 hb hg_ hnew_; clear hg_ hnew_; (first | rw [← Ny336.out] at ho22 | (simp only [Int.reduceToNat] at ho22; rw [← Ny336.out] at ho22)); have n0_ := Aside0.mk (Go.Proofs.YtnimhhhbefpifaaM.RE_lower ho22 (below_size (by repeat (first | (with_reducible first | exact HB.out | apply below_alloc | apply pw_below_drewN | apply below_drew1 | refine below_set ?_ GE330.out) | exact HB.out)))); have n1_ := Aside0.mk (blk_below (g := gb330) (o := .cells #[.int .i64 a0_0, .int .i64 a0_1, .int .i64 a0_2, .int .i64 a0_3, .string a0_4, .int .i64 a0_5, .int .i64 a0_6, .string a0_7, .slice A0_8 l0_8.length c0_8] 26 (0, 0)) (by (with_reducible repeat (first | refine blk_drewN ?_ _ | refine blk_drew ?_ | refine blk_alloc ?_ _)); exact BK330.out) hb); have n2_ := Aside0.mk (below_step (by repeat (first | (with_reducible first | exact HB.out | apply below_alloc | apply pw_below_drewN | apply below_drew1 | refine below_set ?_ GE330.out) | exact HB.out)) hb); clear BK330; clear HB; have HO338 := n0_; have BK330 := n1_; have HB := n2_; clear n0_ n1_ n2_; clear hb ho22; obtain ⟨Ao23, co23, eo23⟩ := Go.Proofs.YtnimhhhbefpifaaM.RE_slice HO338.out; subst eo23))
              go_ret
              exact ⟨by first | rfl | (simp [errW_none, errW_some] <;> rfl) | (simp [*, errW_none, errW_some] <;> rfl), by repeat (first | (with_reducible first | exact HB.out | apply below_alloc | apply pw_below_drewN | apply below_drew1 | refine below_set ?_ GE330.out) | exact HB.out)⟩
            · rw [if_neg c18] at H
              have c18b0 : decide ((y336.length : Int) < 4) = false := decide_eq_false c18
              have c18b1 : decide (y336.length < 4) = false := decide_eq_false (by omega)
              clear c18
              by_cases c24 : (y336.length : Int) = 0
              · rw [if_pos c24] at H
                exact absurd H (by simp)
              · rw [if_neg c24] at H
                have c24b0 : ((y336.length : Int) == 0) = false := beq_eq_false_iff_ne.mpr c24
                have c24b1 : ((y336.length : Int) != 0) = true := bne_iff_ne.mpr c24
                have c24b2 : ¬ (y336 = []) := fun h_ => c24 (by rw [h_]; rfl)
                obtain ⟨ji25, hji25⟩ : ∃ j_ : Int, (Int.tmod (wrap64 ((Int.tmod a1 (y336.length : Int)) + (y336.length : Int))) (y336.length : Int)) = j_ := ⟨_, rfl⟩
                replace H : (if 0 ≤ (ji25) then (if (ji25) < (y336.length : Int) then ((wire_Decode.f kj3 (strOfNums (y336.set ((ji25) : Int).toNat (Go.bits .xor .u8 (rd y336 (ji25)) a2)))).bind fun bt341 => (if bt341.2.2.2.2.2.2.2.2.2 = 17 then ((vitrinelaw20_awake.f kj3).bind fun t354 => (some t354)) else (some false))) else (none)) else (none)) = some r := by first | (rw [hji25] at H; exact H) | (simp only [hji25] at H ⊢; exact H)
                (try rw [hji25] at A15)
                by_cases c26 : 0 ≤ (ji25)
                · rw [if_pos c26] at H
                  have c26b0 : decide (0 ≤ (ji25)) = true := decide_eq_true c26
                  clear c26
                  by_cases c27 : (ji25) < (y336.length : Int)
                  · rw [if_pos c27] at H
                    have c27b0 : decide ((ji25) < (y336.length : Int)) = true := decide_eq_true c27
                    clear c27
                    obtain ⟨y340, hy340⟩ : ∃ y_ : List Int, y_ = (y336.set ((ji25) : Int).toNat (Go.bits .xor .u8 (rd y336 (ji25)) a2)) := ⟨_, rfl⟩
                    replace H : ((wire_Decode.f kj3 (strOfNums y340)).bind fun bt341 => (if bt341.2.2.2.2.2.2.2.2.2 = 17 then ((vitrinelaw20_awake.f kj3).bind fun t354 => (some t354)) else (some false))) = some r := by first | (rw [hy340]; with_reducible exact H) | (have H2_ := (Option.bind_some _ _).symm.trans H; rw [hy340]; with_reducible exact H2_) | (have H2_ := (Option.bind_some _ _).symm.trans H; with_reducible exact H2_) | with_reducible exact H | (rw [hy340]; exact H) | exact H
                    have Ny340 := Aside0.mk hy340
                    clear hy340
                    replace H := Option.bind_eq_some_iff.mp H
                    obtain ⟨⟨t341, t342, t343, t344, t345, t346, t347, t348, t349, t352⟩, A290, H⟩ := H
                    replace H : (if t352 = 17 then ((vitrinelaw20_awake.f kj3).bind fun t354 => (some t354)) else (some false)) = some r := H
                    have A29 := Aside0.mk A290
                    clear A290
                    by_cases c30 : t352 = 17
                    · rw [if_pos c30] at H
                      have c30b0 : (t352 == 17) = true := beq_iff_eq.mpr c30
                      have c30b1 : (t352 != 17) = false := bne_eq_false_iff_eq.mpr c30
                      clear c30
                      replace H := Option.bind_eq_some_iff.mp H
                      obtain ⟨t354, A310, H⟩ := H
                      replace H : (some t354) = some r := H
                      have A31 := Aside0.mk A310
                      clear A310
                      obtain rfl := Option.some.inj H
                      have hcz32_0 : wc.cell? ⟨gb330, 0, none⟩ = some (.int .i64 a0_0) := (blk_cell BK330.out 0).trans rfl
                      have hcz32_1 : wc.cell? ⟨gb330, 1, none⟩ = some (.int .i64 a0_1) := (blk_cell BK330.out 1).trans rfl
                      have hcz32_2 : wc.cell? ⟨gb330, 2, none⟩ = some (.int .i64 a0_2) := (blk_cell BK330.out 2).trans rfl
                      have hcz32_3 : wc.cell? ⟨gb330, 3, none⟩ = some (.int .i64 a0_3) := (blk_cell BK330.out 3).trans rfl
                      have hcz32_4 : wc.cell? ⟨gb330, 4, none⟩ = some (.string a0_4) := (blk_cell BK330.out 4).trans rfl
                      have hcz32_5 : wc.cell? ⟨gb330, 5, none⟩ = some (.int .i64 a0_5) := (blk_cell BK330.out 5).trans rfl
                      have hcz32_6 : wc.cell? ⟨gb330, 6, none⟩ = some (.int .i64 a0_6) := (blk_cell BK330.out 6).trans rfl
                      have hcz32_7 : wc.cell? ⟨gb330, 7, none⟩ = some (.string a0_7) := (blk_cell BK330.out 7).trans rfl
                      have hcz32_8 : wc.cell? ⟨gb330, 8, none⟩ = some (.slice A0_8 l0_8.length c0_8) := (blk_cell BK330.out 8).trans rfl
                      have hfz32_0 := blk_frozen BK330.out 0
                      have hfz32_1 := blk_frozen BK330.out 1
                      have hfz32_2 := blk_frozen BK330.out 2
                      have hfz32_3 := blk_frozen BK330.out 3
                      have hfz32_4 := blk_frozen BK330.out 4
                      have hfz32_5 := blk_frozen BK330.out 5
                      have hfz32_6 := blk_frozen BK330.out 6
                      have hfz32_7 := blk_frozen BK330.out 7
                      have hfz32_8 := blk_frozen BK330.out 8
                      go_wp2_with (first | ((with_reducible refine gate_callee (f := 11) rfl ?_); refine goesL_ (some 23) rfl rfl Try.func11 (by kernel_rfl) rfl #[.agg #[.int .i64 a0_0, .int .i64 a0_1, .int .i64 a0_2, .int .i64 a0_3, .string a0_4, .int .i64 a0_5, .int .i64 a0_6, .string a0_7, .slice A0_8 l0_8.length c0_8]] rfl (by (try simp only [List.map_toArray, List.map_cons, List.map_nil]); first | done | rfl | (simp only [List.length_drop, List.length_take]; rfl) | (simp only [ByteArray.size_extract, Nat.min_self]; done) | (simp only [ByteArray.size_extract, Nat.min_self]; rfl)) ?_; (with_reducible refine (wire_Encode.calls kj3 a0_0 a0_1 a0_2 a0_3 a0_4 a0_5 a0_6 a0_7 _ _ l0_8 t333 t334 _ ?side1 ?side2 A15.out).mono ?_); (case side1 => repeat (first | exact (Kd.C_below HR0_8.out HB.out) | (with_reducible refine Kd.C_alloc ?_ _) | (with_reducible refine Kd.C_drewN ?_ _) | (with_reducible refine Kd.C_drew ?_))); (case side2 => exact HC0_8.out); rintro e w33 ⟨rfl, hb⟩; refine ⟨_, rfl, ?_⟩; have n0_ := Aside0.mk (blk_below (g := gb330) (o := .cells #[.int .i64 a0_0, .int .i64 a0_1, .int .i64 a0_2, .int .i64 a0_3, .string a0_4, .int .i64 a0_5, .int .i64 a0_6, .string a0_7, .slice A0_8 l0_8.length c0_8] 26 (0, 0)) (by (with_reducible repeat (first | refine blk_drewN ?_ _ | refine blk_drew ?_ | refine blk_alloc ?_ _)); exact BK330.out) hb); have n1_ := Aside0.mk (below_step (by repeat (first | (with_reducible first | exact HB.out | apply below_alloc | apply pw_below_drewN | apply below_drew1 | refine below_set ?_ GE330.out) | exact HB.out)) hb); clear BK330; clear HB; have BK330 := n0_; have HB := n1_; clear n0_ n1_; (try clear hb); (try clear hb2); (try clear hk); (try clear hi)) | ((with_reducible refine gate_dst (N := 30) rfl ?_); refine Go.Proofs.YtnimhhhbefpifaaM.convE_event (Kd.int .u8) _ rfl (N := 30) rfl _ 9 36 5 rfl Try.underlying9 Try.underlying36 Try.underlying5 t333 rfl (fun _ => True) (Below.refl _ _) (Nat.le_refl _) (Nat.le_trans (of_decide_eq_true (by first | (with_reducible assumption) | assumption) : t333.size ≤ 140737488355328) (by omega)) ?_; intro v337 w34 ho35 hb hg_ hnew_; clear hg_ hnew_; (first | rw [← Ny336.out] at ho35 | (simp only [Int.reduceToNat] at ho35; rw [← Ny336.out] at ho35)); have n0_ := Aside0.mk (Go.Proofs.YtnimhhhbefpifaaM.RE_lower ho35 (below_size (by repeat (first | (with_reducible first | exact HB.out | apply below_alloc | apply pw_below_drewN | apply below_drew1 | refine below_set ?_ GE330.out) | exact HB.out)))); have n1_ := Aside0.mk (blk_below (g := gb330) (o := .cells #[.int .i64 a0_0, .int .i64 a0_1, .int .i64 a0_2, .int .i64 a0_3, .string a0_4, .int .i64 a0_5, .int .i64 a0_6, .string a0_7, .slice A0_8 l0_8.length c0_8] 26 (0, 0)) (by (with_reducible repeat (first | refine blk_drewN ?_ _ | refine blk_drew ?_ | refine blk_alloc ?_ _)); exact BK330.out) hb); have n2_ := Aside0.mk (below_step (by repeat (first | (with_reducible first | exact HB.out | apply below_alloc | apply pw_below_drewN | apply below_drew1 | refine below_set ?_ GE330.out) | exact HB.out)) hb); clear BK330; clear HB; have HO338 := n0_; have BK330 := n1_; have HB := n2_; clear n0_ n1_ n2_; clear hb ho35; obtain ⟨Ao36, co36, eo36⟩ := Go.Proofs.YtnimhhhbefpifaaM.RE_slice HO338.out; subst eo36; have p339 : 0 ≤ ((ji25) : Int) := of_decide_eq_true (by first | (with_reducible assumption) | assumption); have q339 : (ji25) < (y336.length : Int) := of_decide_eq_true (by first | (with_reducible assumption) | assumption); obtain ⟨ad339, e339, hx339_0⟩ := Kd.at_int (Go.Proofs.YtnimhhhbefpifaaM.RE_reads' HO338.out).2.2 (ji25) p339 q339; cases e339; replace p339 := eq_true p339; replace q339 := eq_true q339; have p28 : 0 ≤ ((ji25) : Int) := of_decide_eq_true (by first | (with_reducible assumption) | assumption); have q28 : ((ji25) : Int) < ((y336.length : Int) : Int) := of_decide_eq_true (by first | (with_reducible assumption) | assumption); obtain ⟨go28, co28, eo28, gb28, gl28, cl28, HG28⟩ := Go.Proofs.YtnimhhhbefpifaaM.RE_form HO338.out (by omega); (first | cases eo28 | (injection eo28 with ea_ en_ ec_; (first | subst ea_ | (injection ea_ with ea_; subst ea_)); subst ec_; clear en_)); have GB28 := Aside0.mk gb28; have GG28 := Aside0.mk HG28; clear gb28 gl28 HG28; (first | simp only [add_plain] at hx339_0 | skip); obtain ⟨hx28_0, hf28_0⟩ := Go.Proofs.YtnimhhhbefpifaaM.RE_celln 0 HO338.out ((ji25) : Int) p28 q28; replace p28 := eq_true p28; replace q28 := eq_true q28; obtain ⟨hy37_, hz37_⟩ := Go.Proofs.YtnimhhhbefpifaaM.RE_celln 0 HO338.out ((ji25) : Int) (of_decide_eq_true (by first | (with_reducible assumption) | assumption)) (of_decide_eq_true (by first | (with_reducible assumption) | assumption)); have HP37 := Go.Proofs.YtnimhhhbefpifaaM.RE_putg HO338.out ((ji25) : Int) (Go.bits .xor .u8 (rd y336 (ji25)) a2)) | ((with_reducible refine gate_store (t := 5) (p := 52) rfl ?_); refine store_event (t := 5) (p := 52) (v := ?vo_w38) (w1 := (w34.setCell ⟨go28, ((ji25) : Int).toNat, none⟩ (.int .u8 (Go.bits .xor .u8 (rd y336 (ji25)) a2)))) ?hg ?ho ?hn ?hr ?_; (case ho => rfl); (case hg => rfl); (case hn => rfl); (case hr => first | (go_simp; done) | (go_simp; rfl)); intro w38 hw; have hg : w34.grownBy w38 (some go28) := (by rw [hw]; exact HP37.2); have hp_ : Go.Proofs.YtnimhhhbefpifaaM.RE (Kd.int .u8) 5 w38 w.heap.size (fun _ => True) (.slice (some ⟨go28, 0, none⟩) y336.length co36) y340 := (by rw [hw, Ny340.out]; exact HP37.1); clear HP37; have n0_ := Aside0.mk (blk_grown (g := gb330) (o := .cells #[.int .i64 a0_0, .int .i64 a0_1, .int .i64 a0_2, .int .i64 a0_3, .string a0_4, .int .i64 a0_5, .int .i64 a0_6, .string a0_7, .slice A0_8 l0_8.length c0_8] 26 (0, 0)) (by (with_reducible repeat (first | refine blk_drewN ?_ _ | refine blk_drew ?_ | refine blk_alloc ?_ _)); exact BK330.out) hg (Go.Proofs.YtnimhhhbefpifaaM.RE_ne HO338.out BK330.out (by decide))); have n1_ := Aside0.mk (hp_); have n2_ := Aside0.mk ((by rw [hw]; exact below_set (HB.out) GB28.out : Below w.heap.size w w38)); clear BK330; clear HO338; clear HB; have BK330 := n0_; have HO338 := n1_; have HB := n2_; clear n0_ n1_ n2_; clear hg hw hp_; have hcv39 := Go.Proofs.YtnimhhhbefpifaaM.RE_string (P := Try.prog) Try.underlying36 Try.underlying5 Try.underlying9 HO338.out) | ((with_reducible refine gate_callee (f := 15) rfl ?_); refine goesL_ (some 56) rfl rfl Try.func15 (by kernel_rfl) rfl #[.string (strOfNums y340)] rfl (by (try simp only [List.map_toArray, List.map_cons, List.map_nil]); first | done | rfl | (simp only [List.length_drop, List.length_take]; rfl) | (simp only [ByteArray.size_extract, Nat.min_self]; done) | (simp only [ByteArray.size_extract, Nat.min_self]; rfl)) ?_; (with_reducible refine (wire_Decode.calls kj3 (strOfNums y340) t341 t342 t343 t344 t345 t346 t347 t348 t349 t352 _ A29.out).mono ?_); rintro e w40 ⟨v350, rfl, ho0, hb⟩; refine ⟨_, rfl, ?_⟩; have n0_ := Aside0.mk (Go.Proofs.YtnimhhhbefpifaaM.RE_below (by (with_reducible repeat (first | apply Go.Proofs.YtnimhhhbefpifaaM.RE_alloc | apply Go.Proofs.YtnimhhhbefpifaaM.RE_drewN | apply Go.Proofs.YtnimhhhbefpifaaM.RE_drew)); exact HO338.out) hb); have n1_ := Aside0.mk (Kd.R_lower ho0 (below_size (by repeat (first | (with_reducible first | exact HB.out | apply below_alloc | apply pw_below_drewN | apply below_drew1 | refine below_set ?_ GE330.out) | exact HB.out)))); have n2_ := Aside0.mk (blk_below (g := gb330) (o := .cells #[.int .i64 a0_0, .int .i64 a0_1, .int .i64 a0_2, .int .i64 a0_3, .string a0_4, .int .i64 a0_5, .int .i64 a0_6, .string a0_7, .slice A0_8 l0_8.length c0_8] 26 (0, 0)) (by (with_reducible repeat (first | refine blk_drewN ?_ _ | refine blk_drew ?_ | refine blk_alloc ?_ _)); exact BK330.out) hb); have n3_ := Aside0.mk (below_step (by repeat (first | (with_reducible first | exact HB.out | apply below_alloc | apply pw_below_drewN | apply below_drew1 | refine below_set ?_ GE330.out) | exact HB.out)) hb); clear HO338; clear BK330; clear HB; have HO338 := n0_; have HO351 := n1_; have BK330 := n2_; have HB := n3_; clear n0_ n1_ n2_ n3_; (try clear hb); (try clear hb2); (try clear hk); (try clear hi); (try clear ho0)) | ((with_reducible refine gate_dst (N := 11) rfl ?_); refine box_event ?hg (N := 11) ?hd (cs := #[.int .i64 0, .int .i64 0, .int .i64 0, .int .i64 0, .string (⟨#[]⟩ : ByteArray), .int .i64 0, .int .i64 0, .string (⟨#[]⟩ : ByteArray), .slice none 0 0]) (t := 26) ?hr ?_; (case hd => rfl); (case hg => rfl); (case hr => first | (go_simp; done) | (go_simp; rfl)); intro gb353 hg w41 hbox hb; have n0_ := Aside0.mk (Go.Proofs.YtnimhhhbefpifaaM.RE_below (by (with_reducible repeat (first | apply Go.Proofs.YtnimhhhbefpifaaM.RE_alloc | apply Go.Proofs.YtnimhhhbefpifaaM.RE_drewN | apply Go.Proofs.YtnimhhhbefpifaaM.RE_drew)); exact HO338.out) hb); have n1_ := Aside0.mk (Kd.R_below (by (with_reducible repeat (first | apply Kd.R_alloc | apply Kd.R_drewN | apply Kd.R_drew)); exact HO351.out) hb); have n2_ := Aside0.mk (blk_below (g := gb330) (o := .cells #[.int .i64 a0_0, .int .i64 a0_1, .int .i64 a0_2, .int .i64 a0_3, .string a0_4, .int .i64 a0_5, .int .i64 a0_6, .string a0_7, .slice A0_8 l0_8.length c0_8] 26 (0, 0)) (by (with_reducible repeat (first | refine blk_drewN ?_ _ | refine blk_drew ?_ | refine blk_alloc ?_ _)); exact BK330.out) hb); have n3_ := Aside0.mk (below_step (by repeat (first | (with_reducible first | exact HB.out | apply below_alloc | apply pw_below_drewN | apply below_drew1 | refine below_set ?_ GE330.out) | exact HB.out)) hb); have n4_ := Aside0.mk (hbox); have n5_ := Aside0.mk ((by rw [hg]; exact (below_size (by repeat (first | (with_reducible first | exact HB.out | apply below_alloc | apply pw_below_drewN | apply below_drew1 | refine below_set ?_ GE330.out) | exact HB.out))) : w.heap.size ≤ gb353)); have n6_ := Aside0.mk ((by rw [hg]; exact (below_size (by repeat (first | (with_reducible first | exact HB.out | apply below_alloc | apply pw_below_drewN | apply below_drew1 | refine below_set ?_ GE330.out) | exact HB.out))) : w.heap.size ≤ gb353)); have n7_ := Aside0.mk ((by rw [hg]; exact Nat.ne_of_lt (blk_lt (g := gb330) (o := .cells #[.int .i64 a0_0, .int .i64 a0_1, .int .i64 a0_2, .int .i64 a0_3, .string a0_4, .int .i64 a0_5, .int .i64 a0_6, .string a0_7, .slice A0_8 l0_8.length c0_8] 26 (0, 0)) (by (with_reducible repeat (first | refine blk_drewN ?_ _ | refine blk_drew ?_ | refine blk_alloc ?_ _)); exact BK330.out)) : gb330 ≠ gb353)); have n8_ := Aside0.mk ((by rw [hg]; exact Nat.ne_of_gt (blk_lt (g := gb330) (o := .cells #[.int .i64 a0_0, .int .i64 a0_1, .int .i64 a0_2, .int .i64 a0_3, .string a0_4, .int .i64 a0_5, .int .i64 a0_6, .string a0_7, .slice A0_8 l0_8.length c0_8] 26 (0, 0)) (by (with_reducible repeat (first | refine blk_drewN ?_ _ | refine blk_drew ?_ | refine blk_alloc ?_ _)); exact BK330.out)) : gb353 ≠ gb330)); clear HO338; clear HO351; clear BK330; clear HB; have HO338 := n0_; have HO351 := n1_; have BK330 := n2_; have HB := n3_; have BK353 := n4_; have GW353 := n5_; have GE353 := n6_; have NB330_353 := n7_; have NB353_330 := n8_; clear n0_ n1_ n2_ n3_ n4_ n5_ n6_ n7_ n8_; clear hb hbox hg; have hnb42 := NB353_330.out; have hnc42 := NB330_353.out; have hcz43_0 : w41.cell? ⟨gb353, 0, none⟩ = some (.int .i64 0) := (blk_cell BK353.out 0).trans rfl; have hcz43_1 : w41.cell? ⟨gb353, 1, none⟩ = some (.int .i64 0) := (blk_cell BK353.out 1).trans rfl; have hcz43_2 : w41.cell? ⟨gb353, 2, none⟩ = some (.int .i64 0) := (blk_cell BK353.out 2).trans rfl; have hcz43_3 : w41.cell? ⟨gb353, 3, none⟩ = some (.int .i64 0) := (blk_cell BK353.out 3).trans rfl; have hcz43_4 : w41.cell? ⟨gb353, 4, none⟩ = some (.string (⟨#[]⟩ : ByteArray)) := (blk_cell BK353.out 4).trans rfl; have hcz43_5 : w41.cell? ⟨gb353, 5, none⟩ = some (.int .i64 0) := (blk_cell BK353.out 5).trans rfl; have hcz43_6 : w41.cell? ⟨gb353, 6, none⟩ = some (.int .i64 0) := (blk_cell BK353.out 6).trans rfl; have hcz43_7 : w41.cell? ⟨gb353, 7, none⟩ = some (.string (⟨#[]⟩ : ByteArray)) := (blk_cell BK353.out 7).trans rfl; have hcz43_8 : w41.cell? ⟨gb353, 8, none⟩ = some (.slice none 0 0) := (blk_cell BK353.out 8).trans rfl; have hfz43_0 := blk_frozen BK353.out 0; have hfz43_1 := blk_frozen BK353.out 1; have hfz43_2 := blk_frozen BK353.out 2; have hfz43_3 := blk_frozen BK353.out 3; have hfz43_4 := blk_frozen BK353.out 4; have hfz43_5 := blk_frozen BK353.out 5; have hfz43_6 := blk_frozen BK353.out 6; have hfz43_7 := blk_frozen BK353.out 7; have hfz43_8 := blk_frozen BK353.out 8; obtain ⟨Ao44, co44, eo44⟩ := Kd.R_slice HO351.out; subst eo44) | (go_at_call 10; (with_reducible refine (vitrinelaw20_awake.calls kj3  t354 _ A31.out).mono ?_); rintro e w45 ⟨rfl, hb⟩; have n0_ := Aside0.mk (Go.Proofs.YtnimhhhbefpifaaM.RE_below (by (with_reducible repeat (first | apply Go.Proofs.YtnimhhhbefpifaaM.RE_alloc | apply Go.Proofs.YtnimhhhbefpifaaM.RE_drewN | apply Go.Proofs.YtnimhhhbefpifaaM.RE_drew)); exact (Go.Proofs.YtnimhhhbefpifaaM.RE_far (p := ⟨gb353, 8, none⟩) (Go.Proofs.YtnimhhhbefpifaaM.RE_far (p := ⟨gb353, 7, none⟩) (Go.Proofs.YtnimhhhbefpifaaM.RE_far (p := ⟨gb353, 6, none⟩) (Go.Proofs.YtnimhhhbefpifaaM.RE_far (p := ⟨gb353, 5, none⟩) (Go.Proofs.YtnimhhhbefpifaaM.RE_far (p := ⟨gb353, 4, none⟩) (Go.Proofs.YtnimhhhbefpifaaM.RE_far (p := ⟨gb353, 3, none⟩) (Go.Proofs.YtnimhhhbefpifaaM.RE_far (p := ⟨gb353, 2, none⟩) (Go.Proofs.YtnimhhhbefpifaaM.RE_far (p := ⟨gb353, 1, none⟩) (Go.Proofs.YtnimhhhbefpifaaM.RE_far (p := ⟨gb353, 0, none⟩) HO338.out (Go.Proofs.YtnimhhhbefpifaaM.RE_ne HO338.out BK353.out (by decide)) (.int .i64 t341)) (Go.Proofs.YtnimhhhbefpifaaM.RE_ne HO338.out BK353.out (by decide)) (.int .i64 t342)) (Go.Proofs.YtnimhhhbefpifaaM.RE_ne HO338.out BK353.out (by decide)) (.int .i64 t343)) (Go.Proofs.YtnimhhhbefpifaaM.RE_ne HO338.out BK353.out (by decide)) (.int .i64 t344)) (Go.Proofs.YtnimhhhbefpifaaM.RE_ne HO338.out BK353.out (by decide)) (.string t345)) (Go.Proofs.YtnimhhhbefpifaaM.RE_ne HO338.out BK353.out (by decide)) (.int .i64 t346)) (Go.Proofs.YtnimhhhbefpifaaM.RE_ne HO338.out BK353.out (by decide)) (.int .i64 t347)) (Go.Proofs.YtnimhhhbefpifaaM.RE_ne HO338.out BK353.out (by decide)) (.string t348)) (Go.Proofs.YtnimhhhbefpifaaM.RE_ne HO338.out BK353.out (by decide)) (.slice Ao44 t349.length co44))) hb); have n1_ := Aside0.mk (Kd.R_below (by (with_reducible repeat (first | apply Kd.R_alloc | apply Kd.R_drewN | apply Kd.R_drew)); exact (Kd.R_mono (Kd.R_far (p := ⟨gb353, 8, none⟩) (Kd.R_far (p := ⟨gb353, 7, none⟩) (Kd.R_far (p := ⟨gb353, 6, none⟩) (Kd.R_far (p := ⟨gb353, 5, none⟩) (Kd.R_far (p := ⟨gb353, 4, none⟩) (Kd.R_far (p := ⟨gb353, 3, none⟩) (Kd.R_far (p := ⟨gb353, 2, none⟩) (Kd.R_far (p := ⟨gb353, 1, none⟩) (Kd.R_far (p := ⟨gb353, 0, none⟩) (Kd.R_types HO351.out BK353.out (by decide)) (fun _ hk => hk.2) (.int .i64 t341)) (fun _ hk => hk.2) (.int .i64 t342)) (fun _ hk => hk.2) (.int .i64 t343)) (fun _ hk => hk.2) (.int .i64 t344)) (fun _ hk => hk.2) (.string t345)) (fun _ hk => hk.2) (.int .i64 t346)) (fun _ hk => hk.2) (.int .i64 t347)) (fun _ hk => hk.2) (.string t348)) (fun _ hk => hk.2) (.slice Ao44 t349.length co44)) (fun _ h_ => h_.1))) hb); have n2_ := Aside0.mk (blk_below (g := gb330) (o := .cells #[.int .i64 a0_0, .int .i64 a0_1, .int .i64 a0_2, .int .i64 a0_3, .string a0_4, .int .i64 a0_5, .int .i64 a0_6, .string a0_7, .slice A0_8 l0_8.length c0_8] 26 (0, 0)) (by (with_reducible repeat (first | refine blk_drewN ?_ _ | refine blk_drew ?_ | refine blk_alloc ?_ _)); refine blk_far ?_ NB330_353.out _; (with_reducible repeat (first | refine blk_drewN ?_ _ | refine blk_drew ?_ | refine blk_alloc ?_ _)); refine blk_far ?_ NB330_353.out _; (with_reducible repeat (first | refine blk_drewN ?_ _ | refine blk_drew ?_ | refine blk_alloc ?_ _)); refine blk_far ?_ NB330_353.out _; (with_reducible repeat (first | refine blk_drewN ?_ _ | refine blk_drew ?_ | refine blk_alloc ?_ _)); refine blk_far ?_ NB330_353.out _; (with_reducible repeat (first | refine blk_drewN ?_ _ | refine blk_drew ?_ | refine blk_alloc ?_ _)); refine blk_far ?_ NB330_353.out _; (with_reducible repeat (first | refine blk_drewN ?_ _ | refine blk_drew ?_ | refine blk_alloc ?_ _)); refine blk_far ?_ NB330_353.out _; (with_reducible repeat (first | refine blk_drewN ?_ _ | refine blk_drew ?_ | refine blk_alloc ?_ _)); refine blk_far ?_ NB330_353.out _; (with_reducible repeat (first | refine blk_drewN ?_ _ | refine blk_drew ?_ | refine blk_alloc ?_ _)); refine blk_far ?_ NB330_353.out _; (with_reducible repeat (first | refine blk_drewN ?_ _ | refine blk_drew ?_ | refine blk_alloc ?_ _)); refine blk_far ?_ NB330_353.out _; (with_reducible repeat (first | refine blk_drewN ?_ _ | refine blk_drew ?_ | refine blk_alloc ?_ _)); exact BK330.out) hb); have n3_ := Aside0.mk (blk_below (g := gb353) (o := .cells #[.int .i64 t341, .int .i64 t342, .int .i64 t343, .int .i64 t344, .string t345, .int .i64 t346, .int .i64 t347, .string t348, .slice Ao44 t349.length co44] 26 (0, 0)) (by (with_reducible repeat (first | refine blk_drewN ?_ _ | refine blk_drew ?_ | refine blk_alloc ?_ _)); refine blk_put (cs := #[.int .i64 t341, .int .i64 t342, .int .i64 t343, .int .i64 t344, .string t345, .int .i64 t346, .int .i64 t347, .string t348, .slice none 0 0]) ?_ 8 _ rfl; (with_reducible repeat (first | refine blk_drewN ?_ _ | refine blk_drew ?_ | refine blk_alloc ?_ _)); refine blk_put (cs := #[.int .i64 t341, .int .i64 t342, .int .i64 t343, .int .i64 t344, .string t345, .int .i64 t346, .int .i64 t347, .string (⟨#[]⟩ : ByteArray), .slice none 0 0]) ?_ 7 _ rfl; (with_reducible repeat (first | refine blk_drewN ?_ _ | refine blk_drew ?_ | refine blk_alloc ?_ _)); refine blk_put (cs := #[.int .i64 t341, .int .i64 t342, .int .i64 t343, .int .i64 t344, .string t345, .int .i64 t346, .int .i64 0, .string (⟨#[]⟩ : ByteArray), .slice none 0 0]) ?_ 6 _ rfl; (with_reducible repeat (first | refine blk_drewN ?_ _ | refine blk_drew ?_ | refine blk_alloc ?_ _)); refine blk_put (cs := #[.int .i64 t341, .int .i64 t342, .int .i64 t343, .int .i64 t344, .string t345, .int .i64 0, .int .i64 0, .string (⟨#[]⟩ : ByteArray), .slice none 0 0]) ?_ 5 _ rfl; (with_reducible repeat (first | refine blk_drewN ?_ _ | refine blk_drew ?_ | refine blk_alloc ?_ _)); refine blk_put (cs := #[.int .i64 t341, .int .i64 t342, .int .i64 t343, .int .i64 t344, .string (⟨#[]⟩ : ByteArray), .int .i64 0, .int .i64 0, .string (⟨#[]⟩ : ByteArray), .slice none 0 0]) ?_ 4 _ rfl; (with_reducible repeat (first | refine blk_drewN ?_ _ | refine blk_drew ?_ | refine blk_alloc ?_ _)); refine blk_put (cs := #[.int .i64 t341, .int .i64 t342, .int .i64 t343, .int .i64 0, .string (⟨#[]⟩ : ByteArray), .int .i64 0, .int .i64 0, .string (⟨#[]⟩ : ByteArray), .slice none 0 0]) ?_ 3 _ rfl; (with_reducible repeat (first | refine blk_drewN ?_ _ | refine blk_drew ?_ | refine blk_alloc ?_ _)); refine blk_put (cs := #[.int .i64 t341, .int .i64 t342, .int .i64 0, .int .i64 0, .string (⟨#[]⟩ : ByteArray), .int .i64 0, .int .i64 0, .string (⟨#[]⟩ : ByteArray), .slice none 0 0]) ?_ 2 _ rfl; (with_reducible repeat (first | refine blk_drewN ?_ _ | refine blk_drew ?_ | refine blk_alloc ?_ _)); refine blk_put (cs := #[.int .i64 t341, .int .i64 0, .int .i64 0, .int .i64 0, .string (⟨#[]⟩ : ByteArray), .int .i64 0, .int .i64 0, .string (⟨#[]⟩ : ByteArray), .slice none 0 0]) ?_ 1 _ rfl; (with_reducible repeat (first | refine blk_drewN ?_ _ | refine blk_drew ?_ | refine blk_alloc ?_ _)); refine blk_put (cs := #[.int .i64 0, .int .i64 0, .int .i64 0, .int .i64 0, .string (⟨#[]⟩ : ByteArray), .int .i64 0, .int .i64 0, .string (⟨#[]⟩ : ByteArray), .slice none 0 0]) ?_ 0 _ rfl; (with_reducible repeat (first | refine blk_drewN ?_ _ | refine blk_drew ?_ | refine blk_alloc ?_ _)); exact BK353.out) hb); have n4_ := Aside0.mk (below_step (by repeat (first | (with_reducible first | exact HB.out | apply below_alloc | apply pw_below_drewN | apply below_drew1 | refine below_set ?_ GE330.out | refine below_set ?_ GE353.out) | exact HB.out)) hb); clear HO338; clear HO351; clear BK330; clear BK353; clear HB; have HO338 := n0_; have HO351 := n1_; have BK330 := n2_; have BK353 := n3_; have HB := n4_; clear n0_ n1_ n2_ n3_ n4_; (try clear hb); (try clear hb2); (try clear hk); (try clear hi)))
                      go_ret
                      exact ⟨by first | rfl | (simp [errW_none, errW_some] <;> rfl) | (simp only [← hji25]; first | rfl | (simp [errW_none, errW_some] <;> rfl)) | (simp [*, errW_none, errW_some] <;> rfl), by repeat (first | (with_reducible first | exact HB.out | apply below_alloc | apply pw_below_drewN | apply below_drew1 | refine below_set ?_ GE330.out | refine below_set ?_ GE353.out) | exact HB.out)⟩
                    · rw [if_neg c30] at H
                      have c30b0 : (t352 == 17) = false := beq_eq_false_iff_ne.mpr c30
                      have c30b1 : (t352 != 17) = true := bne_iff_ne.mpr c30
                      obtain rfl := Option.some.inj H
                      have hcz46_0 : wc.cell? ⟨gb330, 0, none⟩ = some (.int .i64 a0_0) := (blk_cell BK330.out 0).trans rfl
                      have hcz46_1 : wc.cell? ⟨gb330, 1, none⟩ = some (.int .i64 a0_1) := (blk_cell BK330.out 1).trans rfl
                      have hcz46_2 : wc.cell? ⟨gb330, 2, none⟩ = some (.int .i64 a0_2) := (blk_cell BK330.out 2).trans rfl
                      have hcz46_3 : wc.cell? ⟨gb330, 3, none⟩ = some (.int .i64 a0_3) := (blk_cell BK330.out 3).trans rfl
                      have hcz46_4 : wc.cell? ⟨gb330, 4, none⟩ = some (.string a0_4) := (blk_cell BK330.out 4).trans rfl
                      have hcz46_5 : wc.cell? ⟨gb330, 5, none⟩ = some (.int .i64 a0_5) := (blk_cell BK330.out 5).trans rfl
                      have hcz46_6 : wc.cell? ⟨gb330, 6, none⟩ = some (.int .i64 a0_6) := (blk_cell BK330.out 6).trans rfl
                      have hcz46_7 : wc.cell? ⟨gb330, 7, none⟩ = some (.string a0_7) := (blk_cell BK330.out 7).trans rfl
                      have hcz46_8 : wc.cell? ⟨gb330, 8, none⟩ = some (.slice A0_8 l0_8.length c0_8) := (blk_cell BK330.out 8).trans rfl
                      have hfz46_0 := blk_frozen BK330.out 0
                      have hfz46_1 := blk_frozen BK330.out 1
                      have hfz46_2 := blk_frozen BK330.out 2
                      have hfz46_3 := blk_frozen BK330.out 3
                      have hfz46_4 := blk_frozen BK330.out 4
                      have hfz46_5 := blk_frozen BK330.out 5
                      have hfz46_6 := blk_frozen BK330.out 6
                      have hfz46_7 := blk_frozen BK330.out 7
                      have hfz46_8 := blk_frozen BK330.out 8
                      go_wp2_with (first | ((with_reducible refine gate_callee (f := 11) rfl ?_); refine goesL_ (some 23) rfl rfl Try.func11 (by kernel_rfl) rfl #[.agg #[.int .i64 a0_0, .int .i64 a0_1, .int .i64 a0_2, .int .i64 a0_3, .string a0_4, .int .i64 a0_5, .int .i64 a0_6, .string a0_7, .slice A0_8 l0_8.length c0_8]] rfl (by (try simp only [List.map_toArray, List.map_cons, List.map_nil]); first | done | rfl | (simp only [List.length_drop, List.length_take]; rfl) | (simp only [ByteArray.size_extract, Nat.min_self]; done) | (simp only [ByteArray.size_extract, Nat.min_self]; rfl)) ?_; (with_reducible refine (wire_Encode.calls kj3 a0_0 a0_1 a0_2 a0_3 a0_4 a0_5 a0_6 a0_7 _ _ l0_8 t333 t334 _ ?side1 ?side2 A15.out).mono ?_); (case side1 => repeat (first | exact (Kd.C_below HR0_8.out HB.out) | (with_reducible refine Kd.C_alloc ?_ _) | (with_reducible refine Kd.C_drewN ?_ _) | (with_reducible refine Kd.C_drew ?_))); (case side2 => exact HC0_8.out); rintro e w47 ⟨rfl, hb⟩; refine ⟨_, rfl, ?_⟩; have n0_ := Aside0.mk (blk_below (g := gb330) (o := .cells #[.int .i64 a0_0, .int .i64 a0_1, .int .i64 a0_2, .int .i64 a0_3, .string a0_4, .int .i64 a0_5, .int .i64 a0_6, .string a0_7, .slice A0_8 l0_8.length c0_8] 26 (0, 0)) (by (with_reducible repeat (first | refine blk_drewN ?_ _ | refine blk_drew ?_ | refine blk_alloc ?_ _)); exact BK330.out) hb); have n1_ := Aside0.mk (below_step (by repeat (first | (with_reducible first | exact HB.out | apply below_alloc | apply pw_below_drewN | apply below_drew1 | refine below_set ?_ GE330.out) | exact HB.out)) hb); clear BK330; clear HB; have BK330 := n0_; have HB := n1_; clear n0_ n1_; (try clear hb); (try clear hb2); (try clear hk); (try clear hi)) | ((with_reducible refine gate_dst (N := 30) rfl ?_); refine Go.Proofs.YtnimhhhbefpifaaM.convE_event (Kd.int .u8) _ rfl (N := 30) rfl _ 9 36 5 rfl Try.underlying9 Try.underlying36 Try.underlying5 t333 rfl (fun _ => True) (Below.refl _ _) (Nat.le_refl _) (Nat.le_trans (of_decide_eq_true (by first | (with_reducible assumption) | assumption) : t333.size ≤ 140737488355328) (by omega)) ?_; intro v337 w48 ho49 hb hg_ hnew_; clear hg_ hnew_; (first | rw [← Ny336.out] at ho49 | (simp only [Int.reduceToNat] at ho49; rw [← Ny336.out] at ho49)); have n0_ := Aside0.mk (Go.Proofs.YtnimhhhbefpifaaM.RE_lower ho49 (below_size (by repeat (first | (with_reducible first | exact HB.out | apply below_alloc | apply pw_below_drewN | apply below_drew1 | refine below_set ?_ GE330.out) | exact HB.out)))); have n1_ := Aside0.mk (blk_below (g := gb330) (o := .cells #[.int .i64 a0_0, .int .i64 a0_1, .int .i64 a0_2, .int .i64 a0_3, .string a0_4, .int .i64 a0_5, .int .i64 a0_6, .string a0_7, .slice A0_8 l0_8.length c0_8] 26 (0, 0)) (by (with_reducible repeat (first | refine blk_drewN ?_ _ | refine blk_drew ?_ | refine blk_alloc ?_ _)); exact BK330.out) hb); have n2_ := Aside0.mk (below_step (by repeat (first | (with_reducible first | exact HB.out | apply below_alloc | apply pw_below_drewN | apply below_drew1 | refine below_set ?_ GE330.out) | exact HB.out)) hb); clear BK330; clear HB; have HO338 := n0_; have BK330 := n1_; have HB := n2_; clear n0_ n1_ n2_; clear hb ho49; obtain ⟨Ao50, co50, eo50⟩ := Go.Proofs.YtnimhhhbefpifaaM.RE_slice HO338.out; subst eo50; have p339 : 0 ≤ ((ji25) : Int) := of_decide_eq_true (by first | (with_reducible assumption) | assumption); have q339 : (ji25) < (y336.length : Int) := of_decide_eq_true (by first | (with_reducible assumption) | assumption); obtain ⟨ad339, e339, hx339_0⟩ := Kd.at_int (Go.Proofs.YtnimhhhbefpifaaM.RE_reads' HO338.out).2.2 (ji25) p339 q339; cases e339; replace p339 := eq_true p339; replace q339 := eq_true q339; have p28 : 0 ≤ ((ji25) : Int) := of_decide_eq_true (by first | (with_reducible assumption) | assumption); have q28 : ((ji25) : Int) < ((y336.length : Int) : Int) := of_decide_eq_true (by first | (with_reducible assumption) | assumption); obtain ⟨go28, co28, eo28, gb28, gl28, cl28, HG28⟩ := Go.Proofs.YtnimhhhbefpifaaM.RE_form HO338.out (by omega); (first | cases eo28 | (injection eo28 with ea_ en_ ec_; (first | subst ea_ | (injection ea_ with ea_; subst ea_)); subst ec_; clear en_)); have GB28 := Aside0.mk gb28; have GG28 := Aside0.mk HG28; clear gb28 gl28 HG28; (first | simp only [add_plain] at hx339_0 | skip); obtain ⟨hx28_0, hf28_0⟩ := Go.Proofs.YtnimhhhbefpifaaM.RE_celln 0 HO338.out ((ji25) : Int) p28 q28; replace p28 := eq_true p28; replace q28 := eq_true q28; obtain ⟨hy51_, hz51_⟩ := Go.Proofs.YtnimhhhbefpifaaM.RE_celln 0 HO338.out ((ji25) : Int) (of_decide_eq_true (by first | (with_reducible assumption) | assumption)) (of_decide_eq_true (by first | (with_reducible assumption) | assumption)); have HP51 := Go.Proofs.YtnimhhhbefpifaaM.RE_putg HO338.out ((ji25) : Int) (Go.bits .xor .u8 (rd y336 (ji25)) a2)) | ((with_reducible refine gate_store (t := 5) (p := 52) rfl ?_); refine store_event (t := 5) (p := 52) (v := ?vo_w52) (w1 := (w48.setCell ⟨go28, ((ji25) : Int).toNat, none⟩ (.int .u8 (Go.bits .xor .u8 (rd y336 (ji25)) a2)))) ?hg ?ho ?hn ?hr ?_; (case ho => rfl); (case hg => rfl); (case hn => rfl); (case hr => first | (go_simp; done) | (go_simp; rfl)); intro w52 hw; have hg : w48.grownBy w52 (some go28) := (by rw [hw]; exact HP51.2); have hp_ : Go.Proofs.YtnimhhhbefpifaaM.RE (Kd.int .u8) 5 w52 w.heap.size (fun _ => True) (.slice (some ⟨go28, 0, none⟩) y336.length co50) y340 := (by rw [hw, Ny340.out]; exact HP51.1); clear HP51; have n0_ := Aside0.mk (blk_grown (g := gb330) (o := .cells #[.int .i64 a0_0, .int .i64 a0_1, .int .i64 a0_2, .int .i64 a0_3, .string a0_4, .int .i64 a0_5, .int .i64 a0_6, .string a0_7, .slice A0_8 l0_8.length c0_8] 26 (0, 0)) (by (with_reducible repeat (first | refine blk_drewN ?_ _ | refine blk_drew ?_ | refine blk_alloc ?_ _)); exact BK330.out) hg (Go.Proofs.YtnimhhhbefpifaaM.RE_ne HO338.out BK330.out (by decide))); have n1_ := Aside0.mk (hp_); have n2_ := Aside0.mk ((by rw [hw]; exact below_set (HB.out) GB28.out : Below w.heap.size w w52)); clear BK330; clear HO338; clear HB; have BK330 := n0_; have HO338 := n1_; have HB := n2_; clear n0_ n1_ n2_; clear hg hw hp_; have hcv53 := Go.Proofs.YtnimhhhbefpifaaM.RE_string (P := Try.prog) Try.underlying36 Try.underlying5 Try.underlying9 HO338.out) | ((with_reducible refine gate_callee (f := 15) rfl ?_); refine goesL_ (some 56) rfl rfl Try.func15 (by kernel_rfl) rfl #[.string (strOfNums y340)] rfl (by (try simp only [List.map_toArray, List.map_cons, List.map_nil]); first | done | rfl | (simp only [List.length_drop, List.length_take]; rfl) | (simp only [ByteArray.size_extract, Nat.min_self]; done) | (simp only [ByteArray.size_extract, Nat.min_self]; rfl)) ?_; (with_reducible refine (wire_Decode.calls kj3 (strOfNums y340) t341 t342 t343 t344 t345 t346 t347 t348 t349 t352 _ A29.out).mono ?_); rintro e w54 ⟨v350, rfl, ho0, hb⟩; refine ⟨_, rfl, ?_⟩; have n0_ := Aside0.mk (Go.Proofs.YtnimhhhbefpifaaM.RE_below (by (with_reducible repeat (first | apply Go.Proofs.YtnimhhhbefpifaaM.RE_alloc | apply Go.Proofs.YtnimhhhbefpifaaM.RE_drewN | apply Go.Proofs.YtnimhhhbefpifaaM.RE_drew)); exact HO338.out) hb); have n1_ := Aside0.mk (Kd.R_lower ho0 (below_size (by repeat (first | (with_reducible first | exact HB.out | apply below_alloc | apply pw_below_drewN | apply below_drew1 | refine below_set ?_ GE330.out) | exact HB.out)))); have n2_ := Aside0.mk (blk_below (g := gb330) (o := .cells #[.int .i64 a0_0, .int .i64 a0_1, .int .i64 a0_2, .int .i64 a0_3, .string a0_4, .int .i64 a0_5, .int .i64 a0_6, .string a0_7, .slice A0_8 l0_8.length c0_8] 26 (0, 0)) (by (with_reducible repeat (first | refine blk_drewN ?_ _ | refine blk_drew ?_ | refine blk_alloc ?_ _)); exact BK330.out) hb); have n3_ := Aside0.mk (below_step (by repeat (first | (with_reducible first | exact HB.out | apply below_alloc | apply pw_below_drewN | apply below_drew1 | refine below_set ?_ GE330.out) | exact HB.out)) hb); clear HO338; clear BK330; clear HB; have HO338 := n0_; have HO351 := n1_; have BK330 := n2_; have HB := n3_; clear n0_ n1_ n2_ n3_; (try clear hb); (try clear hb2); (try clear hk); (try clear hi); (try clear ho0)) | ((with_reducible refine gate_dst (N := 11) rfl ?_); refine box_event ?hg (N := 11) ?hd (cs := #[.int .i64 0, .int .i64 0, .int .i64 0, .int .i64 0, .string (⟨#[]⟩ : ByteArray), .int .i64 0, .int .i64 0, .string (⟨#[]⟩ : ByteArray), .slice none 0 0]) (t := 26) ?hr ?_; (case hd => rfl); (case hg => rfl); (case hr => first | (go_simp; done) | (go_simp; rfl)); intro gb353 hg w55 hbox hb; have n0_ := Aside0.mk (Go.Proofs.YtnimhhhbefpifaaM.RE_below (by (with_reducible repeat (first | apply Go.Proofs.YtnimhhhbefpifaaM.RE_alloc | apply Go.Proofs.YtnimhhhbefpifaaM.RE_drewN | apply Go.Proofs.YtnimhhhbefpifaaM.RE_drew)); exact HO338.out) hb); have n1_ := Aside0.mk (Kd.R_below (by (with_reducible repeat (first | apply Kd.R_alloc | apply Kd.R_drewN | apply Kd.R_drew)); exact HO351.out) hb); have n2_ := Aside0.mk (blk_below (g := gb330) (o := .cells #[.int .i64 a0_0, .int .i64 a0_1, .int .i64 a0_2, .int .i64 a0_3, .string a0_4, .int .i64 a0_5, .int .i64 a0_6, .string a0_7, .slice A0_8 l0_8.length c0_8] 26 (0, 0)) (by (with_reducible repeat (first | refine blk_drewN ?_ _ | refine blk_drew ?_ | refine blk_alloc ?_ _)); exact BK330.out) hb); have n3_ := Aside0.mk (below_step (by repeat (first | (with_reducible first | exact HB.out | apply below_alloc | apply pw_below_drewN | apply below_drew1 | refine below_set ?_ GE330.out) | exact HB.out)) hb); have n4_ := Aside0.mk (hbox); have n5_ := Aside0.mk ((by rw [hg]; exact (below_size (by repeat (first | (with_reducible first | exact HB.out | apply below_alloc | apply pw_below_drewN | apply below_drew1 | refine below_set ?_ GE330.out) | exact HB.out))) : w.heap.size ≤ gb353)); have n6_ := Aside0.mk ((by rw [hg]; exact (below_size (by repeat (first | (with_reducible first | exact HB.out | apply below_alloc | apply pw_below_drewN | apply below_drew1 | refine below_set ?_ GE330.out) | exact HB.out))) : w.heap.size ≤ gb353)); have n7_ := Aside0.mk ((by rw [hg]; exact Nat.ne_of_lt (blk_lt (g := gb330) (o := .cells #[.int .i64 a0_0, .int .i64 a0_1, .int .i64 a0_2, .int .i64 a0_3, .string a0_4, .int .i64 a0_5, .int .i64 a0_6, .string a0_7, .slice A0_8 l0_8.length c0_8] 26 (0, 0)) (by (with_reducible repeat (first | refine blk_drewN ?_ _ | refine blk_drew ?_ | refine blk_alloc ?_ _)); exact BK330.out)) : gb330 ≠ gb353)); have n8_ := Aside0.mk ((by rw [hg]; exact Nat.ne_of_gt (blk_lt (g := gb330) (o := .cells #[.int .i64 a0_0, .int .i64 a0_1, .int .i64 a0_2, .int .i64 a0_3, .string a0_4, .int .i64 a0_5, .int .i64 a0_6, .string a0_7, .slice A0_8 l0_8.length c0_8] 26 (0, 0)) (by (with_reducible repeat (first | refine blk_drewN ?_ _ | refine blk_drew ?_ | refine blk_alloc ?_ _)); exact BK330.out)) : gb353 ≠ gb330)); clear HO338; clear HO351; clear BK330; clear HB; have HO338 := n0_; have HO351 := n1_; have BK330 := n2_; have HB := n3_; have BK353 := n4_; have GW353 := n5_; have GE353 := n6_; have NB330_353 := n7_; have NB353_330 := n8_; clear n0_ n1_ n2_ n3_ n4_ n5_ n6_ n7_ n8_; clear hb hbox hg; have hnb56 := NB353_330.out; have hnc56 := NB330_353.out; have hcz57_0 : w55.cell? ⟨gb353, 0, none⟩ = some (.int .i64 0) := (blk_cell BK353.out 0).trans rfl; have hcz57_1 : w55.cell? ⟨gb353, 1, none⟩ = some (.int .i64 0) := (blk_cell BK353.out 1).trans rfl; have hcz57_2 : w55.cell? ⟨gb353, 2, none⟩ = some (.int .i64 0) := (blk_cell BK353.out 2).trans rfl; have hcz57_3 : w55.cell? ⟨gb353, 3, none⟩ = some (.int .i64 0) := (blk_cell BK353.out 3).trans rfl; have hcz57_4 : w55.cell? ⟨gb353, 4, none⟩ = some (.string (⟨#[]⟩ : ByteArray)) := (blk_cell BK353.out 4).trans rfl; have hcz57_5 : w55.cell? ⟨gb353, 5, none⟩ = some (.int .i64 0) := (blk_cell BK353.out 5).trans rfl; have hcz57_6 : w55.cell? ⟨gb353, 6, none⟩ = some (.int .i64 0) := (blk_cell BK353.out 6).trans rfl; have hcz57_7 : w55.cell? ⟨gb353, 7, none⟩ = some (.string (⟨#[]⟩ : ByteArray)) := (blk_cell BK353.out 7).trans rfl; have hcz57_8 : w55.cell? ⟨gb353, 8, none⟩ = some (.slice none 0 0) := (blk_cell BK353.out 8).trans rfl; have hfz57_0 := blk_frozen BK353.out 0; have hfz57_1 := blk_frozen BK353.out 1; have hfz57_2 := blk_frozen BK353.out 2; have hfz57_3 := blk_frozen BK353.out 3; have hfz57_4 := blk_frozen BK353.out 4; have hfz57_5 := blk_frozen BK353.out 5; have hfz57_6 := blk_frozen BK353.out 6; have hfz57_7 := blk_frozen BK353.out 7; have hfz57_8 := blk_frozen BK353.out 8; obtain ⟨Ao58, co58, eo58⟩ := Kd.R_slice HO351.out; subst eo58))
                      go_ret
                      exact ⟨by first | rfl | (simp [errW_none, errW_some] <;> rfl) | (simp only [← hji25]; first | rfl | (simp [errW_none, errW_some] <;> rfl)) | (simp [*, errW_none, errW_some] <;> rfl), by repeat (first | (with_reducible first | exact HB.out | apply below_alloc | apply pw_below_drewN | apply below_drew1 | refine below_set ?_ GE330.out | refine below_set ?_ GE353.out) | exact HB.out)⟩
                  · rw [if_neg c27] at H
                    exact absurd H (by simp)
                · rw [if_neg c26] at H
                  exact absurd H (by simp)
          · rw [if_neg c17] at H
            exact absurd H (by simp)
        · rw [if_neg c16] at H
          have c16b0 : (t334 == 0) = false := beq_eq_false_iff_ne.mpr c16
          have c16b1 : (t334 != 0) = true := bne_iff_ne.mpr c16
          replace H := Option.bind_eq_some_iff.mp H
          obtain ⟨t335, A590, H⟩ := H
          replace H : (some t335) = some r := H
          have A59 := Aside0.mk A590
          clear A590
          obtain rfl := Option.some.inj H
          have hcz60_0 : wc.cell? ⟨gb330, 0, none⟩ = some (.int .i64 a0_0) := (blk_cell BK330.out 0).trans rfl
          have hcz60_1 : wc.cell? ⟨gb330, 1, none⟩ = some (.int .i64 a0_1) := (blk_cell BK330.out 1).trans rfl
          have hcz60_2 : wc.cell? ⟨gb330, 2, none⟩ = some (.int .i64 a0_2) := (blk_cell BK330.out 2).trans rfl
          have hcz60_3 : wc.cell? ⟨gb330, 3, none⟩ = some (.int .i64 a0_3) := (blk_cell BK330.out 3).trans rfl
          have hcz60_4 : wc.cell? ⟨gb330, 4, none⟩ = some (.string a0_4) := (blk_cell BK330.out 4).trans rfl
          have hcz60_5 : wc.cell? ⟨gb330, 5, none⟩ = some (.int .i64 a0_5) := (blk_cell BK330.out 5).trans rfl
          have hcz60_6 : wc.cell? ⟨gb330, 6, none⟩ = some (.int .i64 a0_6) := (blk_cell BK330.out 6).trans rfl
          have hcz60_7 : wc.cell? ⟨gb330, 7, none⟩ = some (.string a0_7) := (blk_cell BK330.out 7).trans rfl
          have hcz60_8 : wc.cell? ⟨gb330, 8, none⟩ = some (.slice A0_8 l0_8.length c0_8) := (blk_cell BK330.out 8).trans rfl
          have hfz60_0 := blk_frozen BK330.out 0
          have hfz60_1 := blk_frozen BK330.out 1
          have hfz60_2 := blk_frozen BK330.out 2
          have hfz60_3 := blk_frozen BK330.out 3
          have hfz60_4 := blk_frozen BK330.out 4
          have hfz60_5 := blk_frozen BK330.out 5
          have hfz60_6 := blk_frozen BK330.out 6
          have hfz60_7 := blk_frozen BK330.out 7
          have hfz60_8 := blk_frozen BK330.out 8
          go_wp2_with (first | ((with_reducible refine gate_callee (f := 11) rfl ?_); refine goesL_ (some 23) rfl rfl Try.func11 (by kernel_rfl) rfl #[.agg #[.int .i64 a0_0, .int .i64 a0_1, .int .i64 a0_2, .int .i64 a0_3, .string a0_4, .int .i64 a0_5, .int .i64 a0_6, .string a0_7, .slice A0_8 l0_8.length c0_8]] rfl (by (try simp only [List.map_toArray, List.map_cons, List.map_nil]); first | done | rfl | (simp only [List.length_drop, List.length_take]; rfl) | (simp only [ByteArray.size_extract, Nat.min_self]; done) | (simp only [ByteArray.size_extract, Nat.min_self]; rfl)) ?_; (with_reducible refine (wire_Encode.calls kj3 a0_0 a0_1 a0_2 a0_3 a0_4 a0_5 a0_6 a0_7 _ _ l0_8 t333 t334 _ ?side1 ?side2 A15.out).mono ?_); (case side1 => repeat (first | exact (Kd.C_below HR0_8.out HB.out) | (with_reducible refine Kd.C_alloc ?_ _) | (with_reducible refine Kd.C_drewN ?_ _) | (with_reducible refine Kd.C_drew ?_))); (case side2 => exact HC0_8.out); rintro e w61 ⟨rfl, hb⟩; refine ⟨_, rfl, ?_⟩; have n0_ := Aside0.mk (blk_below (g := gb330) (o := .cells #[.int .i64 a0_0, .int .i64 a0_1, .int .i64 a0_2, .int .i64 a0_3, .string a0_4, .int .i64 a0_5, .int .i64 a0_6, .string a0_7, .slice A0_8 l0_8.length c0_8] 26 (0, 0)) (by (with_reducible repeat (first | refine blk_drewN ?_ _ | refine blk_drew ?_ | refine blk_alloc ?_ _)); exact BK330.out) hb); have n1_ := Aside0.mk (below_step (by repeat (first | (with_reducible first | exact HB.out | apply below_alloc | apply pw_below_drewN | apply below_drew1 | refine below_set ?_ GE330.out) | exact HB.out)) hb); clear BK330; clear HB; have BK330 := n0_; have HB := n1_; clear n0_ n1_; (try clear hb); (try clear hb2); (try clear hk); (try clear hi)) | ((with_reducible refine gate_callee (f := 10) rfl ?_); refine goesL_ (some 28) rfl rfl Try.func10 (by kernel_rfl) rfl #[] rfl (by (try simp only [List.map_toArray, List.map_cons, List.map_nil]); first | done | rfl | (simp only [List.length_drop, List.length_take]; rfl) | (simp only [ByteArray.size_extract, Nat.min_self]; done) | (simp only [ByteArray.size_extract, Nat.min_self]; rfl)) ?_; (with_reducible refine (vitrinelaw20_awake.calls kj3  t335 _ A59.out).mono ?_); rintro e w62 ⟨rfl, hb⟩; refine ⟨_, rfl, ?_⟩; have n0_ := Aside0.mk (blk_below (g := gb330) (o := .cells #[.int .i64 a0_0, .int .i64 a0_1, .int .i64 a0_2, .int .i64 a0_3, .string a0_4, .int .i64 a0_5, .int .i64 a0_6, .string a0_7, .slice A0_8 l0_8.length c0_8] 26 (0, 0)) (by (with_reducible repeat (first | refine blk_drewN ?_ _ | refine blk_drew ?_ | refine blk_alloc ?_ _)); exact BK330.out) hb); have n1_ := Aside0.mk (below_step (by repeat (first | (with_reducible first | exact HB.out | apply below_alloc | apply pw_below_drewN | apply below_drew1 | refine below_set ?_ GE330.out) | exact HB.out)) hb); clear BK330; clear HB; have BK330 := n0_; have HB := n1_; clear n0_ n1_; (try clear hb); (try clear hb2); (try clear hk); (try clear hi)))
          go_ret
          exact ⟨by first | rfl | (simp [errW_none, errW_some] <;> rfl) | (simp [*, errW_none, errW_some] <;> rfl), by repeat (first | (with_reducible first | exact HB.out | apply below_alloc | apply pw_below_drewN | apply below_drew1 | refine below_set ?_ GE330.out) | exact HB.out)⟩

end Go.Proofs.Ytnimhhhbefpifaa.PL20
