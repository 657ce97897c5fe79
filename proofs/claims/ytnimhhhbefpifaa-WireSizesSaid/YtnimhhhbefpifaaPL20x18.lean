/- Printed for this claim by a program of this session over the kit's print program: the Go functions as Lean functions, and proofs that the calls come to these answers. No conditions. -/
import Derived.Test.YtnimhhhbefpifaaPL20x0
import Derived.Test.YtnimhhhbefpifaaPL20x2
import Derived.Test.YtnimhhhbefpifaaPL20x8
import Derived.Test.YtnimhhhbefpifaaPL20x9
namespace Go.Proofs.Ytnimhhhbefpifaa.PL20
open Go.RowKit Go.Proofs.YtnimhhhbefpifaaW.PrintWords Go.Proofs.YtnimhhhbefpifaaW.PrintLast Go.Proofs.YtnimhhhbefpifaaW.PrintMore
attribute [local go_sem] max2_int min2_int max_two min_two max_three min_three max_four min_four   -- for this text's walks alone
set_option linter.unusedVariables false
set_option linter.unusedSimpArgs false

/-! ### vitrinelaw20_WireSizes: function 4 -/
def vitrinelaw20_WireSizes.l0 : Nat → ByteArray → Int → Int → Int → Int → Int → Int → ByteArray → Int → Int → ByteArray → List ByteArray → Option (Bool)
  | 0, _, _, _, _, _, _, _, _, _, _, _, _ => none
  | k + 1, x3, x5, x6, x174000, x174001, x174002, x174003, x174004, x174005, x174006, x174007, x174008 => if x6 < (x174008.length : Int) then (if 0 ≤ x6 then (vitrinelaw20_WireSizes.l0 k x3 (wrap64 ((wrap64 (x5 + 4)) + ((rdOf ByteArray.empty x174008 x6).size : Int))) (wrap64 (x6 + 1)) x174000 x174001 x174002 x174003 x174004 x174005 x174006 x174007 x174008) else (none)) else (if (x3.size : Int) = x5 then ((vitrinelaw20_awake.f k).bind fun t180 => (some t180)) else (some false))
def vitrinelaw20_WireSizes.f (k : Nat) (a0_0 : Int) (a0_1 : Int) (a0_2 : Int) (a0_3 : Int) (a0_4 : ByteArray) (a0_5 : Int) (a0_6 : Int) (a0_7 : ByteArray) (l0_8 : List ByteArray) : Option (Bool) := (vitrinelaw20_few.f k a0_0 a0_1 a0_2 a0_3 a0_4 a0_5 a0_6 a0_7 l0_8).bind fun t174 => (if t174 = true then ((wire_Encode.f k a0_0 a0_1 a0_2 a0_3 a0_4 a0_5 a0_6 a0_7 l0_8).bind fun bt176 => (if bt176.2 = 0 then (vitrinelaw20_WireSizes.l0 k bt176.1 (wrap64 ((wrap64 (34 + (a0_4.size : Int))) + (a0_7.size : Int))) 0 a0_0 a0_1 a0_2 a0_3 a0_4 a0_5 a0_6 a0_7 l0_8) else (if bt176.2 = 60 then (if bt176.1.toList = ([] : List UInt8) then ((vitrinelaw20_awake.f k).bind fun t178 => (some t178)) else (some false)) else (some false)))) else ((vitrinelaw20_awake.f k).bind fun t175 => (some t175)))
theorem vitrinelaw20_WireSizes.mono_l : ∀ k, (∀ y0 y1 y2 y3 y4 y5 y6 y7 y8 y9 y10 y11, LeO (vitrinelaw20_WireSizes.l0 k y0 y1 y2 y3 y4 y5 y6 y7 y8 y9 y10 y11) (vitrinelaw20_WireSizes.l0 (k + 1) y0 y1 y2 y3 y4 y5 y6 y7 y8 y9 y10 y11))
  | 0 => fun _ _ _ _ _ _ _ _ _ _ _ _ r h => by simp [vitrinelaw20_WireSizes.l0] at h
  | k + 1 => by
    have ih0 := vitrinelaw20_WireSizes.mono_l k
    · intro y0 y1 y2 y3 y4 y5 y6 y7 y8 y9 y10 y11
      unfold vitrinelaw20_WireSizes.l0
      repeat' first
      | (with_reducible exact ih0 _ _ _ _ _ _ _ _ _ _ _ _)
      | (with_reducible exact vitrinelaw20_awake.mono _)
      | (with_reducible exact vitrinelaw20_few.mono _ _ _ _ _ _ _ _ _ _)
      | (with_reducible exact wire_Encode.mono _ _ _ _ _ _ _ _ _ _)
      | (with_reducible exact LeO.refl _)
      | (with_reducible exact LeO.none _)
      | (with_reducible refine LeO.ite ?_ ?_)
      | (with_reducible refine LeO.bind ?_ (fun _ => ?_))
      | exact ih0 _ _ _ _ _ _ _ _ _ _ _ _
      | exact vitrinelaw20_awake.mono _
      | exact vitrinelaw20_few.mono _ _ _ _ _ _ _ _ _ _
      | exact wire_Encode.mono _ _ _ _ _ _ _ _ _ _
      | exact LeO.none _
      | refine LeO.ite ?_ ?_
      | refine LeO.bind ?_ (fun _ => ?_)
theorem vitrinelaw20_WireSizes.mono : ∀ a0 a1 a2 a3 a4 a5 a6 a7 a8 k, LeO (vitrinelaw20_WireSizes.f k a0 a1 a2 a3 a4 a5 a6 a7 a8) (vitrinelaw20_WireSizes.f (k + 1) a0 a1 a2 a3 a4 a5 a6 a7 a8) := by
  intro a0 a1 a2 a3 a4 a5 a6 a7 a8 k
  have ih0 := vitrinelaw20_WireSizes.mono_l k
  unfold vitrinelaw20_WireSizes.f
  repeat' first
      | (with_reducible exact ih0 _ _ _ _ _ _ _ _ _ _ _ _)
      | (with_reducible exact vitrinelaw20_awake.mono _)
      | (with_reducible exact vitrinelaw20_few.mono _ _ _ _ _ _ _ _ _ _)
      | (with_reducible exact wire_Encode.mono _ _ _ _ _ _ _ _ _ _)
      | (with_reducible exact LeO.refl _)
      | (with_reducible exact LeO.none _)
      | (with_reducible refine LeO.ite ?_ ?_)
      | (with_reducible refine LeO.bind ?_ (fun _ => ?_))
      | exact ih0 _ _ _ _ _ _ _ _ _ _ _ _
      | exact vitrinelaw20_awake.mono _
      | exact vitrinelaw20_few.mono _ _ _ _ _ _ _ _ _ _
      | exact wire_Encode.mono _ _ _ _ _ _ _ _ _ _
      | exact LeO.none _
      | refine LeO.ite ?_ ?_
      | refine LeO.bind ?_ (fun _ => ?_)
set_option maxHeartbeats 40000000 in
set_option maxRecDepth 100000 in
theorem vitrinelaw20_WireSizes.calls (k : Nat) (a0_0 : Int) (a0_1 : Int) (a0_2 : Int) (a0_3 : Int) (a0_4 : ByteArray) (a0_5 : Int) (a0_6 : Int) (a0_7 : ByteArray) (A0_8 : Option Addr) (c0_8 : Nat) (l0_8 : List ByteArray) (r : Bool) (w : World) (hr0_8 : Kd.C Kd.string w A0_8 l0_8.length l0_8) (hc0_8 : l0_8.length ≤ c0_8) (h : vitrinelaw20_WireSizes.f k a0_0 a0_1 a0_2 a0_3 a0_4 a0_5 a0_6 a0_7 l0_8 = some r) :
    Calls Try.prog 4 #[.agg #[.int .i64 a0_0, .int .i64 a0_1, .int .i64 a0_2, .int .i64 a0_3, .string a0_4, .int .i64 a0_5, .int .i64 a0_6, .string a0_7, .slice A0_8 l0_8.length c0_8]] w fun e w' => e = .returned (.bool r) ∧ Below w.heap.size w w' := by
  have hu26 := Try.underlying26
  have HR0_8 := Aside0.mk hr0_8
  have HC0_8 := Aside0.mk hc0_8
  clear hr0_8 hc0_8
  have HB := Aside0.mk (Below.refl w.heap.size w)
  have H : ((vitrinelaw20_few.f k a0_0 a0_1 a0_2 a0_3 a0_4 a0_5 a0_6 a0_7 l0_8).bind fun t174 => (if t174 = true then ((wire_Encode.f k a0_0 a0_1 a0_2 a0_3 a0_4 a0_5 a0_6 a0_7 l0_8).bind fun bt176 => (if bt176.2 = 0 then (vitrinelaw20_WireSizes.l0 k bt176.1 (wrap64 ((wrap64 (34 + (a0_4.size : Int))) + (a0_7.size : Int))) 0 a0_0 a0_1 a0_2 a0_3 a0_4 a0_5 a0_6 a0_7 l0_8) else (if bt176.2 = 60 then (if bt176.1.toList = ([] : List UInt8) then ((vitrinelaw20_awake.f k).bind fun t178 => (some t178)) else (some false)) else (some false)))) else ((vitrinelaw20_awake.f k).bind fun t175 => (some t175)))) = some r := h
  clear h
  replace H := Option.bind_eq_some_iff.mp H
  obtain ⟨t174, A20, H⟩ := H
  replace H : (if t174 = true then ((wire_Encode.f k a0_0 a0_1 a0_2 a0_3 a0_4 a0_5 a0_6 a0_7 l0_8).bind fun bt176 => (if bt176.2 = 0 then (vitrinelaw20_WireSizes.l0 k bt176.1 (wrap64 ((wrap64 (34 + (a0_4.size : Int))) + (a0_7.size : Int))) 0 a0_0 a0_1 a0_2 a0_3 a0_4 a0_5 a0_6 a0_7 l0_8) else (if bt176.2 = 60 then (if bt176.1.toList = ([] : List UInt8) then ((vitrinelaw20_awake.f k).bind fun t178 => (some t178)) else (some false)) else (some false)))) else ((vitrinelaw20_awake.f k).bind fun t175 => (some t175))) = some r := H
  have A2 := Aside0.mk A20
  clear A20
  by_cases c3 : t174 = true
  · subst c3
    have H1 : ((wire_Encode.f k a0_0 a0_1 a0_2 a0_3 a0_4 a0_5 a0_6 a0_7 l0_8).bind fun bt176 => (if bt176.2 = 0 then (vitrinelaw20_WireSizes.l0 k bt176.1 (wrap64 ((wrap64 (34 + (a0_4.size : Int))) + (a0_7.size : Int))) 0 a0_0 a0_1 a0_2 a0_3 a0_4 a0_5 a0_6 a0_7 l0_8) else (if bt176.2 = 60 then (if bt176.1.toList = ([] : List UInt8) then ((vitrinelaw20_awake.f k).bind fun t178 => (some t178)) else (some false)) else (some false)))) = some r := by rw [if_pos rfl] at H; exact H
    clear H
    have H := H1
    clear H1
    replace H := Option.bind_eq_some_iff.mp H
    obtain ⟨⟨t176, t177⟩, A40, H⟩ := H
    replace H : (if t177 = 0 then (vitrinelaw20_WireSizes.l0 k t176 (wrap64 ((wrap64 (34 + (a0_4.size : Int))) + (a0_7.size : Int))) 0 a0_0 a0_1 a0_2 a0_3 a0_4 a0_5 a0_6 a0_7 l0_8) else (if t177 = 60 then (if t176.toList = ([] : List UInt8) then ((vitrinelaw20_awake.f k).bind fun t178 => (some t178)) else (some false)) else (some false))) = some r := H
    have A4 := Aside0.mk A40
    clear A40
    by_cases c5 : t177 = 0
    · rw [if_pos c5] at H
      have c5b0 : (t177 == 0) = true := beq_iff_eq.mpr c5
      have c5b1 : (t177 != 0) = false := bne_eq_false_iff_eq.mpr c5
      clear c5
      have H' := Aside0.mk H
      clear H
      go_enter Try.func4, Try.ntmps4
      go_wp2_with (first | ((with_reducible refine gate_dst (N := 1) rfl ?_); refine box_event ?hg (N := 1) ?hd (cs := #[.int .i64 a0_0, .int .i64 a0_1, .int .i64 a0_2, .int .i64 a0_3, .string a0_4, .int .i64 a0_5, .int .i64 a0_6, .string a0_7, .slice A0_8 l0_8.length c0_8]) (t := 26) ?hr ?_; (case hd => rfl); (case hg => rfl); (case hr => first | (go_simp; done) | (go_simp; rfl)); intro gb173 hg w6 hbox hb; have n0_ := Aside0.mk (below_step (by repeat (first | (with_reducible first | exact HB.out | apply below_alloc | apply pw_below_drewN | apply below_drew1) | exact HB.out)) hb); have n1_ := Aside0.mk (hbox); have n2_ := Aside0.mk ((by rw [hg]; exact (below_size (by repeat (first | (with_reducible first | exact HB.out | apply below_alloc | apply pw_below_drewN | apply below_drew1) | exact HB.out))) : w.heap.size ≤ gb173)); have n3_ := Aside0.mk ((by rw [hg]; exact (below_size (by repeat (first | (with_reducible first | exact HB.out | apply below_alloc | apply pw_below_drewN | apply below_drew1) | exact HB.out))) : w.heap.size ≤ gb173)); clear HB; have HB := n0_; have BK173 := n1_; have GW173 := n2_; have GE173 := n3_; clear n0_ n1_ n2_ n3_; clear hb hbox hg; have hcz7_0 : w6.cell? ⟨gb173, 0, none⟩ = some (.int .i64 a0_0) := (blk_cell BK173.out 0).trans rfl; have hcz7_1 : w6.cell? ⟨gb173, 1, none⟩ = some (.int .i64 a0_1) := (blk_cell BK173.out 1).trans rfl; have hcz7_2 : w6.cell? ⟨gb173, 2, none⟩ = some (.int .i64 a0_2) := (blk_cell BK173.out 2).trans rfl; have hcz7_3 : w6.cell? ⟨gb173, 3, none⟩ = some (.int .i64 a0_3) := (blk_cell BK173.out 3).trans rfl; have hcz7_4 : w6.cell? ⟨gb173, 4, none⟩ = some (.string a0_4) := (blk_cell BK173.out 4).trans rfl; have hcz7_5 : w6.cell? ⟨gb173, 5, none⟩ = some (.int .i64 a0_5) := (blk_cell BK173.out 5).trans rfl; have hcz7_6 : w6.cell? ⟨gb173, 6, none⟩ = some (.int .i64 a0_6) := (blk_cell BK173.out 6).trans rfl; have hcz7_7 : w6.cell? ⟨gb173, 7, none⟩ = some (.string a0_7) := (blk_cell BK173.out 7).trans rfl; have hcz7_8 : w6.cell? ⟨gb173, 8, none⟩ = some (.slice A0_8 l0_8.length c0_8) := (blk_cell BK173.out 8).trans rfl; have hfz7_0 := blk_frozen BK173.out 0; have hfz7_1 := blk_frozen BK173.out 1; have hfz7_2 := blk_frozen BK173.out 2; have hfz7_3 := blk_frozen BK173.out 3; have hfz7_4 := blk_frozen BK173.out 4; have hfz7_5 := blk_frozen BK173.out 5; have hfz7_6 := blk_frozen BK173.out 6; have hfz7_7 := blk_frozen BK173.out 7; have hfz7_8 := blk_frozen BK173.out 8) | ((with_reducible refine gate_callee (f := 9) rfl ?_); refine goesL_ (some 8) rfl rfl Try.func9 (by kernel_rfl) rfl #[.agg #[.int .i64 a0_0, .int .i64 a0_1, .int .i64 a0_2, .int .i64 a0_3, .string a0_4, .int .i64 a0_5, .int .i64 a0_6, .string a0_7, .slice A0_8 l0_8.length c0_8]] rfl (by (try simp only [List.map_toArray, List.map_cons, List.map_nil]); first | done | rfl | (simp only [List.length_drop, List.length_take]; rfl) | (simp only [ByteArray.size_extract, Nat.min_self]; done) | (simp only [ByteArray.size_extract, Nat.min_self]; rfl)) ?_; (with_reducible refine (vitrinelaw20_few.calls k a0_0 a0_1 a0_2 a0_3 a0_4 a0_5 a0_6 a0_7 _ _ l0_8 true _ ?side1 ?side2 A2.out).mono ?_); (case side1 => repeat (first | exact (Kd.C_below HR0_8.out HB.out) | (with_reducible refine Kd.C_alloc ?_ _) | (with_reducible refine Kd.C_drewN ?_ _) | (with_reducible refine Kd.C_drew ?_))); (case side2 => exact HC0_8.out); rintro e w8 ⟨rfl, hb⟩; refine ⟨_, rfl, ?_⟩; have n0_ := Aside0.mk (blk_below (g := gb173) (o := .cells #[.int .i64 a0_0, .int .i64 a0_1, .int .i64 a0_2, .int .i64 a0_3, .string a0_4, .int .i64 a0_5, .int .i64 a0_6, .string a0_7, .slice A0_8 l0_8.length c0_8] 26 (0, 0)) (by (with_reducible repeat (first | refine blk_drewN ?_ _ | refine blk_drew ?_ | refine blk_alloc ?_ _)); exact BK173.out) hb); have n1_ := Aside0.mk (below_step (by repeat (first | (with_reducible first | exact HB.out | apply below_alloc | apply pw_below_drewN | apply below_drew1 | refine below_set ?_ GE173.out) | exact HB.out)) hb); clear BK173; clear HB; have BK173 := n0_; have HB := n1_; clear n0_ n1_; (try clear hb); (try clear hb2); (try clear hk); (try clear hi); have hcz9_0 : w8.cell? ⟨gb173, 0, none⟩ = some (.int .i64 a0_0) := (blk_cell BK173.out 0).trans rfl; have hcz9_1 : w8.cell? ⟨gb173, 1, none⟩ = some (.int .i64 a0_1) := (blk_cell BK173.out 1).trans rfl; have hcz9_2 : w8.cell? ⟨gb173, 2, none⟩ = some (.int .i64 a0_2) := (blk_cell BK173.out 2).trans rfl; have hcz9_3 : w8.cell? ⟨gb173, 3, none⟩ = some (.int .i64 a0_3) := (blk_cell BK173.out 3).trans rfl; have hcz9_4 : w8.cell? ⟨gb173, 4, none⟩ = some (.string a0_4) := (blk_cell BK173.out 4).trans rfl; have hcz9_5 : w8.cell? ⟨gb173, 5, none⟩ = some (.int .i64 a0_5) := (blk_cell BK173.out 5).trans rfl; have hcz9_6 : w8.cell? ⟨gb173, 6, none⟩ = some (.int .i64 a0_6) := (blk_cell BK173.out 6).trans rfl; have hcz9_7 : w8.cell? ⟨gb173, 7, none⟩ = some (.string a0_7) := (blk_cell BK173.out 7).trans rfl; have hcz9_8 : w8.cell? ⟨gb173, 8, none⟩ = some (.slice A0_8 l0_8.length c0_8) := (blk_cell BK173.out 8).trans rfl; have hfz9_0 := blk_frozen BK173.out 0; have hfz9_1 := blk_frozen BK173.out 1; have hfz9_2 := blk_frozen BK173.out 2; have hfz9_3 := blk_frozen BK173.out 3; have hfz9_4 := blk_frozen BK173.out 4; have hfz9_5 := blk_frozen BK173.out 5; have hfz9_6 := blk_frozen BK173.out 6; have hfz9_7 := blk_frozen BK173.out 7; have hfz9_8 := blk_frozen BK173.out 8) | ((with_reducible refine gate_callee (f := 11) rfl ?_); refine goesL_ (some 13) rfl rfl Try.func11 (by kernel_rfl) rfl #[.agg #[.int .i64 a0_0, .int .i64 a0_1, .int .i64 a0_2, .int .i64 a0_3, .string a0_4, .int .i64 a0_5, .int .i64 a0_6, .string a0_7, .slice A0_8 l0_8.length c0_8]] rfl (by (try simp only [List.map_toArray, List.map_cons, List.map_nil]); first | done | rfl | (simp only [List.length_drop, List.length_take]; rfl) | (simp only [ByteArray.size_extract, Nat.min_self]; done) | (simp only [ByteArray.size_extract, Nat.min_self]; rfl)) ?_; (with_reducible refine (wire_Encode.calls k a0_0 a0_1 a0_2 a0_3 a0_4 a0_5 a0_6 a0_7 _ _ l0_8 t176 t177 _ ?side1 ?side2 A4.out).mono ?_); (case side1 => repeat (first | exact (Kd.C_below HR0_8.out HB.out) | (with_reducible refine Kd.C_alloc ?_ _) | (with_reducible refine Kd.C_drewN ?_ _) | (with_reducible refine Kd.C_drew ?_))); (case side2 => exact HC0_8.out); rintro e w10 ⟨rfl, hb⟩; refine ⟨_, rfl, ?_⟩; have n0_ := Aside0.mk (blk_below (g := gb173) (o := .cells #[.int .i64 a0_0, .int .i64 a0_1, .int .i64 a0_2, .int .i64 a0_3, .string a0_4, .int .i64 a0_5, .int .i64 a0_6, .string a0_7, .slice A0_8 l0_8.length c0_8] 26 (0, 0)) (by (with_reducible repeat (first | refine blk_drewN ?_ _ | refine blk_drew ?_ | refine blk_alloc ?_ _)); exact BK173.out) hb); have n1_ := Aside0.mk (below_step (by repeat (first | (with_reducible first | exact HB.out | apply below_alloc | apply pw_below_drewN | apply below_drew1 | refine below_set ?_ GE173.out) | exact HB.out)) hb); clear BK173; clear HB; have BK173 := n0_; have HB := n1_; clear n0_ n1_; (try clear hb); (try clear hb2); (try clear hk); (try clear hi); have hcz11_0 : w10.cell? ⟨gb173, 0, none⟩ = some (.int .i64 a0_0) := (blk_cell BK173.out 0).trans rfl; have hcz11_1 : w10.cell? ⟨gb173, 1, none⟩ = some (.int .i64 a0_1) := (blk_cell BK173.out 1).trans rfl; have hcz11_2 : w10.cell? ⟨gb173, 2, none⟩ = some (.int .i64 a0_2) := (blk_cell BK173.out 2).trans rfl; have hcz11_3 : w10.cell? ⟨gb173, 3, none⟩ = some (.int .i64 a0_3) := (blk_cell BK173.out 3).trans rfl; have hcz11_4 : w10.cell? ⟨gb173, 4, none⟩ = some (.string a0_4) := (blk_cell BK173.out 4).trans rfl; have hcz11_5 : w10.cell? ⟨gb173, 5, none⟩ = some (.int .i64 a0_5) := (blk_cell BK173.out 5).trans rfl; have hcz11_6 : w10.cell? ⟨gb173, 6, none⟩ = some (.int .i64 a0_6) := (blk_cell BK173.out 6).trans rfl; have hcz11_7 : w10.cell? ⟨gb173, 7, none⟩ = some (.string a0_7) := (blk_cell BK173.out 7).trans rfl; have hcz11_8 : w10.cell? ⟨gb173, 8, none⟩ = some (.slice A0_8 l0_8.length c0_8) := (blk_cell BK173.out 8).trans rfl; have hfz11_0 := blk_frozen BK173.out 0; have hfz11_1 := blk_frozen BK173.out 1; have hfz11_2 := blk_frozen BK173.out 2; have hfz11_3 := blk_frozen BK173.out 3; have hfz11_4 := blk_frozen BK173.out 4; have hfz11_5 := blk_frozen BK173.out 5; have hfz11_6 := blk_frozen BK173.out 6; have hfz11_7 := blk_frozen BK173.out 7; have hfz11_8 := blk_frozen BK173.out 8))
      go_loopg [5, 6] k (fun kq v5 v6 w' => ∃ (x5_1 : Int) (x6_1 : Int), v5 = .int .i64 x5_1 ∧ v6 = .int .i64 x6_1 ∧ Aside0 (vitrinelaw20_WireSizes.l0 kq t176 x5_1 x6_1 a0_0 a0_1 a0_2 a0_3 a0_4 a0_5 a0_6 a0_7 l0_8 = some r) ∧ Aside0 (kq ≤ k) ∧ Aside0 (w'.heap[gb173]? = some (.cells #[.int .i64 a0_0, .int .i64 a0_1, .int .i64 a0_2, .int .i64 a0_3, .string a0_4, .int .i64 a0_5, .int .i64 a0_6, .string a0_7, (.slice A0_8 l0_8.length c0_8)] 26 (0, 0))) ∧ Aside0 (Below w.heap.size w w'))
      case atStart => exact ⟨(wrap64 ((wrap64 (34 + (a0_4.size : Int))) + (a0_7.size : Int))), (0), (by first | rfl | (simp; done) | (simp [*]; done)), (by first | rfl | (simp; done) | (simp [*]; done)), H', ⟨Nat.le_refl _⟩, ⟨by (with_reducible repeat (first | refine blk_drewN ?_ _ | refine blk_drew ?_ | refine blk_alloc ?_ _)); exact BK173.out⟩, ⟨by repeat (first | (with_reducible first | exact HB.out | apply below_alloc | apply pw_below_drewN | apply below_drew1 | refine below_set ?_ GE173.out) | exact HB.out)⟩⟩
      case round =>
        clear H'
        try clear c1
        try clear p2
        try clear c3
        try clear c4
        try clear c5
        try clear c5b0
        try clear c5b1
        try clear p6
        try clear c9
        try clear c11
        try clear hcz11_0
        try clear hcz11_1
        try clear hcz11_2
        try clear hcz11_3
        try clear hcz11_4
        try clear hcz11_5
        try clear hcz11_6
        try clear hcz11_7
        try clear hcz11_8
        try clear hcz7_0
        try clear hcz7_1
        try clear hcz7_2
        try clear hcz7_3
        try clear hcz7_4
        try clear hcz7_5
        try clear hcz7_6
        try clear hcz7_7
        try clear hcz7_8
        try clear hcz9_0
        try clear hcz9_1
        try clear hcz9_2
        try clear hcz9_3
        try clear hcz9_4
        try clear hcz9_5
        try clear hcz9_6
        try clear hcz9_7
        try clear hcz9_8
        try clear hfz11_0
        try clear hfz11_1
        try clear hfz11_2
        try clear hfz11_3
        try clear hfz11_4
        try clear hfz11_5
        try clear hfz11_6
        try clear hfz11_7
        try clear hfz11_8
        try clear hfz7_0
        try clear hfz7_1
        try clear hfz7_2
        try clear hfz7_3
        try clear hfz7_4
        try clear hfz7_5
        try clear hfz7_6
        try clear hfz7_7
        try clear hfz7_8
        try clear hfz9_0
        try clear hfz9_1
        try clear hfz9_2
        try clear hfz9_3
        try clear hfz9_4
        try clear hfz9_5
        try clear hfz9_6
        try clear hfz9_7
        try clear hfz9_8
        obtain ⟨x5_1, x6_1, rfl, rfl, HA, HK1, BK173, HB⟩ := hrel
        cases gk with
        | zero => exact absurd HA.out (by simp [vitrinelaw20_WireSizes.l0])
        | succ k1 =>
          have H := HA.out
          clear HA
          simp only [vitrinelaw20_WireSizes.l0] at H
          by_cases c12 : x6_1 < (l0_8.length : Int)
          · rw [if_pos c12] at H
            have c12b0 : decide (x6_1 < (l0_8.length : Int)) = true := decide_eq_true c12
            clear c12
            by_cases c13 : 0 ≤ x6_1
            · rw [if_pos c13] at H
              have c13b0 : decide (0 ≤ x6_1) = true := decide_eq_true c13
              clear c13
              have H' := Aside0.mk H
              clear H
              have hcz14_0 : wr.cell? ⟨gb173, 0, none⟩ = some (.int .i64 a0_0) := (blk_cell BK173.out 0).trans rfl
              have hcz14_1 : wr.cell? ⟨gb173, 1, none⟩ = some (.int .i64 a0_1) := (blk_cell BK173.out 1).trans rfl
              have hcz14_2 : wr.cell? ⟨gb173, 2, none⟩ = some (.int .i64 a0_2) := (blk_cell BK173.out 2).trans rfl
              have hcz14_3 : wr.cell? ⟨gb173, 3, none⟩ = some (.int .i64 a0_3) := (blk_cell BK173.out 3).trans rfl
              have hcz14_4 : wr.cell? ⟨gb173, 4, none⟩ = some (.string a0_4) := (blk_cell BK173.out 4).trans rfl
              have hcz14_5 : wr.cell? ⟨gb173, 5, none⟩ = some (.int .i64 a0_5) := (blk_cell BK173.out 5).trans rfl
              have hcz14_6 : wr.cell? ⟨gb173, 6, none⟩ = some (.int .i64 a0_6) := (blk_cell BK173.out 6).trans rfl
              have hcz14_7 : wr.cell? ⟨gb173, 7, none⟩ = some (.string a0_7) := (blk_cell BK173.out 7).trans rfl
              have hcz14_8 : wr.cell? ⟨gb173, 8, none⟩ = some (.slice A0_8 l0_8.length c0_8) := (blk_cell BK173.out 8).trans rfl
              have hfz14_0 := blk_frozen BK173.out 0
              have hfz14_1 := blk_frozen BK173.out 1
              have hfz14_2 := blk_frozen BK173.out 2
              have hfz14_3 := blk_frozen BK173.out 3
              have hfz14_4 := blk_frozen BK173.out 4
              have hfz14_5 := blk_frozen BK173.out 5
              have hfz14_6 := blk_frozen BK173.out 6
              have hfz14_7 := blk_frozen BK173.out 7
              have hfz14_8 := blk_frozen BK173.out 8
              have p179 : 0 ≤ (x6_1 : Int) := of_decide_eq_true (by first | (with_reducible assumption) | assumption)
              have q179 : x6_1 < (l0_8.length : Int) := of_decide_eq_true (by first | (with_reducible assumption) | assumption)
              obtain ⟨ad179, e179, hx179_0⟩ := Kd.at_string HR0_8.out x6_1 p179 q179
              cases e179
              replace hx179_0 := (HB.out.cell (World.block_lt_of_cell? w _ hx179_0)).trans hx179_0
              replace p179 := eq_true p179
              replace q179 := eq_true q179
              go_wp2
              go_roundg k1
              case measure => have := HK1.out; omega
              case rel => exact ⟨(wrap64 ((wrap64 (x5_1 + 4)) + ((rdOf ByteArray.empty l0_8 x6_1).size : Int))), (wrap64 (x6_1 + 1)), (by first | rfl | (simp; done) | (simp [*]; done)), (by first | rfl | (simp; done) | (simp [*]; done)), H', ⟨by have := HK1.out; omega⟩, ⟨by (with_reducible repeat (first | refine blk_drewN ?_ _ | refine blk_drew ?_ | refine blk_alloc ?_ _)); exact BK173.out⟩, ⟨by repeat (first | (with_reducible first | exact HB.out | apply below_alloc | apply pw_below_drewN | apply below_drew1 | refine below_set ?_ GE173.out) | exact HB.out)⟩⟩
            · rw [if_neg c13] at H
              exact absurd H (by simp)
          · rw [if_neg c12] at H
            have c12b0 : decide (x6_1 < (l0_8.length : Int)) = false := decide_eq_false c12
            clear c12
            by_cases c15 : (t176.size : Int) = x5_1
            · rw [if_pos c15] at H
              have c15b0 : ((t176.size : Int) == x5_1) = true := beq_iff_eq.mpr c15
              have c15b1 : ((t176.size : Int) != x5_1) = false := bne_eq_false_iff_eq.mpr c15
              clear c15
              replace H := Option.bind_eq_some_iff.mp H
              obtain ⟨t180, A160, H⟩ := H
              replace H : (some t180) = some r := H
              have A16 := Aside0.mk A160
              clear A160
              obtain rfl := Option.some.inj H
              have hcz17_0 : wr.cell? ⟨gb173, 0, none⟩ = some (.int .i64 a0_0) := (blk_cell BK173.out 0).trans rfl
              have hcz17_1 : wr.cell? ⟨gb173, 1, none⟩ = some (.int .i64 a0_1) := (blk_cell BK173.out 1).trans rfl
              have hcz17_2 : wr.cell? ⟨gb173, 2, none⟩ = some (.int .i64 a0_2) := (blk_cell BK173.out 2).trans rfl
              have hcz17_3 : wr.cell? ⟨gb173, 3, none⟩ = some (.int .i64 a0_3) := (blk_cell BK173.out 3).trans rfl
              have hcz17_4 : wr.cell? ⟨gb173, 4, none⟩ = some (.string a0_4) := (blk_cell BK173.out 4).trans rfl
              have hcz17_5 : wr.cell? ⟨gb173, 5, none⟩ = some (.int .i64 a0_5) := (blk_cell BK173.out 5).trans rfl
              have hcz17_6 : wr.cell? ⟨gb173, 6, none⟩ = some (.int .i64 a0_6) := (blk_cell BK173.out 6).trans rfl
              have hcz17_7 : wr.cell? ⟨gb173, 7, none⟩ = some (.string a0_7) := (blk_cell BK173.out 7).trans rfl
              have hcz17_8 : wr.cell? ⟨gb173, 8, none⟩ = some (.slice A0_8 l0_8.length c0_8) := (blk_cell BK173.out 8).trans rfl
              have hfz17_0 := blk_frozen BK173.out 0
              have hfz17_1 := blk_frozen BK173.out 1
              have hfz17_2 := blk_frozen BK173.out 2
              have hfz17_3 := blk_frozen BK173.out 3
              have hfz17_4 := blk_frozen BK173.out 4
              have hfz17_5 := blk_frozen BK173.out 5
              have hfz17_6 := blk_frozen BK173.out 6
              have hfz17_7 := blk_frozen BK173.out 7
              have hfz17_8 := blk_frozen BK173.out 8
              go_wp2_with (first | (go_at_call 10; (with_reducible refine (vitrinelaw20_awake.calls k1  t180 _ A16.out).mono ?_); rintro e w18 ⟨rfl, hb⟩; have n0_ := Aside0.mk (blk_below (g := gb173) (o := .cells #[.int .i64 a0_0, .int .i64 a0_1, .int .i64 a0_2, .int .i64 a0_3, .string a0_4, .int .i64 a0_5, .int .i64 a0_6, .string a0_7, .slice A0_8 l0_8.length c0_8] 26 (0, 0)) (by (with_reducible repeat (first | refine blk_drewN ?_ _ | refine blk_drew ?_ | refine blk_alloc ?_ _)); exact BK173.out) hb); have n1_ := Aside0.mk (below_step (by repeat (first | (with_reducible first | exact HB.out | apply below_alloc | apply pw_below_drewN | apply below_drew1 | refine below_set ?_ GE173.out) | exact HB.out)) hb); clear BK173; clear HB; have BK173 := n0_; have HB := n1_; clear n0_ n1_; (try clear hb); (try clear hb2); (try clear hk); (try clear hi)))
              go_ret
              exact ⟨by first | rfl | (simp [errW_none, errW_some] <;> rfl) | (simp [*, errW_none, errW_some] <;> rfl), by repeat (first | (with_reducible first | exact HB.out | apply below_alloc | apply pw_below_drewN | apply below_drew1 | refine below_set ?_ GE173.out) | exact HB.out)⟩
            · rw [if_neg c15] at H
              have c15b0 : ((t176.size : Int) == x5_1) = false := beq_eq_false_iff_ne.mpr c15
              have c15b1 : ((t176.size : Int) != x5_1) = true := bne_iff_ne.mpr c15
              obtain rfl := Option.some.inj H
              have hcz19_0 : wr.cell? ⟨gb173, 0, none⟩ = some (.int .i64 a0_0) := (blk_cell BK173.out 0).trans rfl
              have hcz19_1 : wr.cell? ⟨gb173, 1, none⟩ = some (.int .i64 a0_1) := (blk_cell BK173.out 1).trans rfl
              have hcz19_2 : wr.cell? ⟨gb173, 2, none⟩ = some (.int .i64 a0_2) := (blk_cell BK173.out 2).trans rfl
              have hcz19_3 : wr.cell? ⟨gb173, 3, none⟩ = some (.int .i64 a0_3) := (blk_cell BK173.out 3).trans rfl
              have hcz19_4 : wr.cell? ⟨gb173, 4, none⟩ = some (.string a0_4) := (blk_cell BK173.out 4).trans rfl
              have hcz19_5 : wr.cell? ⟨gb173, 5, none⟩ = some (.int .i64 a0_5) := (blk_cell BK173.out 5).trans rfl
              have hcz19_6 : wr.cell? ⟨gb173, 6, none⟩ = some (.int .i64 a0_6) := (blk_cell BK173.out 6).trans rfl
              have hcz19_7 : wr.cell? ⟨gb173, 7, none⟩ = some (.string a0_7) := (blk_cell BK173.out 7).trans rfl
              have hcz19_8 : wr.cell? ⟨gb173, 8, none⟩ = some (.slice A0_8 l0_8.length c0_8) := (blk_cell BK173.out 8).trans rfl
              have hfz19_0 := blk_frozen BK173.out 0
              have hfz19_1 := blk_frozen BK173.out 1
              have hfz19_2 := blk_frozen BK173.out 2
              have hfz19_3 := blk_frozen BK173.out 3
              have hfz19_4 := blk_frozen BK173.out 4
              have hfz19_5 := blk_frozen BK173.out 5
              have hfz19_6 := blk_frozen BK173.out 6
              have hfz19_7 := blk_frozen BK173.out 7
              have hfz19_8 := blk_frozen BK173.out 8
              go_wp2
              go_ret
              exact ⟨by first | rfl | (simp [errW_none, errW_some] <;> rfl) | (simp [*, errW_none, errW_some] <;> rfl), by repeat (first | (with_reducible first | exact HB.out | apply below_alloc | apply pw_below_drewN | apply below_drew1 | refine below_set ?_ GE173.out) | exact HB.out)⟩
    · rw [if_neg c5] at H
      have c5b0 : (t177 == 0) = false := beq_eq_false_iff_ne.mpr c5
      have c5b1 : (t177 != 0) = true := bne_iff_ne.mpr c5
      by_cases c20 : t177 = 60
      · rw [if_pos c20] at H
        have c20b0 : (t177 == 60) = true := beq_iff_eq.mpr c20
        have c20b1 : (t177 != 60) = false := bne_eq_false_iff_eq.mpr c20
        clear c20
        by_cases c21 : t176.toList = ([] : List UInt8)
        · rw [if_pos c21] at H
          have c21b0 : (t176.toList == ([] : List UInt8)) = true := beq_iff_eq.mpr c21
          have c21b1 : (t176.toList != ([] : List UInt8)) = false := bne_eq_false_iff_eq.mpr c21
          clear c21
          replace H := Option.bind_eq_some_iff.mp H
          obtain ⟨t178, A220, H⟩ := H
          replace H : (some t178) = some r := H
          have A22 := Aside0.mk A220
          clear A220
          obtain rfl := Option.some.inj H
          go_enter Try.func4, Try.ntmps4
          go_wp2_with (first | ((with_reducible refine gate_dst (N := 1) rfl ?_); refine box_event ?hg (N := 1) ?hd (cs := #[.int .i64 a0_0, .int .i64 a0_1, .int .i64 a0_2, .int .i64 a0_3, .string a0_4, .int .i64 a0_5, .int .i64 a0_6, .string a0_7, .slice A0_8 l0_8.length c0_8]) (t := 26) ?hr ?_; (case hd => rfl); (case hg => rfl); (case hr => first | (go_simp; done) | (go_simp; rfl)); intro gb173 hg w23 hbox hb; have n0_ := Aside0.mk (below_step (by repeat (first | (with_reducible first | exact HB.out | apply below_alloc | apply pw_below_drewN | apply below_drew1) | exact HB.out)) hb); have n1_ := Aside0.mk (hbox); have n2_ := Aside0.mk ((by rw [hg]; exact (below_size (by repeat (first | (with_reducible first | exact HB.out | apply below_alloc | apply pw_below_drewN | apply below_drew1) | exact HB.out))) : w.heap.size ≤ gb173)); have n3_ := Aside0.mk ((by rw [hg]; exact (below_size (by repeat (first | (with_reducible first | exact HB.out | apply below_alloc | apply pw_below_drewN | apply below_drew1) | exact HB.out))) : w.heap.size ≤ gb173)); clear HB; have HB := n0_; have BK173 := n1_; have GW173 := n2_; have GE173 := n3_; clear n0_ n1_ n2_ n3_; clear hb hbox hg; have hcz24_0 : w23.cell? ⟨gb173, 0, none⟩ = some (.int .i64 a0_0) := (blk_cell BK173.out 0).trans rfl; have hcz24_1 : w23.cell? ⟨gb173, 1, none⟩ = some (.int .i64 a0_1) := (blk_cell BK173.out 1).trans rfl; have hcz24_2 : w23.cell? ⟨gb173, 2, none⟩ = some (.int .i64 a0_2) := (blk_cell BK173.out 2).trans rfl; have hcz24_3 : w23.cell? ⟨gb173, 3, none⟩ = some (.int .i64 a0_3) := (blk_cell BK173.out 3).trans rfl; have hcz24_4 : w23.cell? ⟨gb173, 4, none⟩ = some (.string a0_4) := (blk_cell BK173.out 4).trans rfl; have hcz24_5 : w23.cell? ⟨gb173, 5, none⟩ = some (.int .i64 a0_5) := (blk_cell BK173.out 5).trans rfl; have hcz24_6 : w23.cell? ⟨gb173, 6, none⟩ = some (.int .i64 a0_6) := (blk_cell BK173.out 6).trans rfl; have hcz24_7 : w23.cell? ⟨gb173, 7, none⟩ = some (.string a0_7) := (blk_cell BK173.out 7).trans rfl; have hcz24_8 : w23.cell? ⟨gb173, 8, none⟩ = some (.slice A0_8 l0_8.length c0_8) := (blk_cell BK173.out 8).trans rfl; have hfz24_0 := blk_frozen BK173.out 0; have hfz24_1 := blk_frozen BK173.out 1; have hfz24_2 := blk_frozen BK173.out 2; have hfz24_3 := blk_frozen BK173.out 3; have hfz24_4 := blk_frozen BK173.out 4; have hfz24_5 := blk_frozen BK173.out 5; have hfz24_6 := blk_frozen BK173.out 6; have hfz24_7 := blk_frozen BK173.out 7; have hfz24_8 := blk_frozen BK173.out 8) | ((with_reducible refine gate_callee (f := 9) rfl ?_); refine goesL_ (some 8) rfl rfl Try.func9 (by kernel_rfl) rfl #[.agg #[.int .i64 a0_0, .int .i64 a0_1, .int .i64 a0_2, .int .i64 a0_3, .string a0_4, .int .i64 a0_5, .int .i64 a0_6, .string a0_7, .slice A0_8 l0_8.length c0_8]] rfl (by (try simp only [List.map_toArray, List.map_cons, List.map_nil]); first | done | rfl | (simp only [List.length_drop, List.length_take]; rfl) | (simp only [ByteArray.size_extract, Nat.min_self]; done) | (simp only [ByteArray.size_extract, Nat.min_self]; rfl)) ?_; (with_reducible refine (vitrinelaw20_few.calls k a0_0 a0_1 a0_2 a0_3 a0_4 a0_5 a0_6 a0_7 _ _ l0_8 true _ ?side1 ?side2 A2.out).mono ?_); (case side1 => repeat (first | exact (Kd.C_below HR0_8.out HB.out) | (with_reducible refine Kd.C_alloc ?_ _) | (with_reducible refine Kd.C_drewN ?_ _) | (with_reducible refine Kd.C_drew ?_))); (case side2 => exact HC0_8.out); rintro e w25 ⟨rfl, hb⟩; refine ⟨_, rfl, ?_⟩; have n0_ := Aside0.mk (blk_below (g := gb173) (o := .cells #[.int .i64 a0_0, .int .i64 a0_1, .int .i64 a0_2, .int .i64 a0_3, .string a0_4, .int .i64 a0_5, .int .i64 a0_6, .string a0_7, .slice A0_8 l0_8.length c0_8] 26 (0, 0)) (by (with_reducible repeat (first | refine blk_drewN ?_ _ | refine blk_drew ?_ | refine blk_alloc ?_ _)); exact BK173.out) hb); have n1_ := Aside0.mk (below_step (by repeat (first | (with_reducible first | exact HB.out | apply below_alloc | apply pw_below_drewN | apply below_drew1 | refine below_set ?_ GE173.out) | exact HB.out)) hb); clear BK173; clear HB; have BK173 := n0_; have HB := n1_; clear n0_ n1_; (try clear hb); (try clear hb2); (try clear hk); (try clear hi); have hcz26_0 : w25.cell? ⟨gb173, 0, none⟩ = some (.int .i64 a0_0) := (blk_cell BK173.out 0).trans rfl; have hcz26_1 : w25.cell? ⟨gb173, 1, none⟩ = some (.int .i64 a0_1) := (blk_cell BK173.out 1).trans rfl; have hcz26_2 : w25.cell? ⟨gb173, 2, none⟩ = some (.int .i64 a0_2) := (blk_cell BK173.out 2).trans rfl; have hcz26_3 : w25.cell? ⟨gb173, 3, none⟩ = some (.int .i64 a0_3) := (blk_cell BK173.out 3).trans rfl; have hcz26_4 : w25.cell? ⟨gb173, 4, none⟩ = some (.string a0_4) := (blk_cell BK173.out 4).trans rfl; have hcz26_5 : w25.cell? ⟨gb173, 5, none⟩ = some (.int .i64 a0_5) := (blk_cell BK173.out 5).trans rfl; have hcz26_6 : w25.cell? ⟨gb173, 6, none⟩ = some (.int .i64 a0_6) := (blk_cell BK173.out 6).trans rfl; have hcz26_7 : w25.cell? ⟨gb173, 7, none⟩ = some (.string a0_7) := (blk_cell BK173.out 7).trans rfl; have hcz26_8 : w25.cell? ⟨gb173, 8, none⟩ = some (.slice A0_8 l0_8.length c0_8) := (blk_cell BK173.out 8).trans rfl; have hfz26_0 := blk_frozen BK173.out 0; have hfz26_1 := blk_frozen BK173.out 1; have hfz26_2 := blk_frozen BK173.out 2; have hfz26_3 := blk_frozen BK173.out 3; have hfz26_4 := blk_frozen BK173.out 4; have hfz26_5 := blk_frozen BK173.out 5; have hfz26_6 := blk_frozen BK173.out 6; have hfz26_7 := blk_frozen BK173.out 7; have hfz26_8 := blk_frozen BK173.out 8) | ((with_reducible refine gate_callee (f := 11) rfl ?_); refine goesL_ (some 13) rfl rfl Try.func11 (by kernel_rfl) rfl #[.agg #[.int .i64 a0_0, .int .i64 a0_1, .int .i64 a0_2, .int .i64 a0_3, .string a0_4, .int .i64 a0_5, .int .i64 a0_6, .string a0_7, .slice A0_8 l0_8.length c0_8]] rfl (by (try simp only [List.map_toArray, List.map_cons, List.map_nil]); first | done | rfl | (simp only [List.length_drop, List.length_take]; rfl) | (simp only [ByteArray.size_extract, Nat.min_self]; done) | (simp only [ByteArray.size_extract, Nat.min_self]; rfl)) ?_; (with_reducible refine (wire_Encode.calls k a0_0 a0_1 a0_2 a0_3 a0_4 a0_5 a0_6 a0_7 _ _ l0_8 t176 t177 _ ?side1 ?side2 A4.out).mono ?_); (case side1 => repeat (first | exact (Kd.C_below HR0_8.out HB.out) | (with_reducible refine Kd.C_alloc ?_ _) | (with_reducible refine Kd.C_drewN ?_ _) | (with_reducible refine Kd.C_drew ?_))); (case side2 => exact HC0_8.out); rintro e w27 ⟨rfl, hb⟩; refine ⟨_, rfl, ?_⟩; have n0_ := Aside0.mk (blk_below (g := gb173) (o := .cells #[.int .i64 a0_0, .int .i64 a0_1, .int .i64 a0_2, .int .i64 a0_3, .string a0_4, .int .i64 a0_5, .int .i64 a0_6, .string a0_7, .slice A0_8 l0_8.length c0_8] 26 (0, 0)) (by (with_reducible repeat (first | refine blk_drewN ?_ _ | refine blk_drew ?_ | refine blk_alloc ?_ _)); exact BK173.out) hb); have n1_ := Aside0.mk (below_step (by repeat (first | (with_reducible first | exact HB.out | apply below_alloc | apply pw_below_drewN | apply below_drew1 | refine below_set ?_ GE173.out) | exact HB.out)) hb); clear BK173; clear HB; have BK173 := n0_; have HB := n1_; clear n0_ n1_; (try clear hb); (try clear hb2); (try clear hk); (try clear hi)) | (go_at_call 10; (with_reducible refine (vitrinelaw20_awake.calls k  t178 _ A22.out).mono ?_); rintro e w28 ⟨rfl, hb⟩; have n0_ := Aside0.mk (blk_below (g := gb173) (o := .cells #[.int .i64 a0_0, .int .i64 a0_1, .int .i64 a0_2, .int .i64 a0_3, .string a0_4, .int .i64 a0_5, .int .i64 a0_6, .string a0_7, .slice A0_8 l0_8.length c0_8] 26 (0, 0)) (by (with_reducible repeat (first | refine blk_drewN ?_ _ | refine blk_drew ?_ | refine blk_alloc ?_ _)); exact BK173.out) hb); have n1_ := Aside0.mk (below_step (by repeat (first | (with_reducible first | exact HB.out | apply below_alloc | apply pw_below_drewN | apply below_drew1 | refine below_set ?_ GE173.out) | exact HB.out)) hb); clear BK173; clear HB; have BK173 := n0_; have HB := n1_; clear n0_ n1_; (try clear hb); (try clear hb2); (try clear hk); (try clear hi)))
          go_ret
          exact ⟨by first | rfl | (simp [errW_none, errW_some] <;> rfl) | (simp [*, errW_none, errW_some] <;> rfl), by repeat (first | (with_reducible first | exact HB.out | apply below_alloc | apply pw_below_drewN | apply below_drew1 | refine below_set ?_ GE173.out) | exact HB.out)⟩
        · rw [if_neg c21] at H
          have c21b0 : (t176.toList == ([] : List UInt8)) = false := beq_eq_false_iff_ne.mpr c21
          have c21b1 : (t176.toList != ([] : List UInt8)) = true := bne_iff_ne.mpr c21
          obtain rfl := Option.some.inj H
          go_enter Try.func4, Try.ntmps4
          go_wp2_with (first | ((with_reducible refine gate_dst (N := 1) rfl ?_); refine box_event ?hg (N := 1) ?hd (cs := #[.int .i64 a0_0, .int .i64 a0_1, .int .i64 a0_2, .int .i64 a0_3, .string a0_4, .int .i64 a0_5, .int .i64 a0_6, .string a0_7, .slice A0_8 l0_8.length c0_8]) (t := 26) ?hr ?_; (case hd => rfl); (case hg => rfl); (case hr => first | (go_simp; done) | (go_simp; rfl)); intro gb173 hg w29 hbox hb; have n0_ := Aside0.mk (below_step (by repeat (first | (with_reducible first | exact HB.out | apply below_alloc | apply pw_below_drewN | apply below_drew1) | exact HB.out)) hb); have n1_ := Aside0.mk (hbox); have n2_ := Aside0.mk ((by rw [hg]; exact (below_size (by repeat (first | (with_reducible first | exact HB.out | apply below_alloc | apply pw_below_drewN | apply below_drew1) | exact HB.out))) : w.heap.size ≤ gb173)); have n3_ := Aside0.mk ((by rw [hg]; exact (below_size (by repeat (first | (with_reducible first | exact HB.out | apply below_alloc | apply pw_below_drewN | apply below_drew1) | exact HB.out))) : w.heap.size ≤ gb173)); clear HB; have HB := n0_; have BK173 := n1_; have GW173 := n2_; have GE173 := n3_; clear n0_ n1_ n2_ n3_; clear hb hbox hg; have hcz30_0 : w29.cell? ⟨gb173, 0, none⟩ = some (.int .i64 a0_0) := (blk_cell BK173.out 0).trans rfl; have hcz30_1 : w29.cell? ⟨gb173, 1, none⟩ = some (.int .i64 a0_1) := (blk_cell BK173.out 1).trans rfl; have hcz30_2 : w29.cell? ⟨gb173, 2, none⟩ = some (.int .i64 a0_2) := (blk_cell BK173.out 2).trans rfl; have hcz30_3 : w29.cell? ⟨gb173, 3, none⟩ = some (.int .i64 a0_3) := (blk_cell BK173.out 3).trans rfl; have hcz30_4 : w29.cell? ⟨gb173, 4, none⟩ = some (.string a0_4) := (blk_cell BK173.out 4).trans rfl; have hcz30_5 : w29.cell? ⟨gb173, 5, none⟩ = some (.int .i64 a0_5) := (blk_cell BK173.out 5).trans rfl; have hcz30_6 : w29.cell? ⟨gb173, 6, none⟩ = some (.int .i64 a0_6) := (blk_cell BK173.out 6).trans rfl; have hcz30_7 : w29.cell? ⟨gb173, 7, none⟩ = some (.string a0_7) := (blk_cell BK173.out 7).trans rfl; have hcz30_8 : w29.cell? ⟨gb173, 8, none⟩ = some (.slice A0_8 l0_8.length c0_8) := (blk_cell BK173.out 8).trans rfl; have hfz30_0 := blk_frozen BK173.out 0; have hfz30_1 := blk_frozen BK173.out 1; have hfz30_2 := blk_frozen BK173.out 2; have hfz30_3 := blk_frozen BK173.out 3; have hfz30_4 := blk_frozen BK173.out 4; have hfz30_5 := blk_frozen BK173.out 5; have hfz30_6 := blk_frozen BK173.out 6; have hfz30_7 := blk_frozen BK173.out 7; have hfz30_8 := blk_frozen BK173.out 8) | ((with_reducible refine gate_callee (f := 9) rfl ?_); refine goesL_ (some 8) rfl rfl Try.func9 (by kernel_rfl) rfl #[.agg #[.int .i64 a0_0, .int .i64 a0_1, .int .i64 a0_2, .int .i64 a0_3, .string a0_4, .int .i64 a0_5, .int .i64 a0_6, .string a0_7, .slice A0_8 l0_8.length c0_8]] rfl (by (try simp only [List.map_toArray, List.map_cons, List.map_nil]); first | done | rfl | (simp only [List.length_drop, List.length_take]; rfl) | (simp only [ByteArray.size_extract, Nat.min_self]; done) | (simp only [ByteArray.size_extract, Nat.min_self]; rfl)) ?_; (with_reducible refine (vitrinelaw20_few.calls k a0_0 a0_1 a0_2 a0_3 a0_4 a0_5 a0_6 a0_7 _ _ l0_8 true _ ?side1 ?side2 A2.out).mono ?_); (case side1 => repeat (first | exact (Kd.C_below HR0_8.out HB.out) | (with_reducible refine Kd.C_alloc ?_ _) | (with_reducible refine Kd.C_drewN ?_ _) | (with_reducible refine Kd.C_drew ?_))); (case side2 => exact HC0_8.out); rintro e w31 ⟨rfl, hb⟩; refine ⟨_, rfl, ?_⟩; have n0_ := Aside0.mk (blk_below (g := gb173) (o := .cells #[.int .i64 a0_0, .int .i64 a0_1, .int .i64 a0_2, .int .i64 a0_3, .string a0_4, .int .i64 a0_5, .int .i64 a0_6, .string a0_7, .slice A0_8 l0_8.length c0_8] 26 (0, 0)) (by (with_reducible repeat (first | refine blk_drewN ?_ _ | refine blk_drew ?_ | refine blk_alloc ?_ _)); exact BK173.out) hb); have n1_ := Aside0.mk (below_step (by repeat (first | (with_reducible first | exact HB.out | apply below_alloc | apply pw_below_drewN | apply below_drew1 | refine below_set ?_ GE173.out) | exact HB.out)) hb); clear BK173; clear HB; have BK173 := n0_; have HB := n1_; clear n0_ n1_; (try clear hb); (try clear hb2); (try clear hk); (try clear hi); have hcz32_0 : w31.cell? ⟨gb173, 0, none⟩ = some (.int .i64 a0_0) := (blk_cell BK173.out 0).trans rfl; have hcz32_1 : w31.cell? ⟨gb173, 1, none⟩ = some (.int .i64 a0_1) := (blk_cell BK173.out 1).trans rfl; have hcz32_2 : w31.cell? ⟨gb173, 2, none⟩ = some (.int .i64 a0_2) := (blk_cell BK173.out 2).trans rfl; have hcz32_3 : w31.cell? ⟨gb173, 3, none⟩ = some (.int .i64 a0_3) := (blk_cell BK173.out 3).trans rfl; have hcz32_4 : w31.cell? ⟨gb173, 4, none⟩ = some (.string a0_4) := (blk_cell BK173.out 4).trans rfl; have hcz32_5 : w31.cell? ⟨gb173, 5, none⟩ = some (.int .i64 a0_5) := (blk_cell BK173.out 5).trans rfl; have hcz32_6 : w31.cell? ⟨gb173, 6, none⟩ = some (.int .i64 a0_6) := (blk_cell BK173.out 6).trans rfl; have hcz32_7 : w31.cell? ⟨gb173, 7, none⟩ = some (.string a0_7) := (blk_cell BK173.out 7).trans rfl; have hcz32_8 : w31.cell? ⟨gb173, 8, none⟩ = some (.slice A0_8 l0_8.length c0_8) := (blk_cell BK173.out 8).trans rfl; have hfz32_0 := blk_frozen BK173.out 0; have hfz32_1 := blk_frozen BK173.out 1; have hfz32_2 := blk_frozen BK173.out 2; have hfz32_3 := blk_frozen BK173.out 3; have hfz32_4 := blk_frozen BK173.out 4; have hfz32_5 := blk_frozen BK173.out 5; have hfz32_6 := blk_frozen BK173.out 6; have hfz32_7 := blk_frozen BK173.out 7; have hfz32_8 := blk_frozen BK173.out 8) | ((with_reducible refine gate_callee (f := 11) rfl ?_); refine goesL_ (some 13) rfl rfl Try.func11 (by kernel_rfl) rfl #[.agg #[.int .i64 a0_0, .int .i64 a0_1, .int .i64 a0_2, .int .i64 a0_3, .string a0_4, .int .i64 a0_5, .int .i64 a0_6, .string a0_7, .slice A0_8 l0_8.length c0_8]] rfl (by (try simp only [List.map_toArray, List.map_cons, List.map_nil]); first | done | rfl | (simp only [List.length_drop, List.length_take]; rfl) | (simp only [ByteArray.size_extract, Nat.min_self]; done) | (simp only [ByteArray.size_extract, Nat.min_self]; rfl)) ?_; (with_reducible refine (wire_Encode.calls k a0_0 a0_1 a0_2 a0_3 a0_4 a0_5 a0_6 a0_7 _ _ l0_8 t176 t177 _ ?side1 ?side2 A4.out).mono ?_); (case side1 => repeat (first | exact (Kd.C_below HR0_8.out HB.out) | (with_reducible refine Kd.C_alloc ?_ _) | (with_reducible refine Kd.C_drewN ?_ _) | (with_reducible refine Kd.C_drew ?_))); (case side2 => exact HC0_8.out); rintro e w33 ⟨rfl, hb⟩; refine ⟨_, rfl, ?_⟩; have n0_ := Aside0.mk (blk_below (g := gb173) (o := .cells #[.int .i64 a0_0, .int .i64 a0_1, .int .i64 a0_2, .int .i64 a0_3, .string a0_4, .int .i64 a0_5, .int .i64 a0_6, .string a0_7, .slice A0_8 l0_8.length c0_8] 26 (0, 0)) (by (with_reducible repeat (first | refine blk_drewN ?_ _ | refine blk_drew ?_ | refine blk_alloc ?_ _)); exact BK173.out) hb); have n1_ := Aside0.mk (below_step (by repeat (first | (with_reducible first | exact HB.out | apply below_alloc | apply pw_below_drewN | apply below_drew1 | refine below_set ?_ GE173.out) | exact HB.out)) hb); clear BK173; clear HB; have BK173 := n0_; have HB := n1_; clear n0_ n1_; (try clear hb); (try clear hb2); (try clear hk); (try clear hi)))
          go_ret
          exact ⟨by first | rfl | (simp [errW_none, errW_some] <;> rfl) | (simp [*, errW_none, errW_some] <;> rfl), by repeat (first | (with_reducible first | exact HB.out | apply below_alloc | apply pw_below_drewN | apply below_drew1 | refine below_set ?_ GE173.out) | exact HB.out)⟩
      · rw [if_neg c20] at H
        have c20b0 : (t177 == 60) = false := beq_eq_false_iff_ne.mpr c20
        have c20b1 : (t177 != 60) = true := bne_iff_ne.mpr c20
        obtain rfl := Option.some.inj H
        go_enter Try.func4, Try.ntmps4
        go_wp2_with (first | ((with_reducible refine gate_dst (N := 1) rfl ?_); refine box_event ?hg (N := 1) ?hd (cs := #[.int .i64 a0_0, .int .i64 a0_1, .int .i64 a0_2, .int .i64 a0_3, .string a0_4, .int .i64 a0_5, .int .i64 a0_6, .string a0_7, .slice A0_8 l0_8.length c0_8]) (t := 26) ?hr ?_; (case hd => rfl); (case hg => rfl); (case hr => first | (go_simp; done) | (go_simp; rfl)); intro gb173 hg w34 hbox hb; have n0_ := Aside0.mk (below_step (by repeat (first | (with_reducible first | exact HB.out | apply below_alloc | apply pw_below_drewN | apply below_drew1) | exact HB.out)) hb); have n1_ := Aside0.mk (hbox); have n2_ := Aside0.mk ((by rw [hg]; exact (below_size (by repeat (first | (with_reducible first | exact HB.out | apply below_alloc | apply pw_below_drewN | apply below_drew1) | exact HB.out))) : w.heap.size ≤ gb173)); have n3_ := Aside0.mk ((by rw [hg]; exact (below_size (by repeat (first | (with_reducible first | exact HB.out | apply below_alloc | apply pw_below_drewN | apply below_drew1) | exact HB.out))) : w.heap.size ≤ gb173)); clear HB; have HB := n0_; have BK173 := n1_; have GW173 := n2_; have GE173 := n3_; clear n0_ n1_ n2_ n3_; clear hb hbox hg; have hcz35_0 : w34.cell? ⟨gb173, 0, none⟩ = some (.int .i64 a0_0) := (blk_cell BK173.out 0).trans rfl; have hcz35_1 : w34.cell? ⟨gb173, 1, none⟩ = some (.int .i64 a0_1) := (blk_cell BK173.out 1).trans rfl; have hcz35_2 : w34.cell? ⟨gb173, 2, none⟩ = some (.int .i64 a0_2) := (blk_cell BK173.out 2).trans rfl; have hcz35_3 : w34.cell? ⟨gb173, 3, none⟩ = some (.int .i64 a0_3) := (blk_cell BK173.out 3).trans rfl; have hcz35_4 : w34.cell? ⟨gb173, 4, none⟩ = some (.string a0_4) := (blk_cell BK173.out 4).trans rfl; have hcz35_5 : w34.cell? ⟨gb173, 5, none⟩ = some (.int .i64 a0_5) := (blk_cell BK173.out 5).trans rfl; have hcz35_6 : w34.cell? ⟨gb173, 6, none⟩ = some (.int .i64 a0_6) := (blk_cell BK173.out 6).trans rfl; have hcz35_7 : w34.cell? ⟨gb173, 7, none⟩ = some (.string a0_7) := (blk_cell BK173.out 7).trans rfl; have hcz35_8 : w34.cell? ⟨gb173, 8, none⟩ = some (.slice A0_8 l0_8.length c0_8) := (blk_cell BK173.out 8).trans rfl; have hfz35_0 := blk_frozen BK173.out 0; have hfz35_1 := blk_frozen BK173.out 1; have hfz35_2 := blk_frozen BK173.out 2; have hfz35_3 := blk_frozen BK173.out 3; have hfz35_4 := blk_frozen BK173.out 4; have hfz35_5 := blk_frozen BK173.out 5; have hfz35_6 := blk_frozen BK173.out 6; have hfz35_7 := blk_frozen BK173.out 7; have hfz35_8 := blk_frozen BK173.out 8) | ((with_reducible refine gate_callee (f := 9) rfl ?_); refine goesL_ (some 8) rfl rfl Try.func9 (by kernel_rfl) rfl #[.agg #[.int .i64 a0_0, .int .i64 a0_1, .int .i64 a0_2, .int .i64 a0_3, .string a0_4, .int .i64 a0_5, .int .i64 a0_6, .string a0_7, .slice A0_8 l0_8.length c0_8]] rfl (by (try simp only [List.map_toArray, List.map_cons, List.map_nil]); first | done | rfl | (simp only [List.length_drop, List.length_take]; rfl) | (simp only [ByteArray.size_extract, Nat.min_self]; done) | (simp only [ByteArray.size_extract, Nat.min_self]; rfl)) ?_; (with_reducible refine (vitrinelaw20_few.calls k a0_0 a0_1 a0_2 a0_3 a0_4 a0_5 a0_6 a0_7 _ _ l0_8 true _ ?side1 ?side2 A2.out).mono ?_); (case side1 => repeat (first | exact (Kd.C_below HR0_8.out HB.out) | (with_reducible refine Kd.C_alloc ?_ _) | (with_reducible refine Kd.C_drewN ?_ _) | (with_reducible refine Kd.C_drew ?_))); (case side2 => exact HC0_8.out); rintro e w36 ⟨rfl, hb⟩; refine ⟨_, rfl, ?_⟩; have n0_ := Aside0.mk (blk_below (g := gb173) (o := .cells #[.int .i64 a0_0, .int .i64 a0_1, .int .i64 a0_2, .int .i64 a0_3, .string a0_4, .int .i64 a0_5, .int .i64 a0_6, .string a0_7, .slice A0_8 l0_8.length c0_8] 26 (0, 0)) (by (with_reducible repeat (first | refine blk_drewN ?_ _ | refine blk_drew ?_ | refine blk_alloc ?_ _)); exact BK173.out) hb); have n1_ := Aside0.mk (below_step (by repeat (first | (with_reducible first | exact HB.out | apply below_alloc | apply pw_below_drewN | apply below_drew1 | refine below_set ?_ GE173.out) | exact HB.out)) hb); clear BK173; clear HB; have BK173 := n0_; have HB := n1_; clear n0_ n1_; (try clear hb); (try clear hb2); (try clear hk); (try clear hi); have hcz37_0 : w36.cell? ⟨gb173, 0, none⟩ = some (.int .i64 a0_0) := (blk_cell BK173.out 0).trans rfl; have hcz37_1 : w36.cell? ⟨gb173, 1, none⟩ = some (.int .i64 a0_1) := (blk_cell BK173.out 1).trans rfl; have hcz37_2 : w36.cell? ⟨gb173, 2, none⟩ = some (.int .i64 a0_2) := (blk_cell BK173.out 2).trans rfl; have hcz37_3 : w36.cell? ⟨gb173, 3, none⟩ = some (.int .i64 a0_3) := (blk_cell BK173.out 3).trans rfl; have hcz37_4 : w36.cell? ⟨gb173, 4, none⟩ = some (.string a0_4) := (blk_cell BK173.out 4).trans rfl; have hcz37_5 : w36.cell? ⟨gb173, 5, none⟩ = some (.int .i64 a0_5) := (blk_cell BK173.out 5).trans rfl; have hcz37_6 : w36.cell? ⟨gb173, 6, none⟩ = some (.int .i64 a0_6) := (blk_cell BK173.out 6).trans rfl; have hcz37_7 : w36.cell? ⟨gb173, 7, none⟩ = some (.string a0_7) := (blk_cell BK173.out 7).trans rfl; have hcz37_8 : w36.cell? ⟨gb173, 8, none⟩ = some (.slice A0_8 l0_8.length c0_8) := (blk_cell BK173.out 8).trans rfl; have hfz37_0 := blk_frozen BK173.out 0; have hfz37_1 := blk_frozen BK173.out 1; have hfz37_2 := blk_frozen BK173.out 2; have hfz37_3 := blk_frozen BK173.out 3; have hfz37_4 := blk_frozen BK173.out 4; have hfz37_5 := blk_frozen BK173.out 5; have hfz37_6 := blk_frozen BK173.out 6; have hfz37_7 := blk_frozen BK173.out 7; have hfz37_8 := blk_frozen BK173.out 8) | ((with_reducible refine gate_callee (f := 11) rfl ?_); refine goesL_ (some 13) rfl rfl Try.func11 (by kernel_rfl) rfl #[.agg #[.int .i64 a0_0, .int .i64 a0_1, .int .i64 a0_2, .int .i64 a0_3, .string a0_4, .int .i64 a0_5, .int .i64 a0_6, .string a0_7, .slice A0_8 l0_8.length c0_8]] rfl (by (try simp only [List.map_toArray, List.map_cons, List.map_nil]); first | done | rfl | (simp only [List.length_drop, List.length_take]; rfl) | (simp only [ByteArray.size_extract, Nat.min_self]; done) | (simp only [ByteArray.size_extract, Nat.min_self]; rfl)) ?_; (with_reducible refine (wire_Encode.calls k a0_0 a0_1 a0_2 a0_3 a0_4 a0_5 a0_6 a0_7 _ _ l0_8 t176 t177 _ ?side1 ?side2 A4.out).mono ?_); (case side1 => repeat (first | exact (Kd.C_below HR0_8.out HB.out) | (with_reducible refine Kd.C_alloc ?_ _) | (with_reducible refine Kd.C_drewN ?_ _) | (with_reducible refine Kd.C_drew ?_))); (case side2 => exact HC0_8.out); rintro e w38 ⟨rfl, hb⟩; refine ⟨_, rfl, ?_⟩; have n0_ := Aside0.mk (blk_below (g := gb173) (o := .cells #[.int .i64 a0_0, .int .i64 a0_1, .int .i64 a0_2, .int .i64 a0_3, .string a0_4, .int .i64 a0_5, .int .i64 a0_6, .string a0_7, .slice A0_8 l0_8.length c0_8] 26 (0, 0)) (by (with_reducible repeat (first | refine blk_drewN ?_ _ | refine blk_drew ?_ | refine blk_alloc ?_ _)); exact BK173.out) hb); have n1_ := Aside0.mk (below_step (by repeat (first | (with_reducible first | exact HB.out | apply below_alloc | apply pw_below_drewN | apply below_drew1 | refine below_set ?_ GE173.out) | exact HB.out)) hb); clear BK173; clear HB; have BK173 := n0_; have HB := n1_; clear n0_ n1_; (try clear hb); (try clear hb2); (try clear hk); (try clear hi)))
        go_ret
        exact ⟨by first | rfl | (simp [errW_none, errW_some] <;> rfl) | (simp [*, errW_none, errW_some] <;> rfl), by repeat (first | (with_reducible first | exact HB.out | apply below_alloc | apply pw_below_drewN | apply below_drew1 | refine below_set ?_ GE173.out) | exact HB.out)⟩
  · replace c3 := Bool.eq_false_iff.mpr c3
    subst c3
    have H1 : ((vitrinelaw20_awake.f k).bind fun t175 => (some t175)) = some r := by rw [if_neg (show ¬ (false = true) by decide)] at H; exact H
    clear H
    have H := H1
    clear H1
    replace H := Option.bind_eq_some_iff.mp H
    obtain ⟨t175, A390, H⟩ := H
    replace H : (some t175) = some r := H
    have A39 := Aside0.mk A390
    clear A390
    obtain rfl := Option.some.inj H
    go_enter Try.func4, Try.ntmps4
    go_wp2_with (first | ((with_reducible refine gate_dst (N := 1) rfl ?_); refine box_event ?hg (N := 1) ?hd (cs := #[.int .i64 a0_0, .int .i64 a0_1, .int .i64 a0_2, .int .i64 a0_3, .string a0_4, .int .i64 a0_5, .int .i64 a0_6, .string a0_7, .slice A0_8 l0_8.length c0_8]) (t := 26) ?hr ?_; (case hd => rfl); (case hg => rfl); (case hr => first | (go_simp; done) | (go_simp; rfl)); intro gb173 hg w40 hbox hb; have n0_ := Aside0.mk (below_step (by repeat (first | (with_reducible first | exact HB.out | apply below_alloc | apply pw_below_drewN | apply below_drew1) | exact HB.out)) hb); have n1_ := Aside0.mk (hbox); have n2_ := Aside0.mk ((by rw [hg]; exact (below_size (by repeat (first | (with_reducible first | exact HB.out | apply below_alloc | apply pw_below_drewN | apply below_drew1) | exact HB.out))) : w.heap.size ≤ gb173)); have n3_ := Aside0.mk ((by rw [hg]; exact (below_size (by repeat (first | (with_reducible first | exact HB.out | apply below_alloc | apply pw_below_drewN | apply below_drew1) | exact HB.out))) : w.heap.size ≤ gb173)); clear HB; have HB := n0_; have BK173 := n1_; have GW173 := n2_; have GE173 := n3_; clear n0_ n1_ n2_ n3_; clear hb hbox hg; have hcz41_0 : w40.cell? ⟨gb173, 0, none⟩ = some (.int .i64 a0_0) := (blk_cell BK173.out 0).trans rfl; have hcz41_1 : w40.cell? ⟨gb173, 1, none⟩ = some (.int .i64 a0_1) := (blk_cell BK173.out 1).trans rfl; have hcz41_2 : w40.cell? ⟨gb173, 2, none⟩ = some (.int .i64 a0_2) := (blk_cell BK173.out 2).trans rfl; have hcz41_3 : w40.cell? ⟨gb173, 3, none⟩ = some (.int .i64 a0_3) := (blk_cell BK173.out 3).trans rfl; have hcz41_4 : w40.cell? ⟨gb173, 4, none⟩ = some (.string a0_4) := (blk_cell BK173.out 4).trans rfl; have hcz41_5 : w40.cell? ⟨gb173, 5, none⟩ = some (.int .i64 a0_5) := (blk_cell BK173.out 5).trans rfl; have hcz41_6 : w40.cell? ⟨gb173, 6, none⟩ = some (.int .i64 a0_6) := (blk_cell BK173.out 6).trans rfl; have hcz41_7 : w40.cell? ⟨gb173, 7, none⟩ = some (.string a0_7) := (blk_cell BK173.out 7).trans rfl; have hcz41_8 : w40.cell? ⟨gb173, 8, none⟩ = some (.slice A0_8 l0_8.length c0_8) := (blk_cell BK173.out 8).trans rfl; have hfz41_0 := blk_frozen BK173.out 0; have hfz41_1 := blk_frozen BK173.out 1; have hfz41_2 := blk_frozen BK173.out 2; have hfz41_3 := blk_frozen BK173.out 3; have hfz41_4 := blk_frozen BK173.out 4; have hfz41_5 := blk_frozen BK173.out 5; have hfz41_6 := blk_frozen BK173.out 6; have hfz41_7 := blk_frozen BK173.out 7; have hfz41_8 := blk_frozen BK173.out 8) | ((with_reducible refine gate_callee (f := 9) rfl ?_); refine goesL_ (some 8) rfl rfl Try.func9 (by kernel_rfl) rfl #[.agg #[.int .i64 a0_0, .int .i64 a0_1, .int .i64 a0_2, .int .i64 a0_3, .string a0_4, .int .i64 a0_5, .int .i64 a0_6, .string a0_7, .slice A0_8 l0_8.length c0_8]] rfl (by (try simp only [List.map_toArray, List.map_cons, List.map_nil]); first | done | rfl | (simp only [List.length_drop, List.length_take]; rfl) | (simp only [ByteArray.size_extract, Nat.min_self]; done) | (simp only [ByteArray.size_extract, Nat.min_self]; rfl)) ?_; (with_reducible refine (vitrinelaw20_few.calls k a0_0 a0_1 a0_2 a0_3 a0_4 a0_5 a0_6 a0_7 _ _ l0_8 false _ ?side1 ?side2 A2.out).mono ?_); (case side1 => repeat (first | exact (Kd.C_below HR0_8.out HB.out) | (with_reducible refine Kd.C_alloc ?_ _) | (with_reducible refine Kd.C_drewN ?_ _) | (with_reducible refine Kd.C_drew ?_))); (case side2 => exact HC0_8.out); rintro e w42 ⟨rfl, hb⟩; refine ⟨_, rfl, ?_⟩; have n0_ := Aside0.mk (blk_below (g := gb173) (o := .cells #[.int .i64 a0_0, .int .i64 a0_1, .int .i64 a0_2, .int .i64 a0_3, .string a0_4, .int .i64 a0_5, .int .i64 a0_6, .string a0_7, .slice A0_8 l0_8.length c0_8] 26 (0, 0)) (by (with_reducible repeat (first | refine blk_drewN ?_ _ | refine blk_drew ?_ | refine blk_alloc ?_ _)); exact BK173.out) hb); have n1_ := Aside0.mk (below_step (by repeat (first | (with_reducible first | exact HB.out | apply below_alloc | apply pw_below_drewN | apply below_drew1 | refine below_set ?_ GE173.out) | exact HB.out)) hb); clear BK173; clear HB; have BK173 := n0_; have HB := n1_; clear n0_ n1_; (try clear hb); (try clear hb2); (try clear hk); (try clear hi)) | ((with_reducible refine gate_callee (f := 10) rfl ?_); refine goesL_ (some 10) rfl rfl Try.func10 (by kernel_rfl) rfl #[] rfl (by (try simp only [List.map_toArray, List.map_cons, List.map_nil]); first | done | rfl | (simp only [List.length_drop, List.length_take]; rfl) | (simp only [ByteArray.size_extract, Nat.min_self]; done) | (simp only [ByteArray.size_extract, Nat.min_self]; rfl)) ?_; (with_reducible refine (vitrinelaw20_awake.calls k  t175 _ A39.out).mono ?_); rintro e w43 ⟨rfl, hb⟩; refine ⟨_, rfl, ?_⟩; have n0_ := Aside0.mk (blk_below (g := gb173) (o := .cells #[.int .i64 a0_0, .int .i64 a0_1, .int .i64 a0_2, .int .i64 a0_3, .string a0_4, .int .i64 a0_5, .int .i64 a0_6, .string a0_7, .slice A0_8 l0_8.length c0_8] 26 (0, 0)) (by (with_reducible repeat (first | refine blk_drewN ?_ _ | refine blk_drew ?_ | refine blk_alloc ?_ _)); exact BK173.out) hb); have n1_ := Aside0.mk (below_step (by repeat (first | (with_reducible first | exact HB.out | apply below_alloc | apply pw_below_drewN | apply below_drew1 | refine below_set ?_ GE173.out) | exact HB.out)) hb); clear BK173; clear HB; have BK173 := n0_; have HB := n1_; clear n0_ n1_; (try clear hb); (try clear hb2); (try clear hk); (try clear hi)))
    go_ret
    exact ⟨by first | rfl | (simp [errW_none, errW_some] <;> rfl) | (simp [*, errW_none, errW_some] <;> rfl), by repeat (first | (with_reducible first | exact HB.out | apply below_alloc | apply pw_below_drewN | apply below_drew1 | refine below_set ?_ GE173.out) | exact HB.out)⟩

end Go.Proofs.Ytnimhhhbefpifaa.PL20
