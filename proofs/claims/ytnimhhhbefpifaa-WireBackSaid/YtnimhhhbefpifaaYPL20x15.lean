/- Printed for this claim by a program of this session over the kit's print program: the Go functions as Lean functions, and proofs that the calls come to these answers. No conditions. -/
import Derived.Test.YtnimhhhbefpifaaYPL20x0
import Derived.Test.YtnimhhhbefpifaaYPL20x11
import Derived.Test.YtnimhhhbefpifaaYPL20x14
namespace Go.Proofs.Ytnimhhhbefpifaa.PL20
open Go.RowKit Go.Proofs.YtnimhhhbefpifaaW.PrintWords Go.Proofs.YtnimhhhbefpifaaW.PrintLast Go.Proofs.YtnimhhhbefpifaaW.PrintMore
attribute [local go_sem] max2_int min2_int max_two min_two max_three min_three max_four min_four   -- for this text's walks alone
set_option linter.unusedVariables false
set_option linter.unusedSimpArgs false

/-! ### vitrineref20_Right: function 22 -/
mutual
def vitrineref20_Right.j0 : Nat → Bool → Int → Int → Int → Int → ByteArray → Int → Int → ByteArray → List ByteArray → Option (Bool)
  | 0, _, _, _, _, _, _, _, _, _, _ => none
  | k + 1, x52, x140000, x140001, x140002, x140003, x140004, x140005, x140006, x140007, x140008 => if x52 = true then (some false) else (if x140005 < 0 then (vitrineref20_Right.j1 k true x140000 x140001 x140002 x140003 x140004 x140005 x140006 x140007 x140008) else (if x140005 > 1099511627776 then (vitrineref20_Right.j1 k true x140000 x140001 x140002 x140003 x140004 x140005 x140006 x140007 x140008) else (if x140006 < 0 then (vitrineref20_Right.j1 k true x140000 x140001 x140002 x140003 x140004 x140005 x140006 x140007 x140008) else (if x140006 > 1023 then (vitrineref20_Right.j1 k true x140000 x140001 x140002 x140003 x140004 x140005 x140006 x140007 x140008) else (if x140005 = 0 then (vitrineref20_Right.j1 k (x140006 != 0) x140000 x140001 x140002 x140003 x140004 x140005 x140006 x140007 x140008) else (vitrineref20_Right.j1 k false x140000 x140001 x140002 x140003 x140004 x140005 x140006 x140007 x140008))))))
def vitrineref20_Right.j1 : Nat → Bool → Int → Int → Int → Int → ByteArray → Int → Int → ByteArray → List ByteArray → Option (Bool)
  | 0, _, _, _, _, _, _, _, _, _, _ => none
  | k + 1, x86, x140000, x140001, x140002, x140003, x140004, x140005, x140006, x140007, x140008 => if x86 = true then (some false) else (if x140007.toList = ([] : List UInt8) then (vitrineref20_Right.j2 k 0 x140000 x140001 x140002 x140003 x140004 x140005 x140006 x140007 x140008) else ((vitrineref15_Read.f k x140007).bind fun bt141 => (if bt141.2.2.2 = 0 then (vitrineref20_Right.j2 k (bt141.2.2.1.length : Int) x140000 x140001 x140002 x140003 x140004 x140005 x140006 x140007 x140008) else (some false))))
def vitrineref20_Right.j2 : Nat → Int → Int → Int → Int → Int → ByteArray → Int → Int → ByteArray → List ByteArray → Option (Bool)
  | 0, _, _, _, _, _, _, _, _, _, _ => none
  | k + 1, x3, x140000, x140001, x140002, x140003, x140004, x140005, x140006, x140007, x140008 => if (x140008.length : Int) > x3 then (some false) else (vitrineref20_Right.l0 k 0 x140000 x140001 x140002 x140003 x140004 x140005 x140006 x140007 x140008)
def vitrineref20_Right.l0 : Nat → Int → Int → Int → Int → Int → ByteArray → Int → Int → ByteArray → List ByteArray → Option (Bool)
  | 0, _, _, _, _, _, _, _, _, _, _ => none
  | k + 1, x8, x140000, x140001, x140002, x140003, x140004, x140005, x140006, x140007, x140008 => if x8 < (x140008.length : Int) then (if 0 ≤ x8 then (if ((rdOf ByteArray.empty x140008 x8).size : Int) > 65536 then (some false) else (vitrineref20_Right.l0 k (wrap64 (x8 + 1)) x140000 x140001 x140002 x140003 x140004 x140005 x140006 x140007 x140008)) else (none)) else (some true)
end
def vitrineref20_Right.f (k : Nat) (a0_0 : Int) (a0_1 : Int) (a0_2 : Int) (a0_3 : Int) (a0_4 : ByteArray) (a0_5 : Int) (a0_6 : Int) (a0_7 : ByteArray) (l0_8 : List ByteArray) : Option (Bool) := if a0_0 < 1 then (vitrineref20_Right.j0 k true a0_0 a0_1 a0_2 a0_3 a0_4 a0_5 a0_6 a0_7 l0_8) else (if a0_0 > 4 then (vitrineref20_Right.j0 k true a0_0 a0_1 a0_2 a0_3 a0_4 a0_5 a0_6 a0_7 l0_8) else (if a0_1 < 0 then (vitrineref20_Right.j0 k true a0_0 a0_1 a0_2 a0_3 a0_4 a0_5 a0_6 a0_7 l0_8) else (if a0_1 > 1023 then (vitrineref20_Right.j0 k true a0_0 a0_1 a0_2 a0_3 a0_4 a0_5 a0_6 a0_7 l0_8) else (if a0_2 < 0 then (vitrineref20_Right.j0 k true a0_0 a0_1 a0_2 a0_3 a0_4 a0_5 a0_6 a0_7 l0_8) else (if a0_2 > 1023 then (vitrineref20_Right.j0 k true a0_0 a0_1 a0_2 a0_3 a0_4 a0_5 a0_6 a0_7 l0_8) else (if a0_3 < 0 then (vitrineref20_Right.j0 k true a0_0 a0_1 a0_2 a0_3 a0_4 a0_5 a0_6 a0_7 l0_8) else (if a0_3 > 1099511627776 then (vitrineref20_Right.j0 k true a0_0 a0_1 a0_2 a0_3 a0_4 a0_5 a0_6 a0_7 l0_8) else ((vitrineref15_Name.f k a0_4).bind fun t140 => (vitrineref20_Right.j0 k (t140 != 0) a0_0 a0_1 a0_2 a0_3 a0_4 a0_5 a0_6 a0_7 l0_8)))))))))
theorem vitrineref20_Right.mono_l : ∀ k, (∀ y0 y1 y2 y3 y4 y5 y6 y7 y8 y9, LeO (vitrineref20_Right.j0 k y0 y1 y2 y3 y4 y5 y6 y7 y8 y9) (vitrineref20_Right.j0 (k + 1) y0 y1 y2 y3 y4 y5 y6 y7 y8 y9)) ∧ (∀ y0 y1 y2 y3 y4 y5 y6 y7 y8 y9, LeO (vitrineref20_Right.j1 k y0 y1 y2 y3 y4 y5 y6 y7 y8 y9) (vitrineref20_Right.j1 (k + 1) y0 y1 y2 y3 y4 y5 y6 y7 y8 y9)) ∧ (∀ y0 y1 y2 y3 y4 y5 y6 y7 y8 y9, LeO (vitrineref20_Right.j2 k y0 y1 y2 y3 y4 y5 y6 y7 y8 y9) (vitrineref20_Right.j2 (k + 1) y0 y1 y2 y3 y4 y5 y6 y7 y8 y9)) ∧ (∀ y0 y1 y2 y3 y4 y5 y6 y7 y8 y9, LeO (vitrineref20_Right.l0 k y0 y1 y2 y3 y4 y5 y6 y7 y8 y9) (vitrineref20_Right.l0 (k + 1) y0 y1 y2 y3 y4 y5 y6 y7 y8 y9))
  | 0 => ⟨fun _ _ _ _ _ _ _ _ _ _ r h => by simp [vitrineref20_Right.j0] at h, fun _ _ _ _ _ _ _ _ _ _ r h => by simp [vitrineref20_Right.j1] at h, fun _ _ _ _ _ _ _ _ _ _ r h => by simp [vitrineref20_Right.j2] at h, fun _ _ _ _ _ _ _ _ _ _ r h => by simp [vitrineref20_Right.l0] at h⟩
  | k + 1 => by
    obtain ⟨ih0, ih1, ih2, ih3⟩ := vitrineref20_Right.mono_l k
    refine ⟨?_, ?_, ?_, ?_⟩
    · intro y0 y1 y2 y3 y4 y5 y6 y7 y8 y9
      unfold vitrineref20_Right.j0
      repeat' first
      | (with_reducible exact ih0 _ _ _ _ _ _ _ _ _ _)
      | (with_reducible exact ih1 _ _ _ _ _ _ _ _ _ _)
      | (with_reducible exact ih2 _ _ _ _ _ _ _ _ _ _)
      | (with_reducible exact ih3 _ _ _ _ _ _ _ _ _ _)
      | (with_reducible exact vitrineref15_Name.mono _ _)
      | (with_reducible exact vitrineref15_Read.mono _ _)
      | (with_reducible exact LeO.refl _)
      | (with_reducible exact LeO.none _)
      | (with_reducible refine LeO.ite ?_ ?_)
      | (with_reducible refine LeO.bind ?_ (fun _ => ?_))
      | exact ih0 _ _ _ _ _ _ _ _ _ _
      | exact ih1 _ _ _ _ _ _ _ _ _ _
      | exact ih2 _ _ _ _ _ _ _ _ _ _
      | exact ih3 _ _ _ _ _ _ _ _ _ _
      | exact vitrineref15_Name.mono _ _
      | exact vitrineref15_Read.mono _ _
      | exact LeO.none _
      | refine LeO.ite ?_ ?_
      | refine LeO.bind ?_ (fun _ => ?_)
    · intro y0 y1 y2 y3 y4 y5 y6 y7 y8 y9
      unfold vitrineref20_Right.j1
      repeat' first
      | (with_reducible exact ih0 _ _ _ _ _ _ _ _ _ _)
      | (with_reducible exact ih1 _ _ _ _ _ _ _ _ _ _)
      | (with_reducible exact ih2 _ _ _ _ _ _ _ _ _ _)
      | (with_reducible exact ih3 _ _ _ _ _ _ _ _ _ _)
      | (with_reducible exact vitrineref15_Name.mono _ _)
      | (with_reducible exact vitrineref15_Read.mono _ _)
      | (with_reducible exact LeO.refl _)
      | (with_reducible exact LeO.none _)
      | (with_reducible refine LeO.ite ?_ ?_)
      | (with_reducible refine LeO.bind ?_ (fun _ => ?_))
      | exact ih0 _ _ _ _ _ _ _ _ _ _
      | exact ih1 _ _ _ _ _ _ _ _ _ _
      | exact ih2 _ _ _ _ _ _ _ _ _ _
      | exact ih3 _ _ _ _ _ _ _ _ _ _
      | exact vitrineref15_Name.mono _ _
      | exact vitrineref15_Read.mono _ _
      | exact LeO.none _
      | refine LeO.ite ?_ ?_
      | refine LeO.bind ?_ (fun _ => ?_)
    · intro y0 y1 y2 y3 y4 y5 y6 y7 y8 y9
      unfold vitrineref20_Right.j2
      repeat' first
      | (with_reducible exact ih0 _ _ _ _ _ _ _ _ _ _)
      | (with_reducible exact ih1 _ _ _ _ _ _ _ _ _ _)
      | (with_reducible exact ih2 _ _ _ _ _ _ _ _ _ _)
      | (with_reducible exact ih3 _ _ _ _ _ _ _ _ _ _)
      | (with_reducible exact vitrineref15_Name.mono _ _)
      | (with_reducible exact vitrineref15_Read.mono _ _)
      | (with_reducible exact LeO.refl _)
      | (with_reducible exact LeO.none _)
      | (with_reducible refine LeO.ite ?_ ?_)
      | (with_reducible refine LeO.bind ?_ (fun _ => ?_))
      | exact ih0 _ _ _ _ _ _ _ _ _ _
      | exact ih1 _ _ _ _ _ _ _ _ _ _
      | exact ih2 _ _ _ _ _ _ _ _ _ _
      | exact ih3 _ _ _ _ _ _ _ _ _ _
      | exact vitrineref15_Name.mono _ _
      | exact vitrineref15_Read.mono _ _
      | exact LeO.none _
      | refine LeO.ite ?_ ?_
      | refine LeO.bind ?_ (fun _ => ?_)
    · intro y0 y1 y2 y3 y4 y5 y6 y7 y8 y9
      unfold vitrineref20_Right.l0
      repeat' first
      | (with_reducible exact ih0 _ _ _ _ _ _ _ _ _ _)
      | (with_reducible exact ih1 _ _ _ _ _ _ _ _ _ _)
      | (with_reducible exact ih2 _ _ _ _ _ _ _ _ _ _)
      | (with_reducible exact ih3 _ _ _ _ _ _ _ _ _ _)
      | (with_reducible exact vitrineref15_Name.mono _ _)
      | (with_reducible exact vitrineref15_Read.mono _ _)
      | (with_reducible exact LeO.refl _)
      | (with_reducible exact LeO.none _)
      | (with_reducible refine LeO.ite ?_ ?_)
      | (with_reducible refine LeO.bind ?_ (fun _ => ?_))
      | exact ih0 _ _ _ _ _ _ _ _ _ _
      | exact ih1 _ _ _ _ _ _ _ _ _ _
      | exact ih2 _ _ _ _ _ _ _ _ _ _
      | exact ih3 _ _ _ _ _ _ _ _ _ _
      | exact vitrineref15_Name.mono _ _
      | exact vitrineref15_Read.mono _ _
      | exact LeO.none _
      | refine LeO.ite ?_ ?_
      | refine LeO.bind ?_ (fun _ => ?_)
theorem vitrineref20_Right.mono : ∀ a0 a1 a2 a3 a4 a5 a6 a7 a8 k, LeO (vitrineref20_Right.f k a0 a1 a2 a3 a4 a5 a6 a7 a8) (vitrineref20_Right.f (k + 1) a0 a1 a2 a3 a4 a5 a6 a7 a8) := by
  intro a0 a1 a2 a3 a4 a5 a6 a7 a8 k
  obtain ⟨ih0, ih1, ih2, ih3⟩ := vitrineref20_Right.mono_l k
  unfold vitrineref20_Right.f
  repeat' first
      | (with_reducible exact ih0 _ _ _ _ _ _ _ _ _ _)
      | (with_reducible exact ih1 _ _ _ _ _ _ _ _ _ _)
      | (with_reducible exact ih2 _ _ _ _ _ _ _ _ _ _)
      | (with_reducible exact ih3 _ _ _ _ _ _ _ _ _ _)
      | (with_reducible exact vitrineref15_Name.mono _ _)
      | (with_reducible exact vitrineref15_Read.mono _ _)
      | (with_reducible exact LeO.refl _)
      | (with_reducible exact LeO.none _)
      | (with_reducible refine LeO.ite ?_ ?_)
      | (with_reducible refine LeO.bind ?_ (fun _ => ?_))
      | exact ih0 _ _ _ _ _ _ _ _ _ _
      | exact ih1 _ _ _ _ _ _ _ _ _ _
      | exact ih2 _ _ _ _ _ _ _ _ _ _
      | exact ih3 _ _ _ _ _ _ _ _ _ _
      | exact vitrineref15_Name.mono _ _
      | exact vitrineref15_Read.mono _ _
      | exact LeO.none _
      | refine LeO.ite ?_ ?_
      | refine LeO.bind ?_ (fun _ => ?_)
set_option maxHeartbeats 40000000 in
set_option maxRecDepth 100000 in
theorem vitrineref20_Right.calls (k : Nat) (a0_0 : Int) (a0_1 : Int) (a0_2 : Int) (a0_3 : Int) (a0_4 : ByteArray) (a0_5 : Int) (a0_6 : Int) (a0_7 : ByteArray) (A0_8 : Option Addr) (c0_8 : Nat) (l0_8 : List ByteArray) (r : Bool) (w : World) (hr0_8 : Kd.C Kd.string w A0_8 l0_8.length l0_8) (hc0_8 : l0_8.length ≤ c0_8) (h : vitrineref20_Right.f k a0_0 a0_1 a0_2 a0_3 a0_4 a0_5 a0_6 a0_7 l0_8 = some r) :
    Calls Try.prog 22 #[.agg #[.int .i64 a0_0, .int .i64 a0_1, .int .i64 a0_2, .int .i64 a0_3, .string a0_4, .int .i64 a0_5, .int .i64 a0_6, .string a0_7, .slice A0_8 l0_8.length c0_8]] w fun e w' => e = .returned (.bool r) ∧ Below w.heap.size w w' := by
  have hu26 := Try.underlying26
  have HR0_8 := Aside0.mk hr0_8
  have HC0_8 := Aside0.mk hc0_8
  clear hr0_8 hc0_8
  have HB := Aside0.mk (Below.refl w.heap.size w)
  have H : (if a0_0 < 1 then (vitrineref20_Right.j0 k true a0_0 a0_1 a0_2 a0_3 a0_4 a0_5 a0_6 a0_7 l0_8) else (if a0_0 > 4 then (vitrineref20_Right.j0 k true a0_0 a0_1 a0_2 a0_3 a0_4 a0_5 a0_6 a0_7 l0_8) else (if a0_1 < 0 then (vitrineref20_Right.j0 k true a0_0 a0_1 a0_2 a0_3 a0_4 a0_5 a0_6 a0_7 l0_8) else (if a0_1 > 1023 then (vitrineref20_Right.j0 k true a0_0 a0_1 a0_2 a0_3 a0_4 a0_5 a0_6 a0_7 l0_8) else (if a0_2 < 0 then (vitrineref20_Right.j0 k true a0_0 a0_1 a0_2 a0_3 a0_4 a0_5 a0_6 a0_7 l0_8) else (if a0_2 > 1023 then (vitrineref20_Right.j0 k true a0_0 a0_1 a0_2 a0_3 a0_4 a0_5 a0_6 a0_7 l0_8) else (if a0_3 < 0 then (vitrineref20_Right.j0 k true a0_0 a0_1 a0_2 a0_3 a0_4 a0_5 a0_6 a0_7 l0_8) else (if a0_3 > 1099511627776 then (vitrineref20_Right.j0 k true a0_0 a0_1 a0_2 a0_3 a0_4 a0_5 a0_6 a0_7 l0_8) else ((vitrineref15_Name.f k a0_4).bind fun t140 => (vitrineref20_Right.j0 k (t140 != 0) a0_0 a0_1 a0_2 a0_3 a0_4 a0_5 a0_6 a0_7 l0_8)))))))))) = some r := h
  clear h
  have HC2 := Aside0.mk H
  clear H
  go_enter Try.func22, Try.ntmps22
  go_upto_region 1 with (first | ((with_reducible refine gate_dst (N := 1) rfl ?_); refine box_event ?hg (N := 1) ?hd (cs := #[.int .i64 a0_0, .int .i64 a0_1, .int .i64 a0_2, .int .i64 a0_3, .string a0_4, .int .i64 a0_5, .int .i64 a0_6, .string a0_7, .slice A0_8 l0_8.length c0_8]) (t := 26) ?hr ?_; (case hd => rfl); (case hg => rfl); (case hr => first | (go_simp; done) | (go_simp; rfl)); intro gb139 hg w3 hbox hb; have n0_ := Aside0.mk (below_step (by repeat (first | (with_reducible first | exact HB.out | apply below_alloc | apply pw_below_drewN | apply below_drew1) | exact HB.out)) hb); have n1_ := Aside0.mk (hbox); have n2_ := Aside0.mk ((by rw [hg]; exact (below_size (by repeat (first | (with_reducible first | exact HB.out | apply below_alloc | apply pw_below_drewN | apply below_drew1) | exact HB.out))) : w.heap.size ≤ gb139)); have n3_ := Aside0.mk ((by rw [hg]; exact (below_size (by repeat (first | (with_reducible first | exact HB.out | apply below_alloc | apply pw_below_drewN | apply below_drew1) | exact HB.out))) : w.heap.size ≤ gb139)); clear HB; have HB := n0_; have BK139 := n1_; have GW139 := n2_; have GE139 := n3_; clear n0_ n1_ n2_ n3_; clear hb hbox hg))
  (try simp only [Act.put, List.setIfInBounds_toArray, List.set_cons_zero, List.set_cons_succ])
  go_cut [52] (fun v52 wc => ∃ (kq : Nat) (x52_1 : Bool), v52 = .bool x52_1 ∧ Aside0 (vitrineref20_Right.j0 kq x52_1 a0_0 a0_1 a0_2 a0_3 a0_4 a0_5 a0_6 a0_7 l0_8 = some r) ∧ Aside0 (kq ≤ k) ∧ Aside0 (wc.heap[gb139]? = some (.cells #[.int .i64 a0_0, .int .i64 a0_1, .int .i64 a0_2, .int .i64 a0_3, .string a0_4, .int .i64 a0_5, .int .i64 a0_6, .string a0_7, (.slice A0_8 l0_8.length c0_8)] 26 (0, 0))) ∧ Aside0 (Below w.heap.size w wc))
  case first =>
    have H := HC2.out
    clear HC2
    by_cases c4 : a0_0 < 1
    · rw [if_pos c4] at H
      have c4b0 : decide (a0_0 < 1) = true := decide_eq_true c4
      clear c4
      (first | rw [c4b0] | (simp only [i64_w, i32_w]; rw [c4b0]) | skip)
      have H' := Aside0.mk H
      clear H
      have hcz5_0 : w3.cell? ⟨gb139, 0, none⟩ = some (.int .i64 a0_0) := (blk_cell BK139.out 0).trans rfl
      have hcz5_1 : w3.cell? ⟨gb139, 1, none⟩ = some (.int .i64 a0_1) := (blk_cell BK139.out 1).trans rfl
      have hcz5_2 : w3.cell? ⟨gb139, 2, none⟩ = some (.int .i64 a0_2) := (blk_cell BK139.out 2).trans rfl
      have hcz5_3 : w3.cell? ⟨gb139, 3, none⟩ = some (.int .i64 a0_3) := (blk_cell BK139.out 3).trans rfl
      have hcz5_4 : w3.cell? ⟨gb139, 4, none⟩ = some (.string a0_4) := (blk_cell BK139.out 4).trans rfl
      have hcz5_5 : w3.cell? ⟨gb139, 5, none⟩ = some (.int .i64 a0_5) := (blk_cell BK139.out 5).trans rfl
      have hcz5_6 : w3.cell? ⟨gb139, 6, none⟩ = some (.int .i64 a0_6) := (blk_cell BK139.out 6).trans rfl
      have hcz5_7 : w3.cell? ⟨gb139, 7, none⟩ = some (.string a0_7) := (blk_cell BK139.out 7).trans rfl
      have hcz5_8 : w3.cell? ⟨gb139, 8, none⟩ = some (.slice A0_8 l0_8.length c0_8) := (blk_cell BK139.out 8).trans rfl
      have hfz5_0 := blk_frozen BK139.out 0
      have hfz5_1 := blk_frozen BK139.out 1
      have hfz5_2 := blk_frozen BK139.out 2
      have hfz5_3 := blk_frozen BK139.out 3
      have hfz5_4 := blk_frozen BK139.out 4
      have hfz5_5 := blk_frozen BK139.out 5
      have hfz5_6 := blk_frozen BK139.out 6
      have hfz5_7 := blk_frozen BK139.out 7
      have hfz5_8 := blk_frozen BK139.out 8
      go_wp2
      go_meet
      case rel => exact ⟨_, (true), (by first | rfl | (simp; done) | (simp [*]; done)), H', ⟨by first | omega | exact Nat.le_refl _⟩, ⟨by (with_reducible repeat (first | refine blk_drewN ?_ _ | refine blk_drew ?_ | refine blk_alloc ?_ _)); exact BK139.out⟩, ⟨by repeat (first | (with_reducible first | exact HB.out | apply below_alloc | apply pw_below_drewN | apply below_drew1 | refine below_set ?_ GE139.out) | exact HB.out)⟩⟩
    · rw [if_neg c4] at H
      have c4b0 : decide (a0_0 < 1) = false := decide_eq_false c4
      clear c4
      (first | rw [c4b0] | (simp only [i64_w, i32_w]; rw [c4b0]) | skip)
      by_cases c6 : a0_0 > 4
      · rw [if_pos c6] at H
        have c6b0 : decide (4 < a0_0) = true := decide_eq_true c6
        clear c6
        have H' := Aside0.mk H
        clear H
        have hcz7_0 : w3.cell? ⟨gb139, 0, none⟩ = some (.int .i64 a0_0) := (blk_cell BK139.out 0).trans rfl
        have hcz7_1 : w3.cell? ⟨gb139, 1, none⟩ = some (.int .i64 a0_1) := (blk_cell BK139.out 1).trans rfl
        have hcz7_2 : w3.cell? ⟨gb139, 2, none⟩ = some (.int .i64 a0_2) := (blk_cell BK139.out 2).trans rfl
        have hcz7_3 : w3.cell? ⟨gb139, 3, none⟩ = some (.int .i64 a0_3) := (blk_cell BK139.out 3).trans rfl
        have hcz7_4 : w3.cell? ⟨gb139, 4, none⟩ = some (.string a0_4) := (blk_cell BK139.out 4).trans rfl
        have hcz7_5 : w3.cell? ⟨gb139, 5, none⟩ = some (.int .i64 a0_5) := (blk_cell BK139.out 5).trans rfl
        have hcz7_6 : w3.cell? ⟨gb139, 6, none⟩ = some (.int .i64 a0_6) := (blk_cell BK139.out 6).trans rfl
        have hcz7_7 : w3.cell? ⟨gb139, 7, none⟩ = some (.string a0_7) := (blk_cell BK139.out 7).trans rfl
        have hcz7_8 : w3.cell? ⟨gb139, 8, none⟩ = some (.slice A0_8 l0_8.length c0_8) := (blk_cell BK139.out 8).trans rfl
        have hfz7_0 := blk_frozen BK139.out 0
        have hfz7_1 := blk_frozen BK139.out 1
        have hfz7_2 := blk_frozen BK139.out 2
        have hfz7_3 := blk_frozen BK139.out 3
        have hfz7_4 := blk_frozen BK139.out 4
        have hfz7_5 := blk_frozen BK139.out 5
        have hfz7_6 := blk_frozen BK139.out 6
        have hfz7_7 := blk_frozen BK139.out 7
        have hfz7_8 := blk_frozen BK139.out 8
        go_wp2
        go_meet
        case rel => exact ⟨_, (true), (by first | rfl | (simp; done) | (simp [*]; done)), H', ⟨by first | omega | exact Nat.le_refl _⟩, ⟨by (with_reducible repeat (first | refine blk_drewN ?_ _ | refine blk_drew ?_ | refine blk_alloc ?_ _)); exact BK139.out⟩, ⟨by repeat (first | (with_reducible first | exact HB.out | apply below_alloc | apply pw_below_drewN | apply below_drew1 | refine below_set ?_ GE139.out) | exact HB.out)⟩⟩
      · rw [if_neg c6] at H
        have c6b0 : decide (4 < a0_0) = false := decide_eq_false c6
        clear c6
        by_cases c8 : a0_1 < 0
        · rw [if_pos c8] at H
          have c8b0 : decide (a0_1 < 0) = true := decide_eq_true c8
          clear c8
          have H' := Aside0.mk H
          clear H
          have hcz9_0 : w3.cell? ⟨gb139, 0, none⟩ = some (.int .i64 a0_0) := (blk_cell BK139.out 0).trans rfl
          have hcz9_1 : w3.cell? ⟨gb139, 1, none⟩ = some (.int .i64 a0_1) := (blk_cell BK139.out 1).trans rfl
          have hcz9_2 : w3.cell? ⟨gb139, 2, none⟩ = some (.int .i64 a0_2) := (blk_cell BK139.out 2).trans rfl
          have hcz9_3 : w3.cell? ⟨gb139, 3, none⟩ = some (.int .i64 a0_3) := (blk_cell BK139.out 3).trans rfl
          have hcz9_4 : w3.cell? ⟨gb139, 4, none⟩ = some (.string a0_4) := (blk_cell BK139.out 4).trans rfl
          have hcz9_5 : w3.cell? ⟨gb139, 5, none⟩ = some (.int .i64 a0_5) := (blk_cell BK139.out 5).trans rfl
          have hcz9_6 : w3.cell? ⟨gb139, 6, none⟩ = some (.int .i64 a0_6) := (blk_cell BK139.out 6).trans rfl
          have hcz9_7 : w3.cell? ⟨gb139, 7, none⟩ = some (.string a0_7) := (blk_cell BK139.out 7).trans rfl
          have hcz9_8 : w3.cell? ⟨gb139, 8, none⟩ = some (.slice A0_8 l0_8.length c0_8) := (blk_cell BK139.out 8).trans rfl
          have hfz9_0 := blk_frozen BK139.out 0
          have hfz9_1 := blk_frozen BK139.out 1
          have hfz9_2 := blk_frozen BK139.out 2
          have hfz9_3 := blk_frozen BK139.out 3
          have hfz9_4 := blk_frozen BK139.out 4
          have hfz9_5 := blk_frozen BK139.out 5
          have hfz9_6 := blk_frozen BK139.out 6
          have hfz9_7 := blk_frozen BK139.out 7
          have hfz9_8 := blk_frozen BK139.out 8
          go_wp2
          go_meet
          case rel => exact ⟨_, (true), (by first | rfl | (simp; done) | (simp [*]; done)), H', ⟨by first | omega | exact Nat.le_refl _⟩, ⟨by (with_reducible repeat (first | refine blk_drewN ?_ _ | refine blk_drew ?_ | refine blk_alloc ?_ _)); exact BK139.out⟩, ⟨by repeat (first | (with_reducible first | exact HB.out | apply below_alloc | apply pw_below_drewN | apply below_drew1 | refine below_set ?_ GE139.out) | exact HB.out)⟩⟩
        · rw [if_neg c8] at H
          have c8b0 : decide (a0_1 < 0) = false := decide_eq_false c8
          clear c8
          by_cases c10 : a0_1 > 1023
          · rw [if_pos c10] at H
            have c10b0 : decide (1023 < a0_1) = true := decide_eq_true c10
            clear c10
            have H' := Aside0.mk H
            clear H
            have hcz11_0 : w3.cell? ⟨gb139, 0, none⟩ = some (.int .i64 a0_0) := (blk_cell BK139.out 0).trans rfl
            have hcz11_1 : w3.cell? ⟨gb139, 1, none⟩ = some (.int .i64 a0_1) := (blk_cell BK139.out 1).trans rfl
            have hcz11_2 : w3.cell? ⟨gb139, 2, none⟩ = some (.int .i64 a0_2) := (blk_cell BK139.out 2).trans rfl
            have hcz11_3 : w3.cell? ⟨gb139, 3, none⟩ = some (.int .i64 a0_3) := (blk_cell BK139.out 3).trans rfl
            have hcz11_4 : w3.cell? ⟨gb139, 4, none⟩ = some (.string a0_4) := (blk_cell BK139.out 4).trans rfl
            have hcz11_5 : w3.cell? ⟨gb139, 5, none⟩ = some (.int .i64 a0_5) := (blk_cell BK139.out 5).trans rfl
            have hcz11_6 : w3.cell? ⟨gb139, 6, none⟩ = some (.int .i64 a0_6) := (blk_cell BK139.out 6).trans rfl
            have hcz11_7 : w3.cell? ⟨gb139, 7, none⟩ = some (.string a0_7) := (blk_cell BK139.out 7).trans rfl
            have hcz11_8 : w3.cell? ⟨gb139, 8, none⟩ = some (.slice A0_8 l0_8.length c0_8) := (blk_cell BK139.out 8).trans rfl
            have hfz11_0 := blk_frozen BK139.out 0
            have hfz11_1 := blk_frozen BK139.out 1
            have hfz11_2 := blk_frozen BK139.out 2
            have hfz11_3 := blk_frozen BK139.out 3
            have hfz11_4 := blk_frozen BK139.out 4
            have hfz11_5 := blk_frozen BK139.out 5
            have hfz11_6 := blk_frozen BK139.out 6
            have hfz11_7 := blk_frozen BK139.out 7
            have hfz11_8 := blk_frozen BK139.out 8
            go_wp2
            go_meet
            case rel => exact ⟨_, (true), (by first | rfl | (simp; done) | (simp [*]; done)), H', ⟨by first | omega | exact Nat.le_refl _⟩, ⟨by (with_reducible repeat (first | refine blk_drewN ?_ _ | refine blk_drew ?_ | refine blk_alloc ?_ _)); exact BK139.out⟩, ⟨by repeat (first | (with_reducible first | exact HB.out | apply below_alloc | apply pw_below_drewN | apply below_drew1 | refine below_set ?_ GE139.out) | exact HB.out)⟩⟩
          · rw [if_neg c10] at H
            have c10b0 : decide (1023 < a0_1) = false := decide_eq_false c10
            clear c10
            by_cases c12 : a0_2 < 0
            · rw [if_pos c12] at H
              have c12b0 : decide (a0_2 < 0) = true := decide_eq_true c12
              clear c12
              have H' := Aside0.mk H
              clear H
              have hcz13_0 : w3.cell? ⟨gb139, 0, none⟩ = some (.int .i64 a0_0) := (blk_cell BK139.out 0).trans rfl
              have hcz13_1 : w3.cell? ⟨gb139, 1, none⟩ = some (.int .i64 a0_1) := (blk_cell BK139.out 1).trans rfl
              have hcz13_2 : w3.cell? ⟨gb139, 2, none⟩ = some (.int .i64 a0_2) := (blk_cell BK139.out 2).trans rfl
              have hcz13_3 : w3.cell? ⟨gb139, 3, none⟩ = some (.int .i64 a0_3) := (blk_cell BK139.out 3).trans rfl
              have hcz13_4 : w3.cell? ⟨gb139, 4, none⟩ = some (.string a0_4) := (blk_cell BK139.out 4).trans rfl
              have hcz13_5 : w3.cell? ⟨gb139, 5, none⟩ = some (.int .i64 a0_5) := (blk_cell BK139.out 5).trans rfl
              have hcz13_6 : w3.cell? ⟨gb139, 6, none⟩ = some (.int .i64 a0_6) := (blk_cell BK139.out 6).trans rfl
              have hcz13_7 : w3.cell? ⟨gb139, 7, none⟩ = some (.string a0_7) := (blk_cell BK139.out 7).trans rfl
              have hcz13_8 : w3.cell? ⟨gb139, 8, none⟩ = some (.slice A0_8 l0_8.length c0_8) := (blk_cell BK139.out 8).trans rfl
              have hfz13_0 := blk_frozen BK139.out 0
              have hfz13_1 := blk_frozen BK139.out 1
              have hfz13_2 := blk_frozen BK139.out 2
              have hfz13_3 := blk_frozen BK139.out 3
              have hfz13_4 := blk_frozen BK139.out 4
              have hfz13_5 := blk_frozen BK139.out 5
              have hfz13_6 := blk_frozen BK139.out 6
              have hfz13_7 := blk_frozen BK139.out 7
              have hfz13_8 := blk_frozen BK139.out 8
              go_wp2
              go_meet
              case rel => exact ⟨_, (true), (by first | rfl | (simp; done) | (simp [*]; done)), H', ⟨by first | omega | exact Nat.le_refl _⟩, ⟨by (with_reducible repeat (first | refine blk_drewN ?_ _ | refine blk_drew ?_ | refine blk_alloc ?_ _)); exact BK139.out⟩, ⟨by repeat (first | (with_reducible first | exact HB.out | apply below_alloc | apply pw_below_drewN | apply below_drew1 | refine below_set ?_ GE139.out) | exact HB.out)⟩⟩
            · rw [if_neg c12] at H
              have c12b0 : decide (a0_2 < 0) = false := decide_eq_false c12
              clear c12
              by_cases c14 : a0_2 > 1023
              · rw [if_pos c14] at H
                have c14b0 : decide (1023 < a0_2) = true := decide_eq_true c14
                clear c14
                have H' := Aside0.mk H
                clear H
                have hcz15_0 : w3.cell? ⟨gb139, 0, none⟩ = some (.int .i64 a0_0) := (blk_cell BK139.out 0).trans rfl
                have hcz15_1 : w3.cell? ⟨gb139, 1, none⟩ = some (.int .i64 a0_1) := (blk_cell BK139.out 1).trans rfl
                have hcz15_2 : w3.cell? ⟨gb139, 2, none⟩ = some (.int .i64 a0_2) := (blk_cell BK139.out 2).trans rfl
                have hcz15_3 : w3.cell? ⟨gb139, 3, none⟩ = some (.int .i64 a0_3) := (blk_cell BK139.out 3).trans rfl
                have hcz15_4 : w3.cell? ⟨gb139, 4, none⟩ = some (.string a0_4) := (blk_cell BK139.out 4).trans rfl
                have hcz15_5 : w3.cell? ⟨gb139, 5, none⟩ = some (.int .i64 a0_5) := (blk_cell BK139.out 5).trans rfl
                have hcz15_6 : w3.cell? ⟨gb139, 6, none⟩ = some (.int .i64 a0_6) := (blk_cell BK139.out 6).trans rfl
                have hcz15_7 : w3.cell? ⟨gb139, 7, none⟩ = some (.string a0_7) := (blk_cell BK139.out 7).trans rfl
                have hcz15_8 : w3.cell? ⟨gb139, 8, none⟩ = some (.slice A0_8 l0_8.length c0_8) := (blk_cell BK139.out 8).trans rfl
                have hfz15_0 := blk_frozen BK139.out 0
                have hfz15_1 := blk_frozen BK139.out 1
                have hfz15_2 := blk_frozen BK139.out 2
                have hfz15_3 := blk_frozen BK139.out 3
                have hfz15_4 := blk_frozen BK139.out 4
                have hfz15_5 := blk_frozen BK139.out 5
                have hfz15_6 := blk_frozen BK139.out 6
                have hfz15_7 := blk_frozen BK139.out 7
                have hfz15_8 := blk_frozen BK139.out 8
                go_wp2
                go_meet
                case rel => exact ⟨_, (true), (by first | rfl | (simp; done) | (simp [*]; done)), H', ⟨by first | omega | exact Nat.le_refl _⟩, ⟨by (with_reducible repeat (first | refine blk_drewN ?_ _ | refine blk_drew ?_ | refine blk_alloc ?_ _)); exact BK139.out⟩, ⟨by repeat (first | (with_reducible first | exact HB.out | apply below_alloc | apply pw_below_drewN | apply below_drew1 | refine below_set ?_ GE139.out) | exact HB.out)⟩⟩
              · rw [if_neg c14] at H
                have c14b0 : decide (1023 < a0_2) = false := decide_eq_false c14
                clear c14
                by_cases c16 : a0_3 < 0
                · rw [if_pos c16] at H
                  have c16b0 : decide (a0_3 < 0) = true := decide_eq_true c16
                  clear c16
                  have H' := Aside0.mk H
                  clear H
                  have hcz17_0 : w3.cell? ⟨gb139, 0, none⟩ = some (.int .i64 a0_0) := (blk_cell BK139.out 0).trans rfl
                  have hcz17_1 : w3.cell? ⟨gb139, 1, none⟩ = some (.int .i64 a0_1) := (blk_cell BK139.out 1).trans rfl
                  have hcz17_2 : w3.cell? ⟨gb139, 2, none⟩ = some (.int .i64 a0_2) := (blk_cell BK139.out 2).trans rfl
                  have hcz17_3 : w3.cell? ⟨gb139, 3, none⟩ = some (.int .i64 a0_3) := (blk_cell BK139.out 3).trans rfl
                  have hcz17_4 : w3.cell? ⟨gb139, 4, none⟩ = some (.string a0_4) := (blk_cell BK139.out 4).trans rfl
                  have hcz17_5 : w3.cell? ⟨gb139, 5, none⟩ = some (.int .i64 a0_5) := (blk_cell BK139.out 5).trans rfl
                  have hcz17_6 : w3.cell? ⟨gb139, 6, none⟩ = some (.int .i64 a0_6) := (blk_cell BK139.out 6).trans rfl
                  have hcz17_7 : w3.cell? ⟨gb139, 7, none⟩ = some (.string a0_7) := (blk_cell BK139.out 7).trans rfl
                  have hcz17_8 : w3.cell? ⟨gb139, 8, none⟩ = some (.slice A0_8 l0_8.length c0_8) := (blk_cell BK139.out 8).trans rfl
                  have hfz17_0 := blk_frozen BK139.out 0
                  have hfz17_1 := blk_frozen BK139.out 1
                  have hfz17_2 := blk_frozen BK139.out 2
                  have hfz17_3 := blk_frozen BK139.out 3
                  have hfz17_4 := blk_frozen BK139.out 4
                  have hfz17_5 := blk_frozen BK139.out 5
                  have hfz17_6 := blk_frozen BK139.out 6
                  have hfz17_7 := blk_frozen BK139.out 7
                  have hfz17_8 := blk_frozen BK139.out 8
                  go_wp2
                  go_meet
                  case rel => exact ⟨_, (true), (by first | rfl | (simp; done) | (simp [*]; done)), H', ⟨by first | omega | exact Nat.le_refl _⟩, ⟨by (with_reducible repeat (first | refine blk_drewN ?_ _ | refine blk_drew ?_ | refine blk_alloc ?_ _)); exact BK139.out⟩, ⟨by repeat (first | (with_reducible first | exact HB.out | apply below_alloc | apply pw_below_drewN | apply below_drew1 | refine below_set ?_ GE139.out) | exact HB.out)⟩⟩
                · rw [if_neg c16] at H
                  have c16b0 : decide (a0_3 < 0) = false := decide_eq_false c16
                  clear c16
                  by_cases c18 : a0_3 > 1099511627776
                  · rw [if_pos c18] at H
                    have c18b0 : decide (1099511627776 < a0_3) = true := decide_eq_true c18
                    clear c18
                    have H' := Aside0.mk H
                    clear H
                    have hcz19_0 : w3.cell? ⟨gb139, 0, none⟩ = some (.int .i64 a0_0) := (blk_cell BK139.out 0).trans rfl
                    have hcz19_1 : w3.cell? ⟨gb139, 1, none⟩ = some (.int .i64 a0_1) := (blk_cell BK139.out 1).trans rfl
                    have hcz19_2 : w3.cell? ⟨gb139, 2, none⟩ = some (.int .i64 a0_2) := (blk_cell BK139.out 2).trans rfl
                    have hcz19_3 : w3.cell? ⟨gb139, 3, none⟩ = some (.int .i64 a0_3) := (blk_cell BK139.out 3).trans rfl
                    have hcz19_4 : w3.cell? ⟨gb139, 4, none⟩ = some (.string a0_4) := (blk_cell BK139.out 4).trans rfl
                    have hcz19_5 : w3.cell? ⟨gb139, 5, none⟩ = some (.int .i64 a0_5) := (blk_cell BK139.out 5).trans rfl
                    have hcz19_6 : w3.cell? ⟨gb139, 6, none⟩ = some (.int .i64 a0_6) := (blk_cell BK139.out 6).trans rfl
                    have hcz19_7 : w3.cell? ⟨gb139, 7, none⟩ = some (.string a0_7) := (blk_cell BK139.out 7).trans rfl
                    have hcz19_8 : w3.cell? ⟨gb139, 8, none⟩ = some (.slice A0_8 l0_8.length c0_8) := (blk_cell BK139.out 8).trans rfl
                    have hfz19_0 := blk_frozen BK139.out 0
                    have hfz19_1 := blk_frozen BK139.out 1
                    have hfz19_2 := blk_frozen BK139.out 2
                    have hfz19_3 := blk_frozen BK139.out 3
                    have hfz19_4 := blk_frozen BK139.out 4
                    have hfz19_5 := blk_frozen BK139.out 5
                    have hfz19_6 := blk_frozen BK139.out 6
                    have hfz19_7 := blk_frozen BK139.out 7
                    have hfz19_8 := blk_frozen BK139.out 8
                    go_wp2
                    go_meet
                    case rel => exact ⟨_, (true), (by first | rfl | (simp; done) | (simp [*]; done)), H', ⟨by first | omega | exact Nat.le_refl _⟩, ⟨by (with_reducible repeat (first | refine blk_drewN ?_ _ | refine blk_drew ?_ | refine blk_alloc ?_ _)); exact BK139.out⟩, ⟨by repeat (first | (with_reducible first | exact HB.out | apply below_alloc | apply pw_below_drewN | apply below_drew1 | refine below_set ?_ GE139.out) | exact HB.out)⟩⟩
                  · rw [if_neg c18] at H
                    have c18b0 : decide (1099511627776 < a0_3) = false := decide_eq_false c18
                    clear c18
                    replace H := Option.bind_eq_some_iff.mp H
                    obtain ⟨t140, A200, H⟩ := H
                    replace H : (vitrineref20_Right.j0 k (t140 != 0) a0_0 a0_1 a0_2 a0_3 a0_4 a0_5 a0_6 a0_7 l0_8) = some r := H
                    have A20 := Aside0.mk A200
                    clear A200
                    have H' := Aside0.mk H
                    clear H
                    have hcz21_0 : w3.cell? ⟨gb139, 0, none⟩ = some (.int .i64 a0_0) := (blk_cell BK139.out 0).trans rfl
                    have hcz21_1 : w3.cell? ⟨gb139, 1, none⟩ = some (.int .i64 a0_1) := (blk_cell BK139.out 1).trans rfl
                    have hcz21_2 : w3.cell? ⟨gb139, 2, none⟩ = some (.int .i64 a0_2) := (blk_cell BK139.out 2).trans rfl
                    have hcz21_3 : w3.cell? ⟨gb139, 3, none⟩ = some (.int .i64 a0_3) := (blk_cell BK139.out 3).trans rfl
                    have hcz21_4 : w3.cell? ⟨gb139, 4, none⟩ = some (.string a0_4) := (blk_cell BK139.out 4).trans rfl
                    have hcz21_5 : w3.cell? ⟨gb139, 5, none⟩ = some (.int .i64 a0_5) := (blk_cell BK139.out 5).trans rfl
                    have hcz21_6 : w3.cell? ⟨gb139, 6, none⟩ = some (.int .i64 a0_6) := (blk_cell BK139.out 6).trans rfl
                    have hcz21_7 : w3.cell? ⟨gb139, 7, none⟩ = some (.string a0_7) := (blk_cell BK139.out 7).trans rfl
                    have hcz21_8 : w3.cell? ⟨gb139, 8, none⟩ = some (.slice A0_8 l0_8.length c0_8) := (blk_cell BK139.out 8).trans rfl
                    have hfz21_0 := blk_frozen BK139.out 0
                    have hfz21_1 := blk_frozen BK139.out 1
                    have hfz21_2 := blk_frozen BK139.out 2
                    have hfz21_3 := blk_frozen BK139.out 3
                    have hfz21_4 := blk_frozen BK139.out 4
                    have hfz21_5 := blk_frozen BK139.out 5
                    have hfz21_6 := blk_frozen BK139.out 6
                    have hfz21_7 := blk_frozen BK139.out 7
                    have hfz21_8 := blk_frozen BK139.out 8
                    go_wp2_with (first | (go_at_call 39; (with_reducible refine (vitrineref15_Name.calls k a0_4 t140 _ A20.out).mono ?_); rintro e w' ⟨rfl, ⟨nd, rfl⟩⟩))
                    go_meet
                    case rel => exact ⟨_, ((t140 != 0)), (by first | rfl | (simp; done) | (simp [*]; done)), H', ⟨by first | omega | exact Nat.le_refl _⟩, ⟨by (with_reducible repeat (first | refine blk_drewN ?_ _ | refine blk_drew ?_ | refine blk_alloc ?_ _)); exact BK139.out⟩, ⟨by repeat (first | (with_reducible first | exact HB.out | apply below_alloc | apply pw_below_drewN | apply below_drew1 | refine below_set ?_ GE139.out) | exact HB.out)⟩⟩
  case rest =>
    clear HC2
    try clear c1
    try clear c2
    try clear p2
    try clear c4
    try clear c4b0
    try clear c6
    try clear c6b0
    try clear c8
    try clear c8b0
    try clear c10
    try clear c10b0
    try clear c12
    try clear c12b0
    try clear c14
    try clear c14b0
    try clear c16
    try clear c16b0
    try clear c18
    try clear c18b0
    try clear hcz11_0
    try clear hcz11_1
    try clear hcz11_2
    try clear hcz11_3
    try clear hcz11_4
    try clear hcz11_5
    try clear hcz11_6
    try clear hcz11_7
    try clear hcz11_8
    try clear hcz13_0
    try clear hcz13_1
    try clear hcz13_2
    try clear hcz13_3
    try clear hcz13_4
    try clear hcz13_5
    try clear hcz13_6
    try clear hcz13_7
    try clear hcz13_8
    try clear hcz15_0
    try clear hcz15_1
    try clear hcz15_2
    try clear hcz15_3
    try clear hcz15_4
    try clear hcz15_5
    try clear hcz15_6
    try clear hcz15_7
    try clear hcz15_8
    try clear hcz17_0
    try clear hcz17_1
    try clear hcz17_2
    try clear hcz17_3
    try clear hcz17_4
    try clear hcz17_5
    try clear hcz17_6
    try clear hcz17_7
    try clear hcz17_8
    try clear hcz19_0
    try clear hcz19_1
    try clear hcz19_2
    try clear hcz19_3
    try clear hcz19_4
    try clear hcz19_5
    try clear hcz19_6
    try clear hcz19_7
    try clear hcz19_8
    try clear hcz21_0
    try clear hcz21_1
    try clear hcz21_2
    try clear hcz21_3
    try clear hcz21_4
    try clear hcz21_5
    try clear hcz21_6
    try clear hcz21_7
    try clear hcz21_8
    try clear hcz5_0
    try clear hcz5_1
    try clear hcz5_2
    try clear hcz5_3
    try clear hcz5_4
    try clear hcz5_5
    try clear hcz5_6
    try clear hcz5_7
    try clear hcz5_8
    try clear hcz7_0
    try clear hcz7_1
    try clear hcz7_2
    try clear hcz7_3
    try clear hcz7_4
    try clear hcz7_5
    try clear hcz7_6
    try clear hcz7_7
    try clear hcz7_8
    try clear hcz9_0
    try clear hcz9_1
    try clear hcz9_2
    try clear hcz9_3
    try clear hcz9_4
    try clear hcz9_5
    try clear hcz9_6
    try clear hcz9_7
    try clear hcz9_8
    try clear hfz11_0
    try clear hfz11_1
    try clear hfz11_2
    try clear hfz11_3
    try clear hfz11_4
    try clear hfz11_5
    try clear hfz11_6
    try clear hfz11_7
    try clear hfz11_8
    try clear hfz13_0
    try clear hfz13_1
    try clear hfz13_2
    try clear hfz13_3
    try clear hfz13_4
    try clear hfz13_5
    try clear hfz13_6
    try clear hfz13_7
    try clear hfz13_8
    try clear hfz15_0
    try clear hfz15_1
    try clear hfz15_2
    try clear hfz15_3
    try clear hfz15_4
    try clear hfz15_5
    try clear hfz15_6
    try clear hfz15_7
    try clear hfz15_8
    try clear hfz17_0
    try clear hfz17_1
    try clear hfz17_2
    try clear hfz17_3
    try clear hfz17_4
    try clear hfz17_5
    try clear hfz17_6
    try clear hfz17_7
    try clear hfz17_8
    try clear hfz19_0
    try clear hfz19_1
    try clear hfz19_2
    try clear hfz19_3
    try clear hfz19_4
    try clear hfz19_5
    try clear hfz19_6
    try clear hfz19_7
    try clear hfz19_8
    try clear hfz21_0
    try clear hfz21_1
    try clear hfz21_2
    try clear hfz21_3
    try clear hfz21_4
    try clear hfz21_5
    try clear hfz21_6
    try clear hfz21_7
    try clear hfz21_8
    try clear hfz5_0
    try clear hfz5_1
    try clear hfz5_2
    try clear hfz5_3
    try clear hfz5_4
    try clear hfz5_5
    try clear hfz5_6
    try clear hfz5_7
    try clear hfz5_8
    try clear hfz7_0
    try clear hfz7_1
    try clear hfz7_2
    try clear hfz7_3
    try clear hfz7_4
    try clear hfz7_5
    try clear hfz7_6
    try clear hfz7_7
    try clear hfz7_8
    try clear hfz9_0
    try clear hfz9_1
    try clear hfz9_2
    try clear hfz9_3
    try clear hfz9_4
    try clear hfz9_5
    try clear hfz9_6
    try clear hfz9_7
    try clear hfz9_8
    obtain ⟨kq, x52_1, rfl, HA, HJ1, BK139, HB⟩ := hcut
    cases kq with
    | zero => exact absurd HA.out (by simp [vitrineref20_Right.j0])
    | succ kj1 =>
      have H := HA.out
      clear HA
      simp only [vitrineref20_Right.j0] at H
      by_cases c22 : x52_1 = true
      · subst c22
        have H1 : (some false) = some r := by rw [if_pos rfl] at H; exact H
        clear H
        have H := H1
        clear H1
        obtain rfl := Option.some.inj H
        go_wp2
        go_ret
        exact ⟨by first | rfl | (simp [errW_none, errW_some] <;> rfl) | (simp [*, errW_none, errW_some] <;> rfl), by repeat (first | (with_reducible first | exact HB.out | apply below_alloc | apply pw_below_drewN | apply below_drew1 | refine below_set ?_ GE139.out) | exact HB.out)⟩
      · replace c22 := Bool.eq_false_iff.mpr c22
        subst c22
        have H1 : (if a0_5 < 0 then (vitrineref20_Right.j1 kj1 true a0_0 a0_1 a0_2 a0_3 a0_4 a0_5 a0_6 a0_7 l0_8) else (if a0_5 > 1099511627776 then (vitrineref20_Right.j1 kj1 true a0_0 a0_1 a0_2 a0_3 a0_4 a0_5 a0_6 a0_7 l0_8) else (if a0_6 < 0 then (vitrineref20_Right.j1 kj1 true a0_0 a0_1 a0_2 a0_3 a0_4 a0_5 a0_6 a0_7 l0_8) else (if a0_6 > 1023 then (vitrineref20_Right.j1 kj1 true a0_0 a0_1 a0_2 a0_3 a0_4 a0_5 a0_6 a0_7 l0_8) else (if a0_5 = 0 then (vitrineref20_Right.j1 kj1 (a0_6 != 0) a0_0 a0_1 a0_2 a0_3 a0_4 a0_5 a0_6 a0_7 l0_8) else (vitrineref20_Right.j1 kj1 false a0_0 a0_1 a0_2 a0_3 a0_4 a0_5 a0_6 a0_7 l0_8)))))) = some r := by rw [if_neg (show ¬ (false = true) by decide)] at H; exact H
        clear H
        have H := H1
        clear H1
        have HC23 := Aside0.mk H
        clear H
        go_upto_region 3 with (fail)
        go_cut [86] (fun v86 wc => ∃ (kq : Nat) (x86_22 : Bool), v86 = .bool x86_22 ∧ Aside0 (vitrineref20_Right.j1 kq x86_22 a0_0 a0_1 a0_2 a0_3 a0_4 a0_5 a0_6 a0_7 l0_8 = some r) ∧ Aside0 (kq ≤ kj1) ∧ Aside0 (wc.heap[gb139]? = some (.cells #[.int .i64 a0_0, .int .i64 a0_1, .int .i64 a0_2, .int .i64 a0_3, .string a0_4, .int .i64 a0_5, .int .i64 a0_6, .string a0_7, (.slice A0_8 l0_8.length c0_8)] 26 (0, 0))) ∧ Aside0 (Below w.heap.size w wc))
        case first =>
          have H := HC23.out
          clear HC23
          by_cases c24 : a0_5 < 0
          · rw [if_pos c24] at H
            have c24b0 : decide (a0_5 < 0) = true := decide_eq_true c24
            clear c24
            (first | rw [c24b0] | (simp only [i64_w, i32_w]; rw [c24b0]) | skip)
            have H' := Aside0.mk H
            clear H
            have hcz25_0 : wc.cell? ⟨gb139, 0, none⟩ = some (.int .i64 a0_0) := (blk_cell BK139.out 0).trans rfl
            have hcz25_1 : wc.cell? ⟨gb139, 1, none⟩ = some (.int .i64 a0_1) := (blk_cell BK139.out 1).trans rfl
            have hcz25_2 : wc.cell? ⟨gb139, 2, none⟩ = some (.int .i64 a0_2) := (blk_cell BK139.out 2).trans rfl
            have hcz25_3 : wc.cell? ⟨gb139, 3, none⟩ = some (.int .i64 a0_3) := (blk_cell BK139.out 3).trans rfl
            have hcz25_4 : wc.cell? ⟨gb139, 4, none⟩ = some (.string a0_4) := (blk_cell BK139.out 4).trans rfl
            have hcz25_5 : wc.cell? ⟨gb139, 5, none⟩ = some (.int .i64 a0_5) := (blk_cell BK139.out 5).trans rfl
            have hcz25_6 : wc.cell? ⟨gb139, 6, none⟩ = some (.int .i64 a0_6) := (blk_cell BK139.out 6).trans rfl
            have hcz25_7 : wc.cell? ⟨gb139, 7, none⟩ = some (.string a0_7) := (blk_cell BK139.out 7).trans rfl
            have hcz25_8 : wc.cell? ⟨gb139, 8, none⟩ = some (.slice A0_8 l0_8.length c0_8) := (blk_cell BK139.out 8).trans rfl
            have hfz25_0 := blk_frozen BK139.out 0
            have hfz25_1 := blk_frozen BK139.out 1
            have hfz25_2 := blk_frozen BK139.out 2
            have hfz25_3 := blk_frozen BK139.out 3
            have hfz25_4 := blk_frozen BK139.out 4
            have hfz25_5 := blk_frozen BK139.out 5
            have hfz25_6 := blk_frozen BK139.out 6
            have hfz25_7 := blk_frozen BK139.out 7
            have hfz25_8 := blk_frozen BK139.out 8
            go_wp2
            go_meet
            case rel => exact ⟨_, (true), (by first | rfl | (simp; done) | (simp [*]; done)), H', ⟨by have := HJ1.out; first | omega | exact Nat.le_refl _⟩, ⟨by (with_reducible repeat (first | refine blk_drewN ?_ _ | refine blk_drew ?_ | refine blk_alloc ?_ _)); exact BK139.out⟩, ⟨by repeat (first | (with_reducible first | exact HB.out | apply below_alloc | apply pw_below_drewN | apply below_drew1 | refine below_set ?_ GE139.out) | exact HB.out)⟩⟩
          · rw [if_neg c24] at H
            have c24b0 : decide (a0_5 < 0) = false := decide_eq_false c24
            clear c24
            (first | rw [c24b0] | (simp only [i64_w, i32_w]; rw [c24b0]) | skip)
            by_cases c26 : a0_5 > 1099511627776
            · rw [if_pos c26] at H
              have c26b0 : decide (1099511627776 < a0_5) = true := decide_eq_true c26
              clear c26
              have H' := Aside0.mk H
              clear H
              have hcz27_0 : wc.cell? ⟨gb139, 0, none⟩ = some (.int .i64 a0_0) := (blk_cell BK139.out 0).trans rfl
              have hcz27_1 : wc.cell? ⟨gb139, 1, none⟩ = some (.int .i64 a0_1) := (blk_cell BK139.out 1).trans rfl
              have hcz27_2 : wc.cell? ⟨gb139, 2, none⟩ = some (.int .i64 a0_2) := (blk_cell BK139.out 2).trans rfl
              have hcz27_3 : wc.cell? ⟨gb139, 3, none⟩ = some (.int .i64 a0_3) := (blk_cell BK139.out 3).trans rfl
              have hcz27_4 : wc.cell? ⟨gb139, 4, none⟩ = some (.string a0_4) := (blk_cell BK139.out 4).trans rfl
              have hcz27_5 : wc.cell? ⟨gb139, 5, none⟩ = some (.int .i64 a0_5) := (blk_cell BK139.out 5).trans rfl
              have hcz27_6 : wc.cell? ⟨gb139, 6, none⟩ = some (.int .i64 a0_6) := (blk_cell BK139.out 6).trans rfl
              have hcz27_7 : wc.cell? ⟨gb139, 7, none⟩ = some (.string a0_7) := (blk_cell BK139.out 7).trans rfl
              have hcz27_8 : wc.cell? ⟨gb139, 8, none⟩ = some (.slice A0_8 l0_8.length c0_8) := (blk_cell BK139.out 8).trans rfl
              have hfz27_0 := blk_frozen BK139.out 0
              have hfz27_1 := blk_frozen BK139.out 1
              have hfz27_2 := blk_frozen BK139.out 2
              have hfz27_3 := blk_frozen BK139.out 3
              have hfz27_4 := blk_frozen BK139.out 4
              have hfz27_5 := blk_frozen BK139.out 5
              have hfz27_6 := blk_frozen BK139.out 6
              have hfz27_7 := blk_frozen BK139.out 7
              have hfz27_8 := blk_frozen BK139.out 8
              go_wp2
              go_meet
              case rel => exact ⟨_, (true), (by first | rfl | (simp; done) | (simp [*]; done)), H', ⟨by have := HJ1.out; first | omega | exact Nat.le_refl _⟩, ⟨by (with_reducible repeat (first | refine blk_drewN ?_ _ | refine blk_drew ?_ | refine blk_alloc ?_ _)); exact BK139.out⟩, ⟨by repeat (first | (with_reducible first | exact HB.out | apply below_alloc | apply pw_below_drewN | apply below_drew1 | refine below_set ?_ GE139.out) | exact HB.out)⟩⟩
            · rw [if_neg c26] at H
              have c26b0 : decide (1099511627776 < a0_5) = false := decide_eq_false c26
              clear c26
              by_cases c28 : a0_6 < 0
              · rw [if_pos c28] at H
                have c28b0 : decide (a0_6 < 0) = true := decide_eq_true c28
                clear c28
                have H' := Aside0.mk H
                clear H
                have hcz29_0 : wc.cell? ⟨gb139, 0, none⟩ = some (.int .i64 a0_0) := (blk_cell BK139.out 0).trans rfl
                have hcz29_1 : wc.cell? ⟨gb139, 1, none⟩ = some (.int .i64 a0_1) := (blk_cell BK139.out 1).trans rfl
                have hcz29_2 : wc.cell? ⟨gb139, 2, none⟩ = some (.int .i64 a0_2) := (blk_cell BK139.out 2).trans rfl
                have hcz29_3 : wc.cell? ⟨gb139, 3, none⟩ = some (.int .i64 a0_3) := (blk_cell BK139.out 3).trans rfl
                have hcz29_4 : wc.cell? ⟨gb139, 4, none⟩ = some (.string a0_4) := (blk_cell BK139.out 4).trans rfl
                have hcz29_5 : wc.cell? ⟨gb139, 5, none⟩ = some (.int .i64 a0_5) := (blk_cell BK139.out 5).trans rfl
                have hcz29_6 : wc.cell? ⟨gb139, 6, none⟩ = some (.int .i64 a0_6) := (blk_cell BK139.out 6).trans rfl
                have hcz29_7 : wc.cell? ⟨gb139, 7, none⟩ = some (.string a0_7) := (blk_cell BK139.out 7).trans rfl
                have hcz29_8 : wc.cell? ⟨gb139, 8, none⟩ = some (.slice A0_8 l0_8.length c0_8) := (blk_cell BK139.out 8).trans rfl
                have hfz29_0 := blk_frozen BK139.out 0
                have hfz29_1 := blk_frozen BK139.out 1
                have hfz29_2 := blk_frozen BK139.out 2
                have hfz29_3 := blk_frozen BK139.out 3
                have hfz29_4 := blk_frozen BK139.out 4
                have hfz29_5 := blk_frozen BK139.out 5
                have hfz29_6 := blk_frozen BK139.out 6
                have hfz29_7 := blk_frozen BK139.out 7
                have hfz29_8 := blk_frozen BK139.out 8
                go_wp2
                go_meet
                case rel => exact ⟨_, (true), (by first | rfl | (simp; done) | (simp [*]; done)), H', ⟨by have := HJ1.out; first | omega | exact Nat.le_refl _⟩, ⟨by (with_reducible repeat (first | refine blk_drewN ?_ _ | refine blk_drew ?_ | refine blk_alloc ?_ _)); exact BK139.out⟩, ⟨by repeat (first | (with_reducible first | exact HB.out | apply below_alloc | apply pw_below_drewN | apply below_drew1 | refine below_set ?_ GE139.out) | exact HB.out)⟩⟩
              · rw [if_neg c28] at H
                have c28b0 : decide (a0_6 < 0) = false := decide_eq_false c28
                clear c28
                by_cases c30 : a0_6 > 1023
                · rw [if_pos c30] at H
                  have c30b0 : decide (1023 < a0_6) = true := decide_eq_true c30
                  clear c30
                  have H' := Aside0.mk H
                  clear H
                  have hcz31_0 : wc.cell? ⟨gb139, 0, none⟩ = some (.int .i64 a0_0) := (blk_cell BK139.out 0).trans rfl
                  have hcz31_1 : wc.cell? ⟨gb139, 1, none⟩ = some (.int .i64 a0_1) := (blk_cell BK139.out 1).trans rfl
                  have hcz31_2 : wc.cell? ⟨gb139, 2, none⟩ = some (.int .i64 a0_2) := (blk_cell BK139.out 2).trans rfl
                  have hcz31_3 : wc.cell? ⟨gb139, 3, none⟩ = some (.int .i64 a0_3) := (blk_cell BK139.out 3).trans rfl
                  have hcz31_4 : wc.cell? ⟨gb139, 4, none⟩ = some (.string a0_4) := (blk_cell BK139.out 4).trans rfl
                  have hcz31_5 : wc.cell? ⟨gb139, 5, none⟩ = some (.int .i64 a0_5) := (blk_cell BK139.out 5).trans rfl
                  have hcz31_6 : wc.cell? ⟨gb139, 6, none⟩ = some (.int .i64 a0_6) := (blk_cell BK139.out 6).trans rfl
                  have hcz31_7 : wc.cell? ⟨gb139, 7, none⟩ = some (.string a0_7) := (blk_cell BK139.out 7).trans rfl
                  have hcz31_8 : wc.cell? ⟨gb139, 8, none⟩ = some (.slice A0_8 l0_8.length c0_8) := (blk_cell BK139.out 8).trans rfl
                  have hfz31_0 := blk_frozen BK139.out 0
                  have hfz31_1 := blk_frozen BK139.out 1
                  have hfz31_2 := blk_frozen BK139.out 2
                  have hfz31_3 := blk_frozen BK139.out 3
                  have hfz31_4 := blk_frozen BK139.out 4
                  have hfz31_5 := blk_frozen BK139.out 5
                  have hfz31_6 := blk_frozen BK139.out 6
                  have hfz31_7 := blk_frozen BK139.out 7
                  have hfz31_8 := blk_frozen BK139.out 8
                  go_wp2
                  go_meet
                  case rel => exact ⟨_, (true), (by first | rfl | (simp; done) | (simp [*]; done)), H', ⟨by have := HJ1.out; first | omega | exact Nat.le_refl _⟩, ⟨by (with_reducible repeat (first | refine blk_drewN ?_ _ | refine blk_drew ?_ | refine blk_alloc ?_ _)); exact BK139.out⟩, ⟨by repeat (first | (with_reducible first | exact HB.out | apply below_alloc | apply pw_below_drewN | apply below_drew1 | refine below_set ?_ GE139.out) | exact HB.out)⟩⟩
                · rw [if_neg c30] at H
                  have c30b0 : decide (1023 < a0_6) = false := decide_eq_false c30
                  clear c30
                  by_cases c32 : a0_5 = 0
                  · rw [if_pos c32] at H
                    have c32b0 : (a0_5 == 0) = true := beq_iff_eq.mpr c32
                    have c32b1 : (a0_5 != 0) = false := bne_eq_false_iff_eq.mpr c32
                    clear c32
                    have H' := Aside0.mk H
                    clear H
                    have hcz33_0 : wc.cell? ⟨gb139, 0, none⟩ = some (.int .i64 a0_0) := (blk_cell BK139.out 0).trans rfl
                    have hcz33_1 : wc.cell? ⟨gb139, 1, none⟩ = some (.int .i64 a0_1) := (blk_cell BK139.out 1).trans rfl
                    have hcz33_2 : wc.cell? ⟨gb139, 2, none⟩ = some (.int .i64 a0_2) := (blk_cell BK139.out 2).trans rfl
                    have hcz33_3 : wc.cell? ⟨gb139, 3, none⟩ = some (.int .i64 a0_3) := (blk_cell BK139.out 3).trans rfl
                    have hcz33_4 : wc.cell? ⟨gb139, 4, none⟩ = some (.string a0_4) := (blk_cell BK139.out 4).trans rfl
                    have hcz33_5 : wc.cell? ⟨gb139, 5, none⟩ = some (.int .i64 a0_5) := (blk_cell BK139.out 5).trans rfl
                    have hcz33_6 : wc.cell? ⟨gb139, 6, none⟩ = some (.int .i64 a0_6) := (blk_cell BK139.out 6).trans rfl
                    have hcz33_7 : wc.cell? ⟨gb139, 7, none⟩ = some (.string a0_7) := (blk_cell BK139.out 7).trans rfl
                    have hcz33_8 : wc.cell? ⟨gb139, 8, none⟩ = some (.slice A0_8 l0_8.length c0_8) := (blk_cell BK139.out 8).trans rfl
                    have hfz33_0 := blk_frozen BK139.out 0
                    have hfz33_1 := blk_frozen BK139.out 1
                    have hfz33_2 := blk_frozen BK139.out 2
                    have hfz33_3 := blk_frozen BK139.out 3
                    have hfz33_4 := blk_frozen BK139.out 4
                    have hfz33_5 := blk_frozen BK139.out 5
                    have hfz33_6 := blk_frozen BK139.out 6
                    have hfz33_7 := blk_frozen BK139.out 7
                    have hfz33_8 := blk_frozen BK139.out 8
                    go_wp2
                    go_meet
                    case rel => exact ⟨_, ((a0_6 != 0)), (by first | rfl | (simp; done) | (simp [*]; done)), H', ⟨by have := HJ1.out; first | omega | exact Nat.le_refl _⟩, ⟨by (with_reducible repeat (first | refine blk_drewN ?_ _ | refine blk_drew ?_ | refine blk_alloc ?_ _)); exact BK139.out⟩, ⟨by repeat (first | (with_reducible first | exact HB.out | apply below_alloc | apply pw_below_drewN | apply below_drew1 | refine below_set ?_ GE139.out) | exact HB.out)⟩⟩
                  · rw [if_neg c32] at H
                    have c32b0 : (a0_5 == 0) = false := beq_eq_false_iff_ne.mpr c32
                    have c32b1 : (a0_5 != 0) = true := bne_iff_ne.mpr c32
                    have H' := Aside0.mk H
                    clear H
                    have hcz34_0 : wc.cell? ⟨gb139, 0, none⟩ = some (.int .i64 a0_0) := (blk_cell BK139.out 0).trans rfl
                    have hcz34_1 : wc.cell? ⟨gb139, 1, none⟩ = some (.int .i64 a0_1) := (blk_cell BK139.out 1).trans rfl
                    have hcz34_2 : wc.cell? ⟨gb139, 2, none⟩ = some (.int .i64 a0_2) := (blk_cell BK139.out 2).trans rfl
                    have hcz34_3 : wc.cell? ⟨gb139, 3, none⟩ = some (.int .i64 a0_3) := (blk_cell BK139.out 3).trans rfl
                    have hcz34_4 : wc.cell? ⟨gb139, 4, none⟩ = some (.string a0_4) := (blk_cell BK139.out 4).trans rfl
                    have hcz34_5 : wc.cell? ⟨gb139, 5, none⟩ = some (.int .i64 a0_5) := (blk_cell BK139.out 5).trans rfl
                    have hcz34_6 : wc.cell? ⟨gb139, 6, none⟩ = some (.int .i64 a0_6) := (blk_cell BK139.out 6).trans rfl
                    have hcz34_7 : wc.cell? ⟨gb139, 7, none⟩ = some (.string a0_7) := (blk_cell BK139.out 7).trans rfl
                    have hcz34_8 : wc.cell? ⟨gb139, 8, none⟩ = some (.slice A0_8 l0_8.length c0_8) := (blk_cell BK139.out 8).trans rfl
                    have hfz34_0 := blk_frozen BK139.out 0
                    have hfz34_1 := blk_frozen BK139.out 1
                    have hfz34_2 := blk_frozen BK139.out 2
                    have hfz34_3 := blk_frozen BK139.out 3
                    have hfz34_4 := blk_frozen BK139.out 4
                    have hfz34_5 := blk_frozen BK139.out 5
                    have hfz34_6 := blk_frozen BK139.out 6
                    have hfz34_7 := blk_frozen BK139.out 7
                    have hfz34_8 := blk_frozen BK139.out 8
                    go_wp2
                    go_meet
                    case rel => exact ⟨_, (false), (by first | rfl | (simp; done) | (simp [*]; done)), H', ⟨by have := HJ1.out; first | omega | exact Nat.le_refl _⟩, ⟨by (with_reducible repeat (first | refine blk_drewN ?_ _ | refine blk_drew ?_ | refine blk_alloc ?_ _)); exact BK139.out⟩, ⟨by repeat (first | (with_reducible first | exact HB.out | apply below_alloc | apply pw_below_drewN | apply below_drew1 | refine below_set ?_ GE139.out) | exact HB.out)⟩⟩
        case rest =>
          clear HC23
          try clear c1
          try clear c2
          try clear p2
          try clear c3
          try clear c4
          try clear c4b0
          try clear c6
          try clear c6b0
          try clear c8
          try clear c8b0
          try clear c10
          try clear c10b0
          try clear c12
          try clear c12b0
          try clear c14
          try clear c14b0
          try clear c16
          try clear c16b0
          try clear c18
          try clear c18b0
          try clear c22
          try clear c24
          try clear c24b0
          try clear c26
          try clear c26b0
          try clear c28
          try clear c28b0
          try clear c30
          try clear c30b0
          try clear c32
          try clear c32b0
          try clear c32b1
          try clear hcz11_0
          try clear hcz11_1
          try clear hcz11_2
          try clear hcz11_3
          try clear hcz11_4
          try clear hcz11_5
          try clear hcz11_6
          try clear hcz11_7
          try clear hcz11_8
          try clear hcz13_0
          try clear hcz13_1
          try clear hcz13_2
          try clear hcz13_3
          try clear hcz13_4
          try clear hcz13_5
          try clear hcz13_6
          try clear hcz13_7
          try clear hcz13_8
          try clear hcz15_0
          try clear hcz15_1
          try clear hcz15_2
          try clear hcz15_3
          try clear hcz15_4
          try clear hcz15_5
          try clear hcz15_6
          try clear hcz15_7
          try clear hcz15_8
          try clear hcz17_0
          try clear hcz17_1
          try clear hcz17_2
          try clear hcz17_3
          try clear hcz17_4
          try clear hcz17_5
          try clear hcz17_6
          try clear hcz17_7
          try clear hcz17_8
          try clear hcz19_0
          try clear hcz19_1
          try clear hcz19_2
          try clear hcz19_3
          try clear hcz19_4
          try clear hcz19_5
          try clear hcz19_6
          try clear hcz19_7
          try clear hcz19_8
          try clear hcz21_0
          try clear hcz21_1
          try clear hcz21_2
          try clear hcz21_3
          try clear hcz21_4
          try clear hcz21_5
          try clear hcz21_6
          try clear hcz21_7
          try clear hcz21_8
          try clear hcz25_0
          try clear hcz25_1
          try clear hcz25_2
          try clear hcz25_3
          try clear hcz25_4
          try clear hcz25_5
          try clear hcz25_6
          try clear hcz25_7
          try clear hcz25_8
          try clear hcz27_0
          try clear hcz27_1
          try clear hcz27_2
          try clear hcz27_3
          try clear hcz27_4
          try clear hcz27_5
          try clear hcz27_6
          try clear hcz27_7
          try clear hcz27_8
          try clear hcz29_0
          try clear hcz29_1
          try clear hcz29_2
          try clear hcz29_3
          try clear hcz29_4
          try clear hcz29_5
          try clear hcz29_6
          try clear hcz29_7
          try clear hcz29_8
          try clear hcz31_0
          try clear hcz31_1
          try clear hcz31_2
          try clear hcz31_3
          try clear hcz31_4
          try clear hcz31_5
          try clear hcz31_6
          try clear hcz31_7
          try clear hcz31_8
          try clear hcz33_0
          try clear hcz33_1
          try clear hcz33_2
          try clear hcz33_3
          try clear hcz33_4
          try clear hcz33_5
          try clear hcz33_6
          try clear hcz33_7
          try clear hcz33_8
          try clear hcz34_0
          try clear hcz34_1
          try clear hcz34_2
          try clear hcz34_3
          try clear hcz34_4
          try clear hcz34_5
          try clear hcz34_6
          try clear hcz34_7
          try clear hcz34_8
          try clear hcz5_0
          try clear hcz5_1
          try clear hcz5_2
          try clear hcz5_3
          try clear hcz5_4
          try clear hcz5_5
          try clear hcz5_6
          try clear hcz5_7
          try clear hcz5_8
          try clear hcz7_0
          try clear hcz7_1
          try clear hcz7_2
          try clear hcz7_3
          try clear hcz7_4
          try clear hcz7_5
          try clear hcz7_6
          try clear hcz7_7
          try clear hcz7_8
          try clear hcz9_0
          try clear hcz9_1
          try clear hcz9_2
          try clear hcz9_3
          try clear hcz9_4
          try clear hcz9_5
          try clear hcz9_6
          try clear hcz9_7
          try clear hcz9_8
          try clear hfz11_0
          try clear hfz11_1
          try clear hfz11_2
          try clear hfz11_3
          try clear hfz11_4
          try clear hfz11_5
          try clear hfz11_6
          try clear hfz11_7
          try clear hfz11_8
          try clear hfz13_0
          try clear hfz13_1
          try clear hfz13_2
          try clear hfz13_3
          try clear hfz13_4
          try clear hfz13_5
          try clear hfz13_6
          try clear hfz13_7
          try clear hfz13_8
          try clear hfz15_0
          try clear hfz15_1
          try clear hfz15_2
          try clear hfz15_3
          try clear hfz15_4
          try clear hfz15_5
          try clear hfz15_6
          try clear hfz15_7
          try clear hfz15_8
          try clear hfz17_0
          try clear hfz17_1
          try clear hfz17_2
          try clear hfz17_3
          try clear hfz17_4
          try clear hfz17_5
          try clear hfz17_6
          try clear hfz17_7
          try clear hfz17_8
          try clear hfz19_0
          try clear hfz19_1
          try clear hfz19_2
          try clear hfz19_3
          try clear hfz19_4
          try clear hfz19_5
          try clear hfz19_6
          try clear hfz19_7
          try clear hfz19_8
          try clear hfz21_0
          try clear hfz21_1
          try clear hfz21_2
          try clear hfz21_3
          try clear hfz21_4
          try clear hfz21_5
          try clear hfz21_6
          try clear hfz21_7
          try clear hfz21_8
          try clear hfz25_0
          try clear hfz25_1
          try clear hfz25_2
          try clear hfz25_3
          try clear hfz25_4
          try clear hfz25_5
          try clear hfz25_6
          try clear hfz25_7
          try clear hfz25_8
          try clear hfz27_0
          try clear hfz27_1
          try clear hfz27_2
          try clear hfz27_3
          try clear hfz27_4
          try clear hfz27_5
          try clear hfz27_6
          try clear hfz27_7
          try clear hfz27_8
          try clear hfz29_0
          try clear hfz29_1
          try clear hfz29_2
          try clear hfz29_3
          try clear hfz29_4
          try clear hfz29_5
          try clear hfz29_6
          try clear hfz29_7
          try clear hfz29_8
          try clear hfz31_0
          try clear hfz31_1
          try clear hfz31_2
          try clear hfz31_3
          try clear hfz31_4
          try clear hfz31_5
          try clear hfz31_6
          try clear hfz31_7
          try clear hfz31_8
          try clear hfz33_0
          try clear hfz33_1
          try clear hfz33_2
          try clear hfz33_3
          try clear hfz33_4
          try clear hfz33_5
          try clear hfz33_6
          try clear hfz33_7
          try clear hfz33_8
          try clear hfz34_0
          try clear hfz34_1
          try clear hfz34_2
          try clear hfz34_3
          try clear hfz34_4
          try clear hfz34_5
          try clear hfz34_6
          try clear hfz34_7
          try clear hfz34_8
          try clear hfz5_0
          try clear hfz5_1
          try clear hfz5_2
          try clear hfz5_3
          try clear hfz5_4
          try clear hfz5_5
          try clear hfz5_6
          try clear hfz5_7
          try clear hfz5_8
          try clear hfz7_0
          try clear hfz7_1
          try clear hfz7_2
          try clear hfz7_3
          try clear hfz7_4
          try clear hfz7_5
          try clear hfz7_6
          try clear hfz7_7
          try clear hfz7_8
          try clear hfz9_0
          try clear hfz9_1
          try clear hfz9_2
          try clear hfz9_3
          try clear hfz9_4
          try clear hfz9_5
          try clear hfz9_6
          try clear hfz9_7
          try clear hfz9_8
          try clear p2
          obtain ⟨kq, x86_22, rfl, HA, HJ22, BK139, HB⟩ := hcut
          cases kq with
          | zero => exact absurd HA.out (by simp [vitrineref20_Right.j1])
          | succ kj22 =>
            have H := HA.out
            clear HA
            simp only [vitrineref20_Right.j1] at H
            by_cases c35 : x86_22 = true
            · subst c35
              have H1 : (some false) = some r := by rw [if_pos rfl] at H; exact H
              clear H
              have H := H1
              clear H1
              obtain rfl := Option.some.inj H
              go_wp2
              go_ret
              exact ⟨by first | rfl | (simp [errW_none, errW_some] <;> rfl) | (simp [*, errW_none, errW_some] <;> rfl), by repeat (first | (with_reducible first | exact HB.out | apply below_alloc | apply pw_below_drewN | apply below_drew1 | refine below_set ?_ GE139.out) | exact HB.out)⟩
            · replace c35 := Bool.eq_false_iff.mpr c35
              subst c35
              have H1 : (if a0_7.toList = ([] : List UInt8) then (vitrineref20_Right.j2 kj22 0 a0_0 a0_1 a0_2 a0_3 a0_4 a0_5 a0_6 a0_7 l0_8) else ((vitrineref15_Read.f kj22 a0_7).bind fun bt141 => (if bt141.2.2.2 = 0 then (vitrineref20_Right.j2 kj22 (bt141.2.2.1.length : Int) a0_0 a0_1 a0_2 a0_3 a0_4 a0_5 a0_6 a0_7 l0_8) else (some false)))) = some r := by rw [if_neg (show ¬ (false = true) by decide)] at H; exact H
              clear H
              have H := H1
              clear H1
              have HC36 := Aside0.mk H
              clear H
              have hcz37_0 : wc.cell? ⟨gb139, 0, none⟩ = some (.int .i64 a0_0) := (blk_cell BK139.out 0).trans rfl
              have hcz37_1 : wc.cell? ⟨gb139, 1, none⟩ = some (.int .i64 a0_1) := (blk_cell BK139.out 1).trans rfl
              have hcz37_2 : wc.cell? ⟨gb139, 2, none⟩ = some (.int .i64 a0_2) := (blk_cell BK139.out 2).trans rfl
              have hcz37_3 : wc.cell? ⟨gb139, 3, none⟩ = some (.int .i64 a0_3) := (blk_cell BK139.out 3).trans rfl
              have hcz37_4 : wc.cell? ⟨gb139, 4, none⟩ = some (.string a0_4) := (blk_cell BK139.out 4).trans rfl
              have hcz37_5 : wc.cell? ⟨gb139, 5, none⟩ = some (.int .i64 a0_5) := (blk_cell BK139.out 5).trans rfl
              have hcz37_6 : wc.cell? ⟨gb139, 6, none⟩ = some (.int .i64 a0_6) := (blk_cell BK139.out 6).trans rfl
              have hcz37_7 : wc.cell? ⟨gb139, 7, none⟩ = some (.string a0_7) := (blk_cell BK139.out 7).trans rfl
              have hcz37_8 : wc.cell? ⟨gb139, 8, none⟩ = some (.slice A0_8 l0_8.length c0_8) := (blk_cell BK139.out 8).trans rfl
              have hfz37_0 := blk_frozen BK139.out 0
              have hfz37_1 := blk_frozen BK139.out 1
              have hfz37_2 := blk_frozen BK139.out 2
              have hfz37_3 := blk_frozen BK139.out 3
              have hfz37_4 := blk_frozen BK139.out 4
              have hfz37_5 := blk_frozen BK139.out 5
              have hfz37_6 := blk_frozen BK139.out 6
              have hfz37_7 := blk_frozen BK139.out 7
              have hfz37_8 := blk_frozen BK139.out 8
              go_upto_if 89 with (fail)
              go_cut [3] (fun v3 wc => ∃ (kq : Nat) (x3_35 : Int), v3 = .int .i64 x3_35 ∧ Aside0 (vitrineref20_Right.j2 kq x3_35 a0_0 a0_1 a0_2 a0_3 a0_4 a0_5 a0_6 a0_7 l0_8 = some r) ∧ Aside0 (kq ≤ kj22) ∧ Aside0 (wc.heap[gb139]? = some (.cells #[.int .i64 a0_0, .int .i64 a0_1, .int .i64 a0_2, .int .i64 a0_3, .string a0_4, .int .i64 a0_5, .int .i64 a0_6, .string a0_7, (.slice A0_8 l0_8.length c0_8)] 26 (0, 0))) ∧ Aside0 (Below w.heap.size w wc))
              case first =>
                have H := HC36.out
                clear HC36
                by_cases c38 : a0_7.toList = ([] : List UInt8)
                · rw [if_pos c38] at H
                  have c38b0 : (a0_7.toList == ([] : List UInt8)) = true := beq_iff_eq.mpr c38
                  have c38b1 : (a0_7.toList != ([] : List UInt8)) = false := bne_eq_false_iff_eq.mpr c38
                  clear c38
                  (first | rw [c38b0] | (have e_ : a0_7.toList.isEmpty = true := (by have h_ := beq_iff_eq.mp c38b0; rw [h_]; rfl); rw [e_]; simp only [Bool.not_true, Bool.not_false]; clear e_) | (simp only [i64_w, i32_w]; rw [c38b0]) | skip)
                  have H' := Aside0.mk H
                  clear H
                  go_wp2
                  go_meet
                  case rel => exact ⟨_, (0), (by first | rfl | (simp; done) | (simp [*]; done)), H', ⟨by have := HJ1.out; have := HJ22.out; first | omega | exact Nat.le_refl _⟩, ⟨by (with_reducible repeat (first | refine blk_drewN ?_ _ | refine blk_drew ?_ | refine blk_alloc ?_ _)); exact BK139.out⟩, ⟨by repeat (first | (with_reducible first | exact HB.out | apply below_alloc | apply pw_below_drewN | apply below_drew1 | refine below_set ?_ GE139.out) | exact HB.out)⟩⟩
                · rw [if_neg c38] at H
                  have c38b0 : (a0_7.toList == ([] : List UInt8)) = false := beq_eq_false_iff_ne.mpr c38
                  have c38b1 : (a0_7.toList != ([] : List UInt8)) = true := bne_iff_ne.mpr c38
                  (first | rw [c38b0] | (have e_ : a0_7.toList.isEmpty = false := (by have h_ := beq_eq_false_iff_ne.mp c38b0; cases hx_ : a0_7.toList with | nil => exact absurd hx_ h_ | cons _ _ => rfl); rw [e_]; simp only [Bool.not_true, Bool.not_false]; clear e_) | (simp only [i64_w, i32_w]; rw [c38b0]) | skip)
                  replace H := Option.bind_eq_some_iff.mp H
                  obtain ⟨⟨t141, t142, t143, t144⟩, A390, H⟩ := H
                  replace H : (if t144 = 0 then (vitrineref20_Right.j2 kj22 (t143.length : Int) a0_0 a0_1 a0_2 a0_3 a0_4 a0_5 a0_6 a0_7 l0_8) else (some false)) = some r := H
                  have A39 := Aside0.mk A390
                  clear A390
                  by_cases c40 : t144 = 0
                  · rw [if_pos c40] at H
                    have c40b0 : (t144 == 0) = true := beq_iff_eq.mpr c40
                    have c40b1 : (t144 != 0) = false := bne_eq_false_iff_eq.mpr c40
                    clear c40
                    have H' := Aside0.mk H
                    clear H
                    have hcz41_0 : wc.cell? ⟨gb139, 0, none⟩ = some (.int .i64 a0_0) := (blk_cell BK139.out 0).trans rfl
                    have hcz41_1 : wc.cell? ⟨gb139, 1, none⟩ = some (.int .i64 a0_1) := (blk_cell BK139.out 1).trans rfl
                    have hcz41_2 : wc.cell? ⟨gb139, 2, none⟩ = some (.int .i64 a0_2) := (blk_cell BK139.out 2).trans rfl
                    have hcz41_3 : wc.cell? ⟨gb139, 3, none⟩ = some (.int .i64 a0_3) := (blk_cell BK139.out 3).trans rfl
                    have hcz41_4 : wc.cell? ⟨gb139, 4, none⟩ = some (.string a0_4) := (blk_cell BK139.out 4).trans rfl
                    have hcz41_5 : wc.cell? ⟨gb139, 5, none⟩ = some (.int .i64 a0_5) := (blk_cell BK139.out 5).trans rfl
                    have hcz41_6 : wc.cell? ⟨gb139, 6, none⟩ = some (.int .i64 a0_6) := (blk_cell BK139.out 6).trans rfl
                    have hcz41_7 : wc.cell? ⟨gb139, 7, none⟩ = some (.string a0_7) := (blk_cell BK139.out 7).trans rfl
                    have hcz41_8 : wc.cell? ⟨gb139, 8, none⟩ = some (.slice A0_8 l0_8.length c0_8) := (blk_cell BK139.out 8).trans rfl
                    have hfz41_0 := blk_frozen BK139.out 0
                    have hfz41_1 := blk_frozen BK139.out 1
                    have hfz41_2 := blk_frozen BK139.out 2
                    have hfz41_3 := blk_frozen BK139.out 3
                    have hfz41_4 := blk_frozen BK139.out 4
                    have hfz41_5 := blk_frozen BK139.out 5
                    have hfz41_6 := blk_frozen BK139.out 6
                    have hfz41_7 := blk_frozen BK139.out 7
                    have hfz41_8 := blk_frozen BK139.out 8
                    go_wp2_with (first | ((with_reducible refine gate_callee (f := 40) rfl ?_); refine goesL_ (some 93) rfl rfl Try.func40 (by kernel_rfl) rfl #[.string a0_7] rfl (by (try simp only [List.map_toArray, List.map_cons, List.map_nil]); first | done | rfl | (simp only [List.length_drop, List.length_take]; rfl) | (simp only [ByteArray.size_extract, Nat.min_self]; done) | (simp only [ByteArray.size_extract, Nat.min_self]; rfl)) ?_; (with_reducible refine (vitrineref15_Read.calls kj22 a0_7 t141 t142 t143 t144 _ A39.out).mono ?_); rintro e w42 ⟨v145, rfl, ho0, hb⟩; refine ⟨_, rfl, ?_⟩; have n0_ := Aside0.mk (Kd.R_lower ho0 (below_size (by repeat (first | (with_reducible first | exact HB.out | apply below_alloc | apply pw_below_drewN | apply below_drew1 | refine below_set ?_ GE139.out) | exact HB.out)))); have n1_ := Aside0.mk (blk_below (g := gb139) (o := .cells #[.int .i64 a0_0, .int .i64 a0_1, .int .i64 a0_2, .int .i64 a0_3, .string a0_4, .int .i64 a0_5, .int .i64 a0_6, .string a0_7, .slice A0_8 l0_8.length c0_8] 26 (0, 0)) (by (with_reducible repeat (first | refine blk_drewN ?_ _ | refine blk_drew ?_ | refine blk_alloc ?_ _)); exact BK139.out) hb); have n2_ := Aside0.mk (below_step (by repeat (first | (with_reducible first | exact HB.out | apply below_alloc | apply pw_below_drewN | apply below_drew1 | refine below_set ?_ GE139.out) | exact HB.out)) hb); clear BK139; clear HB; have HO146 := n0_; have BK139 := n1_; have HB := n2_; clear n0_ n1_ n2_; (try clear hb); (try clear hb2); (try clear hk); (try clear hi); (try clear ho0); obtain ⟨Ao43, co43, eo43⟩ := Kd.R_slice HO146.out; subst eo43))
                    go_meet
                    case rel => exact ⟨_, ((t143.length : Int)), (by first | rfl | (simp; done) | (simp [*]; done)), H', ⟨by have := HJ1.out; have := HJ22.out; first | omega | exact Nat.le_refl _⟩, ⟨by (with_reducible repeat (first | refine blk_drewN ?_ _ | refine blk_drew ?_ | refine blk_alloc ?_ _)); exact BK139.out⟩, ⟨by repeat (first | (with_reducible first | exact HB.out | apply below_alloc | apply pw_below_drewN | apply below_drew1 | refine below_set ?_ GE139.out) | exact HB.out)⟩⟩
                  · rw [if_neg c40] at H
                    have c40b0 : (t144 == 0) = false := beq_eq_false_iff_ne.mpr c40
                    have c40b1 : (t144 != 0) = true := bne_iff_ne.mpr c40
                    obtain rfl := Option.some.inj H
                    have hcz44_0 : wc.cell? ⟨gb139, 0, none⟩ = some (.int .i64 a0_0) := (blk_cell BK139.out 0).trans rfl
                    have hcz44_1 : wc.cell? ⟨gb139, 1, none⟩ = some (.int .i64 a0_1) := (blk_cell BK139.out 1).trans rfl
                    have hcz44_2 : wc.cell? ⟨gb139, 2, none⟩ = some (.int .i64 a0_2) := (blk_cell BK139.out 2).trans rfl
                    have hcz44_3 : wc.cell? ⟨gb139, 3, none⟩ = some (.int .i64 a0_3) := (blk_cell BK139.out 3).trans rfl
                    have hcz44_4 : wc.cell? ⟨gb139, 4, none⟩ = some (.string a0_4) := (blk_cell BK139.out 4).trans rfl
                    have hcz44_5 : wc.cell? ⟨gb139, 5, none⟩ = some (.int .i64 a0_5) := (blk_cell BK139.out 5).trans rfl
                    have hcz44_6 : wc.cell? ⟨gb139, 6, none⟩ = some (.int .i64 a0_6) := (blk_cell BK139.out 6).trans rfl
                    have hcz44_7 : wc.cell? ⟨gb139, 7, none⟩ = some (.string a0_7) := (blk_cell BK139.out 7).trans rfl
                    have hcz44_8 : wc.cell? ⟨gb139, 8, none⟩ = some (.slice A0_8 l0_8.length c0_8) := (blk_cell BK139.out 8).trans rfl
                    have hfz44_0 := blk_frozen BK139.out 0
                    have hfz44_1 := blk_frozen BK139.out 1
                    have hfz44_2 := blk_frozen BK139.out 2
                    have hfz44_3 := blk_frozen BK139.out 3
                    have hfz44_4 := blk_frozen BK139.out 4
                    have hfz44_5 := blk_frozen BK139.out 5
                    have hfz44_6 := blk_frozen BK139.out 6
                    have hfz44_7 := blk_frozen BK139.out 7
                    have hfz44_8 := blk_frozen BK139.out 8
                    go_wp2_with (first | ((with_reducible refine gate_callee (f := 40) rfl ?_); refine goesL_ (some 93) rfl rfl Try.func40 (by kernel_rfl) rfl #[.string a0_7] rfl (by (try simp only [List.map_toArray, List.map_cons, List.map_nil]); first | done | rfl | (simp only [List.length_drop, List.length_take]; rfl) | (simp only [ByteArray.size_extract, Nat.min_self]; done) | (simp only [ByteArray.size_extract, Nat.min_self]; rfl)) ?_; (with_reducible refine (vitrineref15_Read.calls kj22 a0_7 t141 t142 t143 t144 _ A39.out).mono ?_); rintro e w45 ⟨v145, rfl, ho0, hb⟩; refine ⟨_, rfl, ?_⟩; have n0_ := Aside0.mk (Kd.R_lower ho0 (below_size (by repeat (first | (with_reducible first | exact HB.out | apply below_alloc | apply pw_below_drewN | apply below_drew1 | refine below_set ?_ GE139.out) | exact HB.out)))); have n1_ := Aside0.mk (blk_below (g := gb139) (o := .cells #[.int .i64 a0_0, .int .i64 a0_1, .int .i64 a0_2, .int .i64 a0_3, .string a0_4, .int .i64 a0_5, .int .i64 a0_6, .string a0_7, .slice A0_8 l0_8.length c0_8] 26 (0, 0)) (by (with_reducible repeat (first | refine blk_drewN ?_ _ | refine blk_drew ?_ | refine blk_alloc ?_ _)); exact BK139.out) hb); have n2_ := Aside0.mk (below_step (by repeat (first | (with_reducible first | exact HB.out | apply below_alloc | apply pw_below_drewN | apply below_drew1 | refine below_set ?_ GE139.out) | exact HB.out)) hb); clear BK139; clear HB; have HO146 := n0_; have BK139 := n1_; have HB := n2_; clear n0_ n1_ n2_; (try clear hb); (try clear hb2); (try clear hk); (try clear hi); (try clear ho0)))
                    go_ret
                    exact ⟨by first | rfl | (simp [errW_none, errW_some] <;> rfl) | (simp [*, errW_none, errW_some] <;> rfl), by repeat (first | (with_reducible first | exact HB.out | apply below_alloc | apply pw_below_drewN | apply below_drew1 | refine below_set ?_ GE139.out) | exact HB.out)⟩
              case rest =>
                clear HC36
                try clear c1
                try clear c2
                try clear p2
                try clear c3
                try clear c4
                try clear c4b0
                try clear c6
                try clear c6b0
                try clear c8
                try clear c8b0
                try clear c10
                try clear c10b0
                try clear c12
                try clear c12b0
                try clear c14
                try clear c14b0
                try clear c16
                try clear c16b0
                try clear c18
                try clear c18b0
                try clear c22
                try clear c24
                try clear c24b0
                try clear c26
                try clear c26b0
                try clear c28
                try clear c28b0
                try clear c30
                try clear c30b0
                try clear c32
                try clear c32b0
                try clear c32b1
                try clear c35
                try clear c38
                try clear c38b0
                try clear c38b1
                try clear c40
                try clear c40b0
                try clear c40b1
                try clear hcz11_0
                try clear hcz11_1
                try clear hcz11_2
                try clear hcz11_3
                try clear hcz11_4
                try clear hcz11_5
                try clear hcz11_6
                try clear hcz11_7
                try clear hcz11_8
                try clear hcz13_0
                try clear hcz13_1
                try clear hcz13_2
                try clear hcz13_3
                try clear hcz13_4
                try clear hcz13_5
                try clear hcz13_6
                try clear hcz13_7
                try clear hcz13_8
                try clear hcz15_0
                try clear hcz15_1
                try clear hcz15_2
                try clear hcz15_3
                try clear hcz15_4
                try clear hcz15_5
                try clear hcz15_6
                try clear hcz15_7
                try clear hcz15_8
                try clear hcz17_0
                try clear hcz17_1
                try clear hcz17_2
                try clear hcz17_3
                try clear hcz17_4
                try clear hcz17_5
                try clear hcz17_6
                try clear hcz17_7
                try clear hcz17_8
                try clear hcz19_0
                try clear hcz19_1
                try clear hcz19_2
                try clear hcz19_3
                try clear hcz19_4
                try clear hcz19_5
                try clear hcz19_6
                try clear hcz19_7
                try clear hcz19_8
                try clear hcz21_0
                try clear hcz21_1
                try clear hcz21_2
                try clear hcz21_3
                try clear hcz21_4
                try clear hcz21_5
                try clear hcz21_6
                try clear hcz21_7
                try clear hcz21_8
                try clear hcz25_0
                try clear hcz25_1
                try clear hcz25_2
                try clear hcz25_3
                try clear hcz25_4
                try clear hcz25_5
                try clear hcz25_6
                try clear hcz25_7
                try clear hcz25_8
                try clear hcz27_0
                try clear hcz27_1
                try clear hcz27_2
                try clear hcz27_3
                try clear hcz27_4
                try clear hcz27_5
                try clear hcz27_6
                try clear hcz27_7
                try clear hcz27_8
                try clear hcz29_0
                try clear hcz29_1
                try clear hcz29_2
                try clear hcz29_3
                try clear hcz29_4
                try clear hcz29_5
                try clear hcz29_6
                try clear hcz29_7
                try clear hcz29_8
                try clear hcz31_0
                try clear hcz31_1
                try clear hcz31_2
                try clear hcz31_3
                try clear hcz31_4
                try clear hcz31_5
                try clear hcz31_6
                try clear hcz31_7
                try clear hcz31_8
                try clear hcz33_0
                try clear hcz33_1
                try clear hcz33_2
                try clear hcz33_3
                try clear hcz33_4
                try clear hcz33_5
                try clear hcz33_6
                try clear hcz33_7
                try clear hcz33_8
                try clear hcz34_0
                try clear hcz34_1
                try clear hcz34_2
                try clear hcz34_3
                try clear hcz34_4
                try clear hcz34_5
                try clear hcz34_6
                try clear hcz34_7
                try clear hcz34_8
                try clear hcz37_0
                try clear hcz37_1
                try clear hcz37_2
                try clear hcz37_3
                try clear hcz37_4
                try clear hcz37_5
                try clear hcz37_6
                try clear hcz37_7
                try clear hcz37_8
                try clear hcz41_0
                try clear hcz41_1
                try clear hcz41_2
                try clear hcz41_3
                try clear hcz41_4
                try clear hcz41_5
                try clear hcz41_6
                try clear hcz41_7
                try clear hcz41_8
                try clear hcz44_0
                try clear hcz44_1
                try clear hcz44_2
                try clear hcz44_3
                try clear hcz44_4
                try clear hcz44_5
                try clear hcz44_6
                try clear hcz44_7
                try clear hcz44_8
                try clear hcz5_0
                try clear hcz5_1
                try clear hcz5_2
                try clear hcz5_3
                try clear hcz5_4
                try clear hcz5_5
                try clear hcz5_6
                try clear hcz5_7
                try clear hcz5_8
                try clear hcz7_0
                try clear hcz7_1
                try clear hcz7_2
                try clear hcz7_3
                try clear hcz7_4
                try clear hcz7_5
                try clear hcz7_6
                try clear hcz7_7
                try clear hcz7_8
                try clear hcz9_0
                try clear hcz9_1
                try clear hcz9_2
                try clear hcz9_3
                try clear hcz9_4
                try clear hcz9_5
                try clear hcz9_6
                try clear hcz9_7
                try clear hcz9_8
                try clear hfz11_0
                try clear hfz11_1
                try clear hfz11_2
                try clear hfz11_3
                try clear hfz11_4
                try clear hfz11_5
                try clear hfz11_6
                try clear hfz11_7
                try clear hfz11_8
                try clear hfz13_0
                try clear hfz13_1
                try clear hfz13_2
                try clear hfz13_3
                try clear hfz13_4
                try clear hfz13_5
                try clear hfz13_6
                try clear hfz13_7
                try clear hfz13_8
                try clear hfz15_0
                try clear hfz15_1
                try clear hfz15_2
                try clear hfz15_3
                try clear hfz15_4
                try clear hfz15_5
                try clear hfz15_6
                try clear hfz15_7
                try clear hfz15_8
                try clear hfz17_0
                try clear hfz17_1
                try clear hfz17_2
                try clear hfz17_3
                try clear hfz17_4
                try clear hfz17_5
                try clear hfz17_6
                try clear hfz17_7
                try clear hfz17_8
                try clear hfz19_0
                try clear hfz19_1
                try clear hfz19_2
                try clear hfz19_3
                try clear hfz19_4
                try clear hfz19_5
                try clear hfz19_6
                try clear hfz19_7
                try clear hfz19_8
                try clear hfz21_0
                try clear hfz21_1
                try clear hfz21_2
                try clear hfz21_3
                try clear hfz21_4
                try clear hfz21_5
                try clear hfz21_6
                try clear hfz21_7
                try clear hfz21_8
                try clear hfz25_0
                try clear hfz25_1
                try clear hfz25_2
                try clear hfz25_3
                try clear hfz25_4
                try clear hfz25_5
                try clear hfz25_6
                try clear hfz25_7
                try clear hfz25_8
                try clear hfz27_0
                try clear hfz27_1
                try clear hfz27_2
                try clear hfz27_3
                try clear hfz27_4
                try clear hfz27_5
                try clear hfz27_6
                try clear hfz27_7
                try clear hfz27_8
                try clear hfz29_0
                try clear hfz29_1
                try clear hfz29_2
                try clear hfz29_3
                try clear hfz29_4
                try clear hfz29_5
                try clear hfz29_6
                try clear hfz29_7
                try clear hfz29_8
                try clear hfz31_0
                try clear hfz31_1
                try clear hfz31_2
                try clear hfz31_3
                try clear hfz31_4
                try clear hfz31_5
                try clear hfz31_6
                try clear hfz31_7
                try clear hfz31_8
                try clear hfz33_0
                try clear hfz33_1
                try clear hfz33_2
                try clear hfz33_3
                try clear hfz33_4
                try clear hfz33_5
                try clear hfz33_6
                try clear hfz33_7
                try clear hfz33_8
                try clear hfz34_0
                try clear hfz34_1
                try clear hfz34_2
                try clear hfz34_3
                try clear hfz34_4
                try clear hfz34_5
                try clear hfz34_6
                try clear hfz34_7
                try clear hfz34_8
                try clear hfz37_0
                try clear hfz37_1
                try clear hfz37_2
                try clear hfz37_3
                try clear hfz37_4
                try clear hfz37_5
                try clear hfz37_6
                try clear hfz37_7
                try clear hfz37_8
                try clear hfz41_0
                try clear hfz41_1
                try clear hfz41_2
                try clear hfz41_3
                try clear hfz41_4
                try clear hfz41_5
                try clear hfz41_6
                try clear hfz41_7
                try clear hfz41_8
                try clear hfz44_0
                try clear hfz44_1
                try clear hfz44_2
                try clear hfz44_3
                try clear hfz44_4
                try clear hfz44_5
                try clear hfz44_6
                try clear hfz44_7
                try clear hfz44_8
                try clear hfz5_0
                try clear hfz5_1
                try clear hfz5_2
                try clear hfz5_3
                try clear hfz5_4
                try clear hfz5_5
                try clear hfz5_6
                try clear hfz5_7
                try clear hfz5_8
                try clear hfz7_0
                try clear hfz7_1
                try clear hfz7_2
                try clear hfz7_3
                try clear hfz7_4
                try clear hfz7_5
                try clear hfz7_6
                try clear hfz7_7
                try clear hfz7_8
                try clear hfz9_0
                try clear hfz9_1
                try clear hfz9_2
                try clear hfz9_3
                try clear hfz9_4
                try clear hfz9_5
                try clear hfz9_6
                try clear hfz9_7
                try clear hfz9_8
                try clear p2
                obtain ⟨kq, x3_35, rfl, HA, HJ35, BK139, HB⟩ := hcut
                cases kq with
                | zero => exact absurd HA.out (by simp [vitrineref20_Right.j2])
                | succ kj35 =>
                  have H := HA.out
                  clear HA
                  simp only [vitrineref20_Right.j2] at H
                  by_cases c46 : (l0_8.length : Int) > x3_35
                  · rw [if_pos c46] at H
                    have c46b0 : decide (x3_35 < (l0_8.length : Int)) = true := decide_eq_true c46
                    clear c46
                    obtain rfl := Option.some.inj H
                    have hcz47_0 : wc.cell? ⟨gb139, 0, none⟩ = some (.int .i64 a0_0) := (blk_cell BK139.out 0).trans rfl
                    have hcz47_1 : wc.cell? ⟨gb139, 1, none⟩ = some (.int .i64 a0_1) := (blk_cell BK139.out 1).trans rfl
                    have hcz47_2 : wc.cell? ⟨gb139, 2, none⟩ = some (.int .i64 a0_2) := (blk_cell BK139.out 2).trans rfl
                    have hcz47_3 : wc.cell? ⟨gb139, 3, none⟩ = some (.int .i64 a0_3) := (blk_cell BK139.out 3).trans rfl
                    have hcz47_4 : wc.cell? ⟨gb139, 4, none⟩ = some (.string a0_4) := (blk_cell BK139.out 4).trans rfl
                    have hcz47_5 : wc.cell? ⟨gb139, 5, none⟩ = some (.int .i64 a0_5) := (blk_cell BK139.out 5).trans rfl
                    have hcz47_6 : wc.cell? ⟨gb139, 6, none⟩ = some (.int .i64 a0_6) := (blk_cell BK139.out 6).trans rfl
                    have hcz47_7 : wc.cell? ⟨gb139, 7, none⟩ = some (.string a0_7) := (blk_cell BK139.out 7).trans rfl
                    have hcz47_8 : wc.cell? ⟨gb139, 8, none⟩ = some (.slice A0_8 l0_8.length c0_8) := (blk_cell BK139.out 8).trans rfl
                    have hfz47_0 := blk_frozen BK139.out 0
                    have hfz47_1 := blk_frozen BK139.out 1
                    have hfz47_2 := blk_frozen BK139.out 2
                    have hfz47_3 := blk_frozen BK139.out 3
                    have hfz47_4 := blk_frozen BK139.out 4
                    have hfz47_5 := blk_frozen BK139.out 5
                    have hfz47_6 := blk_frozen BK139.out 6
                    have hfz47_7 := blk_frozen BK139.out 7
                    have hfz47_8 := blk_frozen BK139.out 8
                    go_wp2
                    go_ret
                    exact ⟨by first | rfl | (simp [errW_none, errW_some] <;> rfl) | (simp [*, errW_none, errW_some] <;> rfl), by repeat (first | (with_reducible first | exact HB.out | apply below_alloc | apply pw_below_drewN | apply below_drew1 | refine below_set ?_ GE139.out) | exact HB.out)⟩
                  · rw [if_neg c46] at H
                    have c46b0 : decide (x3_35 < (l0_8.length : Int)) = false := decide_eq_false c46
                    clear c46
                    have H' := Aside0.mk H
                    clear H
                    have hcz48_0 : wc.cell? ⟨gb139, 0, none⟩ = some (.int .i64 a0_0) := (blk_cell BK139.out 0).trans rfl
                    have hcz48_1 : wc.cell? ⟨gb139, 1, none⟩ = some (.int .i64 a0_1) := (blk_cell BK139.out 1).trans rfl
                    have hcz48_2 : wc.cell? ⟨gb139, 2, none⟩ = some (.int .i64 a0_2) := (blk_cell BK139.out 2).trans rfl
                    have hcz48_3 : wc.cell? ⟨gb139, 3, none⟩ = some (.int .i64 a0_3) := (blk_cell BK139.out 3).trans rfl
                    have hcz48_4 : wc.cell? ⟨gb139, 4, none⟩ = some (.string a0_4) := (blk_cell BK139.out 4).trans rfl
                    have hcz48_5 : wc.cell? ⟨gb139, 5, none⟩ = some (.int .i64 a0_5) := (blk_cell BK139.out 5).trans rfl
                    have hcz48_6 : wc.cell? ⟨gb139, 6, none⟩ = some (.int .i64 a0_6) := (blk_cell BK139.out 6).trans rfl
                    have hcz48_7 : wc.cell? ⟨gb139, 7, none⟩ = some (.string a0_7) := (blk_cell BK139.out 7).trans rfl
                    have hcz48_8 : wc.cell? ⟨gb139, 8, none⟩ = some (.slice A0_8 l0_8.length c0_8) := (blk_cell BK139.out 8).trans rfl
                    have hfz48_0 := blk_frozen BK139.out 0
                    have hfz48_1 := blk_frozen BK139.out 1
                    have hfz48_2 := blk_frozen BK139.out 2
                    have hfz48_3 := blk_frozen BK139.out 3
                    have hfz48_4 := blk_frozen BK139.out 4
                    have hfz48_5 := blk_frozen BK139.out 5
                    have hfz48_6 := blk_frozen BK139.out 6
                    have hfz48_7 := blk_frozen BK139.out 7
                    have hfz48_8 := blk_frozen BK139.out 8
                    go_wp2
                    go_loopg [8] kj35 (fun kq v8 w' => ∃ (x8_4 : Int), v8 = .int .i64 x8_4 ∧ Aside0 (vitrineref20_Right.l0 kq x8_4 a0_0 a0_1 a0_2 a0_3 a0_4 a0_5 a0_6 a0_7 l0_8 = some r) ∧ Aside0 (kq ≤ kj35) ∧ Aside0 (w'.heap[gb139]? = some (.cells #[.int .i64 a0_0, .int .i64 a0_1, .int .i64 a0_2, .int .i64 a0_3, .string a0_4, .int .i64 a0_5, .int .i64 a0_6, .string a0_7, (.slice A0_8 l0_8.length c0_8)] 26 (0, 0))) ∧ Aside0 (Below w.heap.size w w'))
                    case atStart => exact ⟨(0), (by first | rfl | (simp; done) | (simp [*]; done)), H', ⟨Nat.le_refl _⟩, ⟨by (with_reducible repeat (first | refine blk_drewN ?_ _ | refine blk_drew ?_ | refine blk_alloc ?_ _)); exact BK139.out⟩, ⟨by repeat (first | (with_reducible first | exact HB.out | apply below_alloc | apply pw_below_drewN | apply below_drew1 | refine below_set ?_ GE139.out) | exact HB.out)⟩⟩
                    case round =>
                      clear H'
                      try clear c1
                      try clear c2
                      try clear p2
                      try clear c3
                      try clear c4
                      try clear c4b0
                      try clear c6
                      try clear c6b0
                      try clear c8
                      try clear c8b0
                      try clear c10
                      try clear c10b0
                      try clear c12
                      try clear c12b0
                      try clear c14
                      try clear c14b0
                      try clear c16
                      try clear c16b0
                      try clear c18
                      try clear c18b0
                      try clear c22
                      try clear c24
                      try clear c24b0
                      try clear c26
                      try clear c26b0
                      try clear c28
                      try clear c28b0
                      try clear c30
                      try clear c30b0
                      try clear c32
                      try clear c32b0
                      try clear c32b1
                      try clear c35
                      try clear c38
                      try clear c38b0
                      try clear c38b1
                      try clear c40
                      try clear c40b0
                      try clear c40b1
                      try clear c46
                      try clear c46b0
                      try clear hcz11_0
                      try clear hcz11_1
                      try clear hcz11_2
                      try clear hcz11_3
                      try clear hcz11_4
                      try clear hcz11_5
                      try clear hcz11_6
                      try clear hcz11_7
                      try clear hcz11_8
                      try clear hcz13_0
                      try clear hcz13_1
                      try clear hcz13_2
                      try clear hcz13_3
                      try clear hcz13_4
                      try clear hcz13_5
                      try clear hcz13_6
                      try clear hcz13_7
                      try clear hcz13_8
                      try clear hcz15_0
                      try clear hcz15_1
                      try clear hcz15_2
                      try clear hcz15_3
                      try clear hcz15_4
                      try clear hcz15_5
                      try clear hcz15_6
                      try clear hcz15_7
                      try clear hcz15_8
                      try clear hcz17_0
                      try clear hcz17_1
                      try clear hcz17_2
                      try clear hcz17_3
                      try clear hcz17_4
                      try clear hcz17_5
                      try clear hcz17_6
                      try clear hcz17_7
                      try clear hcz17_8
                      try clear hcz19_0
                      try clear hcz19_1
                      try clear hcz19_2
                      try clear hcz19_3
                      try clear hcz19_4
                      try clear hcz19_5
                      try clear hcz19_6
                      try clear hcz19_7
                      try clear hcz19_8
                      try clear hcz21_0
                      try clear hcz21_1
                      try clear hcz21_2
                      try clear hcz21_3
                      try clear hcz21_4
                      try clear hcz21_5
                      try clear hcz21_6
                      try clear hcz21_7
                      try clear hcz21_8
                      try clear hcz25_0
                      try clear hcz25_1
                      try clear hcz25_2
                      try clear hcz25_3
                      try clear hcz25_4
                      try clear hcz25_5
                      try clear hcz25_6
                      try clear hcz25_7
                      try clear hcz25_8
                      try clear hcz27_0
                      try clear hcz27_1
                      try clear hcz27_2
                      try clear hcz27_3
                      try clear hcz27_4
                      try clear hcz27_5
                      try clear hcz27_6
                      try clear hcz27_7
                      try clear hcz27_8
                      try clear hcz29_0
                      try clear hcz29_1
                      try clear hcz29_2
                      try clear hcz29_3
                      try clear hcz29_4
                      try clear hcz29_5
                      try clear hcz29_6
                      try clear hcz29_7
                      try clear hcz29_8
                      try clear hcz31_0
                      try clear hcz31_1
                      try clear hcz31_2
                      try clear hcz31_3
                      try clear hcz31_4
                      try clear hcz31_5
                      try clear hcz31_6
                      try clear hcz31_7
                      try clear hcz31_8
                      try clear hcz33_0
                      try clear hcz33_1
                      try clear hcz33_2
                      try clear hcz33_3
                      try clear hcz33_4
                      try clear hcz33_5
                      try clear hcz33_6
                      try clear hcz33_7
                      try clear hcz33_8
                      try clear hcz34_0
                      try clear hcz34_1
                      try clear hcz34_2
                      try clear hcz34_3
                      try clear hcz34_4
                      try clear hcz34_5
                      try clear hcz34_6
                      try clear hcz34_7
                      try clear hcz34_8
                      try clear hcz37_0
                      try clear hcz37_1
                      try clear hcz37_2
                      try clear hcz37_3
                      try clear hcz37_4
                      try clear hcz37_5
                      try clear hcz37_6
                      try clear hcz37_7
                      try clear hcz37_8
                      try clear hcz41_0
                      try clear hcz41_1
                      try clear hcz41_2
                      try clear hcz41_3
                      try clear hcz41_4
                      try clear hcz41_5
                      try clear hcz41_6
                      try clear hcz41_7
                      try clear hcz41_8
                      try clear hcz44_0
                      try clear hcz44_1
                      try clear hcz44_2
                      try clear hcz44_3
                      try clear hcz44_4
                      try clear hcz44_5
                      try clear hcz44_6
                      try clear hcz44_7
                      try clear hcz44_8
                      try clear hcz47_0
                      try clear hcz47_1
                      try clear hcz47_2
                      try clear hcz47_3
                      try clear hcz47_4
                      try clear hcz47_5
                      try clear hcz47_6
                      try clear hcz47_7
                      try clear hcz47_8
                      try clear hcz48_0
                      try clear hcz48_1
                      try clear hcz48_2
                      try clear hcz48_3
                      try clear hcz48_4
                      try clear hcz48_5
                      try clear hcz48_6
                      try clear hcz48_7
                      try clear hcz48_8
                      try clear hcz5_0
                      try clear hcz5_1
                      try clear hcz5_2
                      try clear hcz5_3
                      try clear hcz5_4
                      try clear hcz5_5
                      try clear hcz5_6
                      try clear hcz5_7
                      try clear hcz5_8
                      try clear hcz7_0
                      try clear hcz7_1
                      try clear hcz7_2
                      try clear hcz7_3
                      try clear hcz7_4
                      try clear hcz7_5
                      try clear hcz7_6
                      try clear hcz7_7
                      try clear hcz7_8
                      try clear hcz9_0
                      try clear hcz9_1
                      try clear hcz9_2
                      try clear hcz9_3
                      try clear hcz9_4
                      try clear hcz9_5
                      try clear hcz9_6
                      try clear hcz9_7
                      try clear hcz9_8
                      try clear hfz11_0
                      try clear hfz11_1
                      try clear hfz11_2
                      try clear hfz11_3
                      try clear hfz11_4
                      try clear hfz11_5
                      try clear hfz11_6
                      try clear hfz11_7
                      try clear hfz11_8
                      try clear hfz13_0
                      try clear hfz13_1
                      try clear hfz13_2
                      try clear hfz13_3
                      try clear hfz13_4
                      try clear hfz13_5
                      try clear hfz13_6
                      try clear hfz13_7
                      try clear hfz13_8
                      try clear hfz15_0
                      try clear hfz15_1
                      try clear hfz15_2
                      try clear hfz15_3
                      try clear hfz15_4
                      try clear hfz15_5
                      try clear hfz15_6
                      try clear hfz15_7
                      try clear hfz15_8
                      try clear hfz17_0
                      try clear hfz17_1
                      try clear hfz17_2
                      try clear hfz17_3
                      try clear hfz17_4
                      try clear hfz17_5
                      try clear hfz17_6
                      try clear hfz17_7
                      try clear hfz17_8
                      try clear hfz19_0
                      try clear hfz19_1
                      try clear hfz19_2
                      try clear hfz19_3
                      try clear hfz19_4
                      try clear hfz19_5
                      try clear hfz19_6
                      try clear hfz19_7
                      try clear hfz19_8
                      try clear hfz21_0
                      try clear hfz21_1
                      try clear hfz21_2
                      try clear hfz21_3
                      try clear hfz21_4
                      try clear hfz21_5
                      try clear hfz21_6
                      try clear hfz21_7
                      try clear hfz21_8
                      try clear hfz25_0
                      try clear hfz25_1
                      try clear hfz25_2
                      try clear hfz25_3
                      try clear hfz25_4
                      try clear hfz25_5
                      try clear hfz25_6
                      try clear hfz25_7
                      try clear hfz25_8
                      try clear hfz27_0
                      try clear hfz27_1
                      try clear hfz27_2
                      try clear hfz27_3
                      try clear hfz27_4
                      try clear hfz27_5
                      try clear hfz27_6
                      try clear hfz27_7
                      try clear hfz27_8
                      try clear hfz29_0
                      try clear hfz29_1
                      try clear hfz29_2
                      try clear hfz29_3
                      try clear hfz29_4
                      try clear hfz29_5
                      try clear hfz29_6
                      try clear hfz29_7
                      try clear hfz29_8
                      try clear hfz31_0
                      try clear hfz31_1
                      try clear hfz31_2
                      try clear hfz31_3
                      try clear hfz31_4
                      try clear hfz31_5
                      try clear hfz31_6
                      try clear hfz31_7
                      try clear hfz31_8
                      try clear hfz33_0
                      try clear hfz33_1
                      try clear hfz33_2
                      try clear hfz33_3
                      try clear hfz33_4
                      try clear hfz33_5
                      try clear hfz33_6
                      try clear hfz33_7
                      try clear hfz33_8
                      try clear hfz34_0
                      try clear hfz34_1
                      try clear hfz34_2
                      try clear hfz34_3
                      try clear hfz34_4
                      try clear hfz34_5
                      try clear hfz34_6
                      try clear hfz34_7
                      try clear hfz34_8
                      try clear hfz37_0
                      try clear hfz37_1
                      try clear hfz37_2
                      try clear hfz37_3
                      try clear hfz37_4
                      try clear hfz37_5
                      try clear hfz37_6
                      try clear hfz37_7
                      try clear hfz37_8
                      try clear hfz41_0
                      try clear hfz41_1
                      try clear hfz41_2
                      try clear hfz41_3
                      try clear hfz41_4
                      try clear hfz41_5
                      try clear hfz41_6
                      try clear hfz41_7
                      try clear hfz41_8
                      try clear hfz44_0
                      try clear hfz44_1
                      try clear hfz44_2
                      try clear hfz44_3
                      try clear hfz44_4
                      try clear hfz44_5
                      try clear hfz44_6
                      try clear hfz44_7
                      try clear hfz44_8
                      try clear hfz47_0
                      try clear hfz47_1
                      try clear hfz47_2
                      try clear hfz47_3
                      try clear hfz47_4
                      try clear hfz47_5
                      try clear hfz47_6
                      try clear hfz47_7
                      try clear hfz47_8
                      try clear hfz48_0
                      try clear hfz48_1
                      try clear hfz48_2
                      try clear hfz48_3
                      try clear hfz48_4
                      try clear hfz48_5
                      try clear hfz48_6
                      try clear hfz48_7
                      try clear hfz48_8
                      try clear hfz5_0
                      try clear hfz5_1
                      try clear hfz5_2
                      try clear hfz5_3
                      try clear hfz5_4
                      try clear hfz5_5
                      try clear hfz5_6
                      try clear hfz5_7
                      try clear hfz5_8
                      try clear hfz7_0
                      try clear hfz7_1
                      try clear hfz7_2
                      try clear hfz7_3
                      try clear hfz7_4
                      try clear hfz7_5
                      try clear hfz7_6
                      try clear hfz7_7
                      try clear hfz7_8
                      try clear hfz9_0
                      try clear hfz9_1
                      try clear hfz9_2
                      try clear hfz9_3
                      try clear hfz9_4
                      try clear hfz9_5
                      try clear hfz9_6
                      try clear hfz9_7
                      try clear hfz9_8
                      try clear p2
                      obtain ⟨x8_4, rfl, HA, HK4, BK139, HB⟩ := hrel
                      cases gk with
                      | zero => exact absurd HA.out (by simp [vitrineref20_Right.l0])
                      | succ k4 =>
                        have H := HA.out
                        clear HA
                        simp only [vitrineref20_Right.l0] at H
                        by_cases c49 : x8_4 < (l0_8.length : Int)
                        · rw [if_pos c49] at H
                          have c49b0 : decide (x8_4 < (l0_8.length : Int)) = true := decide_eq_true c49
                          clear c49
                          by_cases c50 : 0 ≤ x8_4
                          · rw [if_pos c50] at H
                            have c50b0 : decide (0 ≤ x8_4) = true := decide_eq_true c50
                            clear c50
                            by_cases c51 : ((rdOf ByteArray.empty l0_8 x8_4).size : Int) > 65536
                            · rw [if_pos c51] at H
                              have c51b0 : decide (65536 < ((rdOf ByteArray.empty l0_8 x8_4).size : Int)) = true := decide_eq_true c51
                              have c51b1 : decide (65536 < (rdOf ByteArray.empty l0_8 x8_4).size) = true := decide_eq_true (by omega)
                              clear c51
                              obtain rfl := Option.some.inj H
                              have hcz52_0 : wr.cell? ⟨gb139, 0, none⟩ = some (.int .i64 a0_0) := (blk_cell BK139.out 0).trans rfl
                              have hcz52_1 : wr.cell? ⟨gb139, 1, none⟩ = some (.int .i64 a0_1) := (blk_cell BK139.out 1).trans rfl
                              have hcz52_2 : wr.cell? ⟨gb139, 2, none⟩ = some (.int .i64 a0_2) := (blk_cell BK139.out 2).trans rfl
                              have hcz52_3 : wr.cell? ⟨gb139, 3, none⟩ = some (.int .i64 a0_3) := (blk_cell BK139.out 3).trans rfl
                              have hcz52_4 : wr.cell? ⟨gb139, 4, none⟩ = some (.string a0_4) := (blk_cell BK139.out 4).trans rfl
                              have hcz52_5 : wr.cell? ⟨gb139, 5, none⟩ = some (.int .i64 a0_5) := (blk_cell BK139.out 5).trans rfl
                              have hcz52_6 : wr.cell? ⟨gb139, 6, none⟩ = some (.int .i64 a0_6) := (blk_cell BK139.out 6).trans rfl
                              have hcz52_7 : wr.cell? ⟨gb139, 7, none⟩ = some (.string a0_7) := (blk_cell BK139.out 7).trans rfl
                              have hcz52_8 : wr.cell? ⟨gb139, 8, none⟩ = some (.slice A0_8 l0_8.length c0_8) := (blk_cell BK139.out 8).trans rfl
                              have hfz52_0 := blk_frozen BK139.out 0
                              have hfz52_1 := blk_frozen BK139.out 1
                              have hfz52_2 := blk_frozen BK139.out 2
                              have hfz52_3 := blk_frozen BK139.out 3
                              have hfz52_4 := blk_frozen BK139.out 4
                              have hfz52_5 := blk_frozen BK139.out 5
                              have hfz52_6 := blk_frozen BK139.out 6
                              have hfz52_7 := blk_frozen BK139.out 7
                              have hfz52_8 := blk_frozen BK139.out 8
                              have p147 : 0 ≤ (x8_4 : Int) := of_decide_eq_true (by first | (with_reducible assumption) | assumption)
                              have q147 : x8_4 < (l0_8.length : Int) := of_decide_eq_true (by first | (with_reducible assumption) | assumption)
                              obtain ⟨ad147, e147, hx147_0⟩ := Kd.at_string HR0_8.out x8_4 p147 q147
                              cases e147
                              replace hx147_0 := (HB.out.cell (World.block_lt_of_cell? w _ hx147_0)).trans hx147_0
                              replace p147 := eq_true p147
                              replace q147 := eq_true q147
                              go_wp2
                              go_ret
                              exact ⟨by first | rfl | (simp [errW_none, errW_some] <;> rfl) | (simp [*, errW_none, errW_some] <;> rfl), by repeat (first | (with_reducible first | exact HB.out | apply below_alloc | apply pw_below_drewN | apply below_drew1 | refine below_set ?_ GE139.out) | exact HB.out)⟩
                            · rw [if_neg c51] at H
                              have c51b0 : decide (65536 < ((rdOf ByteArray.empty l0_8 x8_4).size : Int)) = false := decide_eq_false c51
                              have c51b1 : decide (65536 < (rdOf ByteArray.empty l0_8 x8_4).size) = false := decide_eq_false (by omega)
                              clear c51
                              have H' := Aside0.mk H
                              clear H
                              have hcz53_0 : wr.cell? ⟨gb139, 0, none⟩ = some (.int .i64 a0_0) := (blk_cell BK139.out 0).trans rfl
                              have hcz53_1 : wr.cell? ⟨gb139, 1, none⟩ = some (.int .i64 a0_1) := (blk_cell BK139.out 1).trans rfl
                              have hcz53_2 : wr.cell? ⟨gb139, 2, none⟩ = some (.int .i64 a0_2) := (blk_cell BK139.out 2).trans rfl
                              have hcz53_3 : wr.cell? ⟨gb139, 3, none⟩ = some (.int .i64 a0_3) := (blk_cell BK139.out 3).trans rfl
                              have hcz53_4 : wr.cell? ⟨gb139, 4, none⟩ = some (.string a0_4) := (blk_cell BK139.out 4).trans rfl
                              have hcz53_5 : wr.cell? ⟨gb139, 5, none⟩ = some (.int .i64 a0_5) := (blk_cell BK139.out 5).trans rfl
                              have hcz53_6 : wr.cell? ⟨gb139, 6, none⟩ = some (.int .i64 a0_6) := (blk_cell BK139.out 6).trans rfl
                              have hcz53_7 : wr.cell? ⟨gb139, 7, none⟩ = some (.string a0_7) := (blk_cell BK139.out 7).trans rfl
                              have hcz53_8 : wr.cell? ⟨gb139, 8, none⟩ = some (.slice A0_8 l0_8.length c0_8) := (blk_cell BK139.out 8).trans rfl
                              have hfz53_0 := blk_frozen BK139.out 0
                              have hfz53_1 := blk_frozen BK139.out 1
                              have hfz53_2 := blk_frozen BK139.out 2
                              have hfz53_3 := blk_frozen BK139.out 3
                              have hfz53_4 := blk_frozen BK139.out 4
                              have hfz53_5 := blk_frozen BK139.out 5
                              have hfz53_6 := blk_frozen BK139.out 6
                              have hfz53_7 := blk_frozen BK139.out 7
                              have hfz53_8 := blk_frozen BK139.out 8
                              have p147 : 0 ≤ (x8_4 : Int) := of_decide_eq_true (by first | (with_reducible assumption) | assumption)
                              have q147 : x8_4 < (l0_8.length : Int) := of_decide_eq_true (by first | (with_reducible assumption) | assumption)
                              obtain ⟨ad147, e147, hx147_0⟩ := Kd.at_string HR0_8.out x8_4 p147 q147
                              cases e147
                              replace hx147_0 := (HB.out.cell (World.block_lt_of_cell? w _ hx147_0)).trans hx147_0
                              replace p147 := eq_true p147
                              replace q147 := eq_true q147
                              go_wp2
                              go_roundg k4
                              case measure => have := HJ1.out; have := HJ22.out; have := HJ35.out; have := HK4.out; omega
                              case rel => exact ⟨(wrap64 (x8_4 + 1)), (by first | rfl | (simp; done) | (simp [*]; done)), H', ⟨by have := HJ1.out; have := HJ22.out; have := HJ35.out; have := HK4.out; omega⟩, ⟨by (with_reducible repeat (first | refine blk_drewN ?_ _ | refine blk_drew ?_ | refine blk_alloc ?_ _)); exact BK139.out⟩, ⟨by repeat (first | (with_reducible first | exact HB.out | apply below_alloc | apply pw_below_drewN | apply below_drew1 | refine below_set ?_ GE139.out) | exact HB.out)⟩⟩
                          · rw [if_neg c50] at H
                            exact absurd H (by simp)
                        · rw [if_neg c49] at H
                          have c49b0 : decide (x8_4 < (l0_8.length : Int)) = false := decide_eq_false c49
                          clear c49
                          obtain rfl := Option.some.inj H
                          have hcz54_0 : wr.cell? ⟨gb139, 0, none⟩ = some (.int .i64 a0_0) := (blk_cell BK139.out 0).trans rfl
                          have hcz54_1 : wr.cell? ⟨gb139, 1, none⟩ = some (.int .i64 a0_1) := (blk_cell BK139.out 1).trans rfl
                          have hcz54_2 : wr.cell? ⟨gb139, 2, none⟩ = some (.int .i64 a0_2) := (blk_cell BK139.out 2).trans rfl
                          have hcz54_3 : wr.cell? ⟨gb139, 3, none⟩ = some (.int .i64 a0_3) := (blk_cell BK139.out 3).trans rfl
                          have hcz54_4 : wr.cell? ⟨gb139, 4, none⟩ = some (.string a0_4) := (blk_cell BK139.out 4).trans rfl
                          have hcz54_5 : wr.cell? ⟨gb139, 5, none⟩ = some (.int .i64 a0_5) := (blk_cell BK139.out 5).trans rfl
                          have hcz54_6 : wr.cell? ⟨gb139, 6, none⟩ = some (.int .i64 a0_6) := (blk_cell BK139.out 6).trans rfl
                          have hcz54_7 : wr.cell? ⟨gb139, 7, none⟩ = some (.string a0_7) := (blk_cell BK139.out 7).trans rfl
                          have hcz54_8 : wr.cell? ⟨gb139, 8, none⟩ = some (.slice A0_8 l0_8.length c0_8) := (blk_cell BK139.out 8).trans rfl
                          have hfz54_0 := blk_frozen BK139.out 0
                          have hfz54_1 := blk_frozen BK139.out 1
                          have hfz54_2 := blk_frozen BK139.out 2
                          have hfz54_3 := blk_frozen BK139.out 3
                          have hfz54_4 := blk_frozen BK139.out 4
                          have hfz54_5 := blk_frozen BK139.out 5
                          have hfz54_6 := blk_frozen BK139.out 6
                          have hfz54_7 := blk_frozen BK139.out 7
                          have hfz54_8 := blk_frozen BK139.out 8
                          go_wp2
                          go_ret
                          exact ⟨by first | rfl | (simp [errW_none, errW_some] <;> rfl) | (simp [*, errW_none, errW_some] <;> rfl), by repeat (first | (with_reducible first | exact HB.out | apply below_alloc | apply pw_below_drewN | apply below_drew1 | refine below_set ?_ GE139.out) | exact HB.out)⟩

end Go.Proofs.Ytnimhhhbefpifaa.PL20
