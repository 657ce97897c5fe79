/- Printed for this claim by a program of this session over the kit's print program: the Go functions as Lean functions, and proofs that the calls come to these answers. No conditions. -/
import Derived.Test.YtfgbfbhllbejpaaPL07x0
import Derived.Test.YtfgbfbhllbejpaaPL07x2
import Derived.Test.YtfgbfbhllbejpaaPL07x4
namespace Go.Proofs.Ytfgbfbhllbejpaa.PL07
open Go.RowKit Go.Proofs.YtfgbfbhllbejpaaW.PrintWords Go.Proofs.YtfgbfbhllbejpaaW.PrintLast Go.Proofs.YtfgbfbhllbejpaaW.PrintMore
attribute [local go_sem] max2_int min2_int max_two min_two max_three min_three max_four min_four   -- for this text's walks alone
set_option linter.unusedVariables false
set_option linter.unusedSimpArgs false

/-! ### chunk_Join: function 14 -/
mutual
def chunk_Join.l0 : Nat → List (S35) → Int → Int → ByteArray → Option (ByteArray × Int)
  | 0, _, _, _, _ => none
  | k + 1, x9, x10, x11, x125000 => if x11 < x10 then (if 0 ≤ x11 then (if x11 < (x9.length : Int) then ((chunk_named.f k ((rd_T35 x9 x11).f0)).bind fun t132 => (if t132 = true then (chunk_Join.j1 k x9 x10 x11 (decide ((((rd_T35 x9 x11).f1).size : Int) > 2147483647)) x125000 ((rd_T35 x9 x11).f0) ((rd_T35 x9 x11).f1)) else (chunk_Join.j1 k x9 x10 x11 true x125000 ((rd_T35 x9 x11).f0) ((rd_T35 x9 x11).f1)))) else (none)) else (none)) else ((strings_Builder_String.f x125000).bind fun bt128 => (some (bt128.1, 0)))
def chunk_Join.j1 : Nat → List (S35) → Int → Int → Bool → ByteArray → ByteArray → ByteArray → Option (ByteArray × Int)
  | 0, _, _, _, _, _, _, _ => none
  | k + 1, x9, x10, x11, x24, x125000, x132000, x132001 => if x24 = true then (some ((⟨#[]⟩ : ByteArray), 21)) else (if x132000.size + x132001.size ≤ 9223372036854775807 then ((chunk_big.f (x132001.size : Int)).bind fun t133 => (if t133.size + (x132000 ++ x132001).size ≤ 9223372036854775807 then ((bits_Crc.f k (x132000 ++ x132001)).bind fun t134 => ((chunk_big.f t134).bind fun t135 => (if (t133 ++ (x132000 ++ x132001)).size + t135.size ≤ 9223372036854775807 then ((strings_Builder_WriteString.f x125000 ((t133 ++ (x132000 ++ x132001)) ++ t135)).bind fun bt136 => (chunk_Join.l0 k x9 x10 (wrap64 (x11 + 1)) bt136.2.2)) else (none)))) else (none))) else (none))
end
def chunk_Join.f (k : Nat) (l0 : List (S35)) : Option (ByteArray × Int) := (strings_Builder_WriteString.f (⟨#[]⟩ : ByteArray) (⟨#[137, 80, 78, 71, 13, 10, 26, 10]⟩ : ByteArray)).bind fun bt125 => (chunk_Join.l0 k l0 (l0.length : Int) 0 bt125.2.2)
theorem chunk_Join.mono_l : ∀ k, (∀ y0 y1 y2 y3, LeO (chunk_Join.l0 k y0 y1 y2 y3) (chunk_Join.l0 (k + 1) y0 y1 y2 y3)) ∧ (∀ y0 y1 y2 y3 y4 y5 y6, LeO (chunk_Join.j1 k y0 y1 y2 y3 y4 y5 y6) (chunk_Join.j1 (k + 1) y0 y1 y2 y3 y4 y5 y6))
  | 0 => ⟨fun _ _ _ _ r h => by simp [chunk_Join.l0] at h, fun _ _ _ _ _ _ _ r h => by simp [chunk_Join.j1] at h⟩
  | k + 1 => by
    obtain ⟨ih0, ih1⟩ := chunk_Join.mono_l k
    refine ⟨?_, ?_⟩
    · intro y0 y1 y2 y3
      unfold chunk_Join.l0
      repeat' first
      | (with_reducible exact ih0 _ _ _ _)
      | (with_reducible exact ih1 _ _ _ _ _ _ _)
      | (with_reducible exact bits_Crc.mono _ _)
      | (with_reducible exact chunk_named.mono _ _)
      | (with_reducible exact LeO.refl _)
      | (with_reducible exact LeO.none _)
      | (with_reducible refine LeO.ite ?_ ?_)
      | (with_reducible refine LeO.bind ?_ (fun _ => ?_))
      | exact ih0 _ _ _ _
      | exact ih1 _ _ _ _ _ _ _
      | exact bits_Crc.mono _ _
      | exact chunk_named.mono _ _
      | exact LeO.none _
      | refine LeO.ite ?_ ?_
      | refine LeO.bind ?_ (fun _ => ?_)
    · intro y0 y1 y2 y3 y4 y5 y6
      unfold chunk_Join.j1
      repeat' first
      | (with_reducible exact ih0 _ _ _ _)
      | (with_reducible exact ih1 _ _ _ _ _ _ _)
      | (with_reducible exact bits_Crc.mono _ _)
      | (with_reducible exact chunk_named.mono _ _)
      | (with_reducible exact LeO.refl _)
      | (with_reducible exact LeO.none _)
      | (with_reducible refine LeO.ite ?_ ?_)
      | (with_reducible refine LeO.bind ?_ (fun _ => ?_))
      | exact ih0 _ _ _ _
      | exact ih1 _ _ _ _ _ _ _
      | exact bits_Crc.mono _ _
      | exact chunk_named.mono _ _
      | exact LeO.none _
      | refine LeO.ite ?_ ?_
      | refine LeO.bind ?_ (fun _ => ?_)
theorem chunk_Join.mono : ∀ a0 k, LeO (chunk_Join.f k a0) (chunk_Join.f (k + 1) a0) := by
  intro a0 k
  obtain ⟨ih0, ih1⟩ := chunk_Join.mono_l k
  unfold chunk_Join.f
  repeat' first
      | (with_reducible exact ih0 _ _ _ _)
      | (with_reducible exact ih1 _ _ _ _ _ _ _)
      | (with_reducible exact bits_Crc.mono _ _)
      | (with_reducible exact chunk_named.mono _ _)
      | (with_reducible exact LeO.refl _)
      | (with_reducible exact LeO.none _)
      | (with_reducible refine LeO.ite ?_ ?_)
      | (with_reducible refine LeO.bind ?_ (fun _ => ?_))
      | exact ih0 _ _ _ _
      | exact ih1 _ _ _ _ _ _ _
      | exact bits_Crc.mono _ _
      | exact chunk_named.mono _ _
      | exact LeO.none _
      | refine LeO.ite ?_ ?_
      | refine LeO.bind ?_ (fun _ => ?_)
set_option maxHeartbeats 40000000 in
set_option maxRecDepth 100000 in
theorem chunk_Join.calls (k : Nat) (A0 : Option Addr) (c0 : Nat) (l0 : List (S35)) (r1 : ByteArray) (r2 : Int) (w : World) (hr0 : Kd.C k35 w A0 l0.length l0) (hc0 : l0.length ≤ c0) (h : chunk_Join.f k l0 = some (r1, r2)) :
    Calls Try.prog 14 #[.slice A0 l0.length c0] w fun e w' => e = .returned (.tuple #[.string r1, .int .i64 r2]) ∧ Below w.heap.size w w' := by
  have hu45 := Try.underlying45
  have hu35 := Try.underlying35
  have HR0 := Aside0.mk hr0
  have HC0 := Aside0.mk hc0
  clear hr0 hc0
  have HB := Aside0.mk (Below.refl w.heap.size w)
  have H : ((strings_Builder_WriteString.f (⟨#[]⟩ : ByteArray) (⟨#[137, 80, 78, 71, 13, 10, 26, 10]⟩ : ByteArray)).bind fun bt125 => (chunk_Join.l0 k l0 (l0.length : Int) 0 bt125.2.2)) = some (r1, r2) := h
  clear h
  replace H := Option.bind_eq_some_iff.mp H
  obtain ⟨⟨t125, t126, t127⟩, A20, H⟩ := H
  replace H : (chunk_Join.l0 k l0 (l0.length : Int) 0 t127) = some (r1, r2) := H
  have A2 := Aside0.mk A20
  clear A20
  have H' := Aside0.mk H
  clear H
  go_enter Try.func14, Try.ntmps14
  go_wp2_with (first | ((with_reducible refine gate_dst (N := 4) rfl ?_); (try (refine gate_guard (by rfl) ?_; dsimp only)); refine box_event ?hg (N := 4) ?hd (cs := #[.pointer none, .slice none 0 0]) (t := 45) ?hr ?_; (case hd => rfl); (case hg => rfl); (case hr => first | (go_simp; done) | (go_simp; rfl)); intro gb124 hg w3 hbox hb; have n0_ := Aside0.mk (below_step (by repeat (first | (with_reducible first | exact HB.out | apply below_alloc | apply pw_below_drewN | apply below_drew1) | exact HB.out)) hb); have n1_ := Aside0.mk ((IsS45.mk (w0 := w) hbox (by rw [hg]; exact (below_size (by repeat (first | (with_reducible first | exact HB.out | apply below_alloc | apply pw_below_drewN | apply below_drew1) | exact HB.out)))))); have n2_ := Aside0.mk ((by rw [hg]; exact (below_size (by repeat (first | (with_reducible first | exact HB.out | apply below_alloc | apply pw_below_drewN | apply below_drew1) | exact HB.out))) : w.heap.size ≤ gb124)); have n3_ := Aside0.mk ((by rw [hg]; exact (below_size (by repeat (first | (with_reducible first | exact HB.out | apply below_alloc | apply pw_below_drewN | apply below_drew1) | exact HB.out))) : w.heap.size ≤ gb124)); clear HB; have HB := n0_; have HI124 := n1_; have GW124 := n2_; have GE124 := n3_; clear n0_ n1_ n2_ n3_; clear hb hbox hg) | ((with_reducible refine gate_callee (f := 22) rfl ?_); refine goesL_ (some 8) rfl rfl Try.func22 (by kernel_rfl) rfl #[.pointer (some ⟨gb124, 0, none⟩), .string (⟨#[137, 80, 78, 71, 13, 10, 26, 10]⟩ : ByteArray)] rfl (by (try simp only [List.map_toArray, List.map_cons, List.map_nil]); first | done | rfl | (simp only [List.length_drop, List.length_take]; rfl) | (simp only [ByteArray.size_extract, Nat.min_self]; done) | (simp only [ByteArray.size_extract, Nat.min_self]; rfl)) ?_; (with_reducible refine (strings_Builder_WriteString.calls gb124 (⟨#[]⟩ : ByteArray) (⟨#[137, 80, 78, 71, 13, 10, 26, 10]⟩ : ByteArray) t125 t126 t127 w _ ?side1 ?side2 A2.out).mono ?_); (case side1 => repeat (first | (with_reducible first | exact HI124.out | apply IsS45.alloc | apply IsS45.drewN | apply IsS45.drew | apply IsS45.set_0) | exact HI124.out)); (case side2 => repeat (first | (with_reducible first | exact HB.out | apply below_alloc | apply pw_below_drewN | apply below_drew1 | refine below_set ?_ (IsS45.ge HI124.out)) | exact HB.out)); rintro e w4 ⟨rfl, hi, hb, hk⟩; refine ⟨_, rfl, ?_⟩; have n0_ := Aside0.mk (hb); have n1_ := Aside0.mk (hi); clear HB; clear HI124; have HB := n0_; have HI124 := n1_; clear n0_ n1_; (try clear hb); (try clear hb2); (try clear hk); (try clear hi); (try simp only [errW_none, errW_some])))
  go_loopg [11] k (fun kq v11 w' => ∃ (x11_1 : Int) (x125000_1 : ByteArray), v11 = .int .i64 x11_1 ∧ Aside0 (chunk_Join.l0 kq l0 (l0.length : Int) x11_1 x125000_1 = some (r1, r2)) ∧ Aside0 (kq ≤ k) ∧ Aside0 (IsS45 w w' gb124 x125000_1) ∧ Aside0 (Below w.heap.size w w'))
  case atStart => exact ⟨(0), (t127), (by first | rfl | (simp; done) | (simp [*]; done)), H', ⟨Nat.le_refl _⟩, ⟨by repeat (first | (with_reducible first | exact HI124.out | apply IsS45.alloc | apply IsS45.drewN | apply IsS45.drew | apply IsS45.set_0) | exact HI124.out)⟩, ⟨by repeat (first | (with_reducible first | exact HB.out | apply below_alloc | apply pw_below_drewN | apply below_drew1 | refine below_set ?_ (IsS45.ge HI124.out)) | exact HB.out)⟩⟩
  case round =>
    clear H'
    try clear c1
    try clear c2
    try clear p2
    obtain ⟨x11_1, x125000_1, rfl, HA, HK1, HI124, HB⟩ := hrel
    cases gk with
    | zero => exact absurd HA.out (by simp [chunk_Join.l0])
    | succ k1 =>
      have H := HA.out
      clear HA
      simp only [chunk_Join.l0] at H
      by_cases c5 : x11_1 < (l0.length : Int)
      · rw [if_pos c5] at H
        have c5b0 : decide (x11_1 < (l0.length : Int)) = true := decide_eq_true c5
        clear c5
        by_cases c6 : 0 ≤ x11_1
        · rw [if_pos c6] at H
          have c6b0 : decide (0 ≤ x11_1) = true := decide_eq_true c6
          clear c6
          by_cases c7 : x11_1 < (l0.length : Int)
          · rw [if_pos c7] at H
            have c7b0 : decide (x11_1 < (l0.length : Int)) = true := decide_eq_true c7
            clear c7
            have HC8 := Aside0.mk H
            clear H
            have p130 : 0 ≤ (x11_1 : Int) := of_decide_eq_true (by first | (with_reducible assumption) | assumption)
            have q130 : x11_1 < (l0.length : Int) := of_decide_eq_true (by first | (with_reducible assumption) | assumption)
            obtain ⟨ad130, e130, hx130_0, hx130_1⟩ := at_T35 HR0.out x11_1 p130 q130
            cases e130
            replace hx130_0 := (HB.out.cell (World.block_lt_of_cell? w _ hx130_0)).trans hx130_0
            replace hx130_1 := (HB.out.cell (World.block_lt_of_cell? w _ hx130_1)).trans hx130_1
            replace p130 := eq_true p130
            replace q130 := eq_true q130
            go_upto_region 6 with (fail)
            obtain ⟨gb131, hg, w9, hw_, hbox, hb⟩ : ∃ g_ : Nat, g_ = (by exact wr : World).heap.size ∧ ∃ w_ : World, w_ = wr.alloc (.cells #[.string ((rd_T35 l0 x11_1).f0), .string ((rd_T35 l0 x11_1).f1)] 35) ∧ w_.heap[g_]? = some (.cells #[.string ((rd_T35 l0 x11_1).f0), .string ((rd_T35 l0 x11_1).f1)] 35 (0, 0)) ∧ Below wr.heap.size wr w_ := ⟨_, rfl, _, rfl, Array.getElem?_push_size, below_alloc (Below.refl _ _) _⟩
            rw [← hg, ← hw_]
            clear hw_
            have n0_ := Aside0.mk (IsS45.below (by repeat (first | (with_reducible first | exact HI124.out | apply IsS45.alloc | apply IsS45.drewN | apply IsS45.drew | apply IsS45.set_0) | exact HI124.out)) hb)
            have n1_ := Aside0.mk (below_step (by repeat (first | (with_reducible first | exact HB.out | apply below_alloc | apply pw_below_drewN | apply below_drew1 | refine below_set ?_ (IsS45.ge HI124.out)) | exact HB.out)) hb)
            have n2_ := Aside0.mk (hbox)
            have n3_ := Aside0.mk ((by rw [hg]; exact (below_size (by repeat (first | (with_reducible first | exact HB.out | apply below_alloc | apply pw_below_drewN | apply below_drew1 | refine below_set ?_ (IsS45.ge HI124.out)) | exact HB.out))) : w.heap.size ≤ gb131))
            have n4_ := Aside0.mk ((by rw [hg]; exact (below_size (by repeat (first | (with_reducible first | exact HB.out | apply below_alloc | apply pw_below_drewN | apply below_drew1 | refine below_set ?_ (IsS45.ge HI124.out)) | exact HB.out))) : w.heap.size ≤ gb131))
            have n5_ := Aside0.mk ((by rw [hg]; exact Nat.ne_of_lt (IsS45.lt (show IsS45 w _ gb124 x125000_1 from by repeat (first | (with_reducible first | exact HI124.out | apply IsS45.alloc | apply IsS45.drewN | apply IsS45.drew | apply IsS45.set_0) | exact HI124.out))) : gb124 ≠ gb131))
            have n6_ := Aside0.mk ((by rw [hg]; exact Nat.ne_of_gt (IsS45.lt (show IsS45 w _ gb124 x125000_1 from by repeat (first | (with_reducible first | exact HI124.out | apply IsS45.alloc | apply IsS45.drewN | apply IsS45.drew | apply IsS45.set_0) | exact HI124.out))) : gb131 ≠ gb124))
            clear HI124
            clear HB
            have HI124 := n0_
            have HB := n1_
            have BK131 := n2_
            have GW131 := n3_
            have GE131 := n4_
            have NB124_131 := n5_
            have NB131_124 := n6_
            clear n0_ n1_ n2_ n3_ n4_ n5_ n6_
            clear hb hbox hg
            have hnb10 := NB131_124.out
            have hnc10 := NB124_131.out
            have hcz11_0 : w9.cell? ⟨gb131, 0, none⟩ = some (.string ((rd_T35 l0 x11_1).f0)) := (blk_cell BK131.out 0).trans rfl
            have hcz11_1 : w9.cell? ⟨gb131, 1, none⟩ = some (.string ((rd_T35 l0 x11_1).f1)) := (blk_cell BK131.out 1).trans rfl
            have hfz11_0 := blk_frozen BK131.out 0
            have hfz11_1 := blk_frozen BK131.out 1
            (try simp only [Act.put, List.setIfInBounds_toArray, List.set_cons_zero, List.set_cons_succ])
            go_cut [24] (fun v24 wc => ∃ (kq : Nat) (x24_7 : Bool), v24 = .bool x24_7 ∧ Aside0 (chunk_Join.j1 kq l0 (l0.length : Int) x11_1 x24_7 x125000_1 ((rd_T35 l0 x11_1).f0) ((rd_T35 l0 x11_1).f1) = some (r1, r2)) ∧ Aside0 (kq ≤ k1) ∧ Aside0 (wc.heap[gb131]? = some (.cells #[.string ((rd_T35 l0 x11_1).f0), .string ((rd_T35 l0 x11_1).f1)] 35 (0, 0))) ∧ Aside0 (IsS45 w wc gb124 x125000_1) ∧ Aside0 (Below w.heap.size w wc))
            case first =>
              have H := HC8.out
              clear HC8
              replace H := Option.bind_eq_some_iff.mp H
              obtain ⟨t132, A120, H⟩ := H
              replace H : (if t132 = true then (chunk_Join.j1 k1 l0 (l0.length : Int) x11_1 (decide ((((rd_T35 l0 x11_1).f1).size : Int) > 2147483647)) x125000_1 ((rd_T35 l0 x11_1).f0) ((rd_T35 l0 x11_1).f1)) else (chunk_Join.j1 k1 l0 (l0.length : Int) x11_1 true x125000_1 ((rd_T35 l0 x11_1).f0) ((rd_T35 l0 x11_1).f1))) = some (r1, r2) := H
              have A12 := Aside0.mk A120
              clear A120
              by_cases c13 : t132 = true
              · subst c13
                have H1 : (chunk_Join.j1 k1 l0 (l0.length : Int) x11_1 (decide ((((rd_T35 l0 x11_1).f1).size : Int) > 2147483647)) x125000_1 ((rd_T35 l0 x11_1).f0) ((rd_T35 l0 x11_1).f1)) = some (r1, r2) := by rw [if_pos rfl] at H; exact H
                clear H
                have H := H1
                clear H1
                have H' := Aside0.mk H
                clear H
                have hnb14 := NB131_124.out
                have hnc14 := NB124_131.out
                have hcz15_0 : w9.cell? ⟨gb131, 0, none⟩ = some (.string ((rd_T35 l0 x11_1).f0)) := (blk_cell BK131.out 0).trans rfl
                have hcz15_1 : w9.cell? ⟨gb131, 1, none⟩ = some (.string ((rd_T35 l0 x11_1).f1)) := (blk_cell BK131.out 1).trans rfl
                have hfz15_0 := blk_frozen BK131.out 0
                have hfz15_1 := blk_frozen BK131.out 1
                go_wp2_with (first | ((with_reducible refine gate_callee (f := 23) rfl ?_); refine goesL_ (some 17) rfl rfl Try.func23 (by kernel_rfl) rfl #[.string ((rd_T35 l0 x11_1).f0)] rfl (by (try simp only [List.map_toArray, List.map_cons, List.map_nil]); first | done | rfl | (simp only [List.length_drop, List.length_take]; rfl) | (simp only [ByteArray.size_extract, Nat.min_self]; done) | (simp only [ByteArray.size_extract, Nat.min_self]; rfl)) ?_; (with_reducible refine (chunk_named.calls k1 ((rd_T35 l0 x11_1).f0) true _ A12.out).mono ?_); rintro e w' ⟨rfl, ⟨nd, rfl⟩⟩; refine ⟨_, rfl, ?_⟩))
                go_meet
                case rel => exact ⟨_, (decide ((((rd_T35 l0 x11_1).f1).size : Int) > 2147483647)), (by first | rfl | (simp; done) | (simp [*]; done)), H', ⟨by have := HK1.out; first | omega | exact Nat.le_refl _⟩, ⟨by (with_reducible repeat (first | refine blk_drewN ?_ _ | refine blk_drew ?_ | refine blk_alloc ?_ _)); exact BK131.out⟩, ⟨by repeat (first | (with_reducible first | exact HI124.out | apply IsS45.alloc | apply IsS45.drewN | apply IsS45.drew | apply IsS45.set_0 | refine IsS45.far ?_ NB124_131.out _) | exact HI124.out)⟩, ⟨by repeat (first | (with_reducible first | exact HB.out | apply below_alloc | apply pw_below_drewN | apply below_drew1 | refine below_set ?_ (IsS45.ge HI124.out) | refine below_set ?_ GE131.out) | exact HB.out)⟩⟩
              · replace c13 := Bool.eq_false_iff.mpr c13
                subst c13
                have H1 : (chunk_Join.j1 k1 l0 (l0.length : Int) x11_1 true x125000_1 ((rd_T35 l0 x11_1).f0) ((rd_T35 l0 x11_1).f1)) = some (r1, r2) := by rw [if_neg (show ¬ (false = true) by decide)] at H; exact H
                clear H
                have H := H1
                clear H1
                have H' := Aside0.mk H
                clear H
                have hnb16 := NB131_124.out
                have hnc16 := NB124_131.out
                have hcz17_0 : w9.cell? ⟨gb131, 0, none⟩ = some (.string ((rd_T35 l0 x11_1).f0)) := (blk_cell BK131.out 0).trans rfl
                have hcz17_1 : w9.cell? ⟨gb131, 1, none⟩ = some (.string ((rd_T35 l0 x11_1).f1)) := (blk_cell BK131.out 1).trans rfl
                have hfz17_0 := blk_frozen BK131.out 0
                have hfz17_1 := blk_frozen BK131.out 1
                go_wp2_with (first | ((with_reducible refine gate_callee (f := 23) rfl ?_); refine goesL_ (some 17) rfl rfl Try.func23 (by kernel_rfl) rfl #[.string ((rd_T35 l0 x11_1).f0)] rfl (by (try simp only [List.map_toArray, List.map_cons, List.map_nil]); first | done | rfl | (simp only [List.length_drop, List.length_take]; rfl) | (simp only [ByteArray.size_extract, Nat.min_self]; done) | (simp only [ByteArray.size_extract, Nat.min_self]; rfl)) ?_; (with_reducible refine (chunk_named.calls k1 ((rd_T35 l0 x11_1).f0) false _ A12.out).mono ?_); rintro e w' ⟨rfl, ⟨nd, rfl⟩⟩; refine ⟨_, rfl, ?_⟩))
                go_meet
                case rel => exact ⟨_, (true), (by first | rfl | (simp; done) | (simp [*]; done)), H', ⟨by have := HK1.out; first | omega | exact Nat.le_refl _⟩, ⟨by (with_reducible repeat (first | refine blk_drewN ?_ _ | refine blk_drew ?_ | refine blk_alloc ?_ _)); exact BK131.out⟩, ⟨by repeat (first | (with_reducible first | exact HI124.out | apply IsS45.alloc | apply IsS45.drewN | apply IsS45.drew | apply IsS45.set_0 | refine IsS45.far ?_ NB124_131.out _) | exact HI124.out)⟩, ⟨by repeat (first | (with_reducible first | exact HB.out | apply below_alloc | apply pw_below_drewN | apply below_drew1 | refine below_set ?_ (IsS45.ge HI124.out) | refine below_set ?_ GE131.out) | exact HB.out)⟩⟩
            case rest =>
              clear HC8
              try clear c1
              try clear p1
              try clear q1
              try clear hx1
              try clear c2
              try clear p2
              try clear c5
              try clear c5b0
              try clear c6
              try clear c6b0
              try clear c7
              try clear c7b0
              try clear c10
              try clear c13
              try clear p13
              try clear q13
              try clear hx13
              try clear c14
              try clear c16
              try clear hcz11_0
              try clear hcz11_1
              try clear hcz15_0
              try clear hcz15_1
              try clear hcz17_0
              try clear hcz17_1
              try clear hfz11_0
              try clear hfz11_1
              try clear hfz15_0
              try clear hfz15_1
              try clear hfz17_0
              try clear hfz17_1
              try clear hx130_0
              try clear hx130_1
              try clear p130
              try clear p2
              try clear q130
              obtain ⟨kq, x24_7, rfl, HA, HJ7, BK131, HI124, HB⟩ := hcut
              cases kq with
              | zero => exact absurd HA.out (by simp [chunk_Join.j1])
              | succ kj7 =>
                have H := HA.out
                clear HA
                simp only [chunk_Join.j1] at H
                by_cases c18 : x24_7 = true
                · subst c18
                  have H1 : (some ((⟨#[]⟩ : ByteArray), 21)) = some (r1, r2) := by rw [if_pos rfl] at H; exact H
                  clear H
                  have H := H1
                  clear H1
                  simp only [Option.some.injEq, Prod.mk.injEq] at H
                  obtain ⟨rfl, rfl⟩ := H
                  go_wp2
                  go_ret2
                  exact ⟨by first | rfl | (simp [errW_none, errW_some] <;> rfl) | (simp [*, errW_none, errW_some] <;> rfl), by repeat (first | (with_reducible first | exact HB.out | apply below_alloc | apply pw_below_drewN | apply below_drew1 | refine below_set ?_ (IsS45.ge HI124.out) | refine below_set ?_ GE131.out) | exact HB.out)⟩
                · replace c18 := Bool.eq_false_iff.mpr c18
                  subst c18
                  have H1 : (if ((rd_T35 l0 x11_1).f0).size + ((rd_T35 l0 x11_1).f1).size ≤ 9223372036854775807 then ((chunk_big.f (((rd_T35 l0 x11_1).f1).size : Int)).bind fun t133 => (if t133.size + (((rd_T35 l0 x11_1).f0) ++ ((rd_T35 l0 x11_1).f1)).size ≤ 9223372036854775807 then ((bits_Crc.f kj7 (((rd_T35 l0 x11_1).f0) ++ ((rd_T35 l0 x11_1).f1))).bind fun t134 => ((chunk_big.f t134).bind fun t135 => (if (t133 ++ (((rd_T35 l0 x11_1).f0) ++ ((rd_T35 l0 x11_1).f1))).size + t135.size ≤ 9223372036854775807 then ((strings_Builder_WriteString.f x125000_1 ((t133 ++ (((rd_T35 l0 x11_1).f0) ++ ((rd_T35 l0 x11_1).f1))) ++ t135)).bind fun bt136 => (chunk_Join.l0 kj7 l0 (l0.length : Int) (wrap64 (x11_1 + 1)) bt136.2.2)) else (none)))) else (none))) else (none)) = some (r1, r2) := by rw [if_neg (show ¬ (false = true) by decide)] at H; exact H
                  clear H
                  have H := H1
                  clear H1
                  by_cases c19 : ((rd_T35 l0 x11_1).f0).size + ((rd_T35 l0 x11_1).f1).size ≤ 9223372036854775807
                  · rw [if_pos c19] at H
                    have c19b0 := eq_true c19
                    have c19b1 : decide (((rd_T35 l0 x11_1).f0).size + ((rd_T35 l0 x11_1).f1).size ≤ 9223372036854775807) = true := decide_eq_true c19
                    try have c19b2 : (9223372036854775807 < ((rd_T35 l0 x11_1).f0).size + ((rd_T35 l0 x11_1).f1).size) = False := eq_false (Nat.not_lt.2 c19)
                    replace H := Option.bind_eq_some_iff.mp H
                    obtain ⟨t133, A200, H⟩ := H
                    replace H : (if t133.size + (((rd_T35 l0 x11_1).f0) ++ ((rd_T35 l0 x11_1).f1)).size ≤ 9223372036854775807 then ((bits_Crc.f kj7 (((rd_T35 l0 x11_1).f0) ++ ((rd_T35 l0 x11_1).f1))).bind fun t134 => ((chunk_big.f t134).bind fun t135 => (if (t133 ++ (((rd_T35 l0 x11_1).f0) ++ ((rd_T35 l0 x11_1).f1))).size + t135.size ≤ 9223372036854775807 then ((strings_Builder_WriteString.f x125000_1 ((t133 ++ (((rd_T35 l0 x11_1).f0) ++ ((rd_T35 l0 x11_1).f1))) ++ t135)).bind fun bt136 => (chunk_Join.l0 kj7 l0 (l0.length : Int) (wrap64 (x11_1 + 1)) bt136.2.2)) else (none)))) else (none)) = some (r1, r2) := H
                    have A20 := Aside0.mk A200
                    clear A200
                    by_cases c21 : t133.size + (((rd_T35 l0 x11_1).f0) ++ ((rd_T35 l0 x11_1).f1)).size ≤ 9223372036854775807
                    · rw [if_pos c21] at H
                      have c21b0 := eq_true c21
                      have c21b1 : decide (t133.size + (((rd_T35 l0 x11_1).f0) ++ ((rd_T35 l0 x11_1).f1)).size ≤ 9223372036854775807) = true := decide_eq_true c21
                      try have c21b2 : (9223372036854775807 < t133.size + (((rd_T35 l0 x11_1).f0) ++ ((rd_T35 l0 x11_1).f1)).size) = False := eq_false (Nat.not_lt.2 c21)
                      try (have c21b3 := c21b2; simp only [ByteArray.size_append] at c21b3)
                      replace H := Option.bind_eq_some_iff.mp H
                      obtain ⟨t134, A220, H⟩ := H
                      replace H : ((chunk_big.f t134).bind fun t135 => (if (t133 ++ (((rd_T35 l0 x11_1).f0) ++ ((rd_T35 l0 x11_1).f1))).size + t135.size ≤ 9223372036854775807 then ((strings_Builder_WriteString.f x125000_1 ((t133 ++ (((rd_T35 l0 x11_1).f0) ++ ((rd_T35 l0 x11_1).f1))) ++ t135)).bind fun bt136 => (chunk_Join.l0 kj7 l0 (l0.length : Int) (wrap64 (x11_1 + 1)) bt136.2.2)) else (none))) = some (r1, r2) := H
                      have A22 := Aside0.mk A220
                      clear A220
                      replace H := Option.bind_eq_some_iff.mp H
                      obtain ⟨t135, A230, H⟩ := H
                      replace H : (if (t133 ++ (((rd_T35 l0 x11_1).f0) ++ ((rd_T35 l0 x11_1).f1))).size + t135.size ≤ 9223372036854775807 then ((strings_Builder_WriteString.f x125000_1 ((t133 ++ (((rd_T35 l0 x11_1).f0) ++ ((rd_T35 l0 x11_1).f1))) ++ t135)).bind fun bt136 => (chunk_Join.l0 kj7 l0 (l0.length : Int) (wrap64 (x11_1 + 1)) bt136.2.2)) else (none)) = some (r1, r2) := H
                      have A23 := Aside0.mk A230
                      clear A230
                      by_cases c24 : (t133 ++ (((rd_T35 l0 x11_1).f0) ++ ((rd_T35 l0 x11_1).f1))).size + t135.size ≤ 9223372036854775807
                      · rw [if_pos c24] at H
                        have c24b0 := eq_true c24
                        have c24b1 : decide ((t133 ++ (((rd_T35 l0 x11_1).f0) ++ ((rd_T35 l0 x11_1).f1))).size + t135.size ≤ 9223372036854775807) = true := decide_eq_true c24
                        try have c24b2 : (9223372036854775807 < (t133 ++ (((rd_T35 l0 x11_1).f0) ++ ((rd_T35 l0 x11_1).f1))).size + t135.size) = False := eq_false (Nat.not_lt.2 c24)
                        try (have c24b3 := c24b2; simp only [ByteArray.size_append] at c24b3)
                        replace H := Option.bind_eq_some_iff.mp H
                        obtain ⟨⟨t136, t137, t138⟩, A250, H⟩ := H
                        replace H : (chunk_Join.l0 kj7 l0 (l0.length : Int) (wrap64 (x11_1 + 1)) t138) = some (r1, r2) := H
                        have A25 := Aside0.mk A250
                        clear A250
                        have H' := Aside0.mk H
                        clear H
                        have hnb26 := NB131_124.out
                        have hnc26 := NB124_131.out
                        have hcz27_0 : wc.cell? ⟨gb131, 0, none⟩ = some (.string ((rd_T35 l0 x11_1).f0)) := (blk_cell BK131.out 0).trans rfl
                        have hcz27_1 : wc.cell? ⟨gb131, 1, none⟩ = some (.string ((rd_T35 l0 x11_1).f1)) := (blk_cell BK131.out 1).trans rfl
                        have hfz27_0 := blk_frozen BK131.out 0
                        have hfz27_1 := blk_frozen BK131.out 1
                        go_wp2_with (first | ((with_reducible refine gate_callee (f := 24) rfl ?_); refine goesL_ (some 33) rfl rfl Try.func24 (by kernel_rfl) rfl #[.int .i64 (((rd_T35 l0 x11_1).f1).size : Int)] rfl (by (try simp only [List.map_toArray, List.map_cons, List.map_nil]); first | done | rfl | (simp only [List.length_drop, List.length_take]; rfl) | (simp only [ByteArray.size_extract, Nat.min_self]; done) | (simp only [ByteArray.size_extract, Nat.min_self]; rfl)) ?_; (with_reducible refine (chunk_big.calls (((rd_T35 l0 x11_1).f1).size : Int) t133 _ A20.out).mono ?_); rintro e w28 ⟨rfl, hb⟩; refine ⟨_, rfl, ?_⟩; have n0_ := Aside0.mk (blk_below (g := gb131) (o := .cells #[.string ((rd_T35 l0 x11_1).f0), .string ((rd_T35 l0 x11_1).f1)] 35 (0, 0)) (by (with_reducible repeat (first | refine blk_drewN ?_ _ | refine blk_drew ?_ | refine blk_alloc ?_ _)); exact BK131.out) hb); have n1_ := Aside0.mk (IsS45.below (by repeat (first | (with_reducible first | exact HI124.out | apply IsS45.alloc | apply IsS45.drewN | apply IsS45.drew | apply IsS45.set_0 | refine IsS45.far ?_ NB124_131.out _) | exact HI124.out)) hb); have n2_ := Aside0.mk (below_step (by repeat (first | (with_reducible first | exact HB.out | apply below_alloc | apply pw_below_drewN | apply below_drew1 | refine below_set ?_ (IsS45.ge HI124.out) | refine below_set ?_ GE131.out) | exact HB.out)) hb); clear BK131; clear HI124; clear HB; have BK131 := n0_; have HI124 := n1_; have HB := n2_; clear n0_ n1_ n2_; (try clear hb); (try clear hb2); (try clear hk); (try clear hi)) | ((with_reducible refine gate_callee (f := 25) rfl ?_); refine goesL_ (some 37) rfl rfl Try.func25 (by kernel_rfl) rfl #[.string (((rd_T35 l0 x11_1).f0) ++ ((rd_T35 l0 x11_1).f1))] rfl (by (try simp only [List.map_toArray, List.map_cons, List.map_nil]); first | done | rfl | (simp only [List.length_drop, List.length_take]; rfl) | (simp only [ByteArray.size_extract, Nat.min_self]; done) | (simp only [ByteArray.size_extract, Nat.min_self]; rfl)) ?_; (with_reducible refine (bits_Crc.calls kj7 (((rd_T35 l0 x11_1).f0) ++ ((rd_T35 l0 x11_1).f1)) t134 _ A22.out).mono ?_); rintro e w' ⟨rfl, ⟨nd, rfl⟩⟩; refine ⟨_, rfl, ?_⟩) | ((with_reducible refine gate_callee (f := 24) rfl ?_); refine goesL_ (some 38) rfl rfl Try.func24 (by kernel_rfl) rfl #[.int .i64 t134] rfl (by (try simp only [List.map_toArray, List.map_cons, List.map_nil]); first | done | rfl | (simp only [List.length_drop, List.length_take]; rfl) | (simp only [ByteArray.size_extract, Nat.min_self]; done) | (simp only [ByteArray.size_extract, Nat.min_self]; rfl)) ?_; (with_reducible refine (chunk_big.calls t134 t135 _ A23.out).mono ?_); rintro e w29 ⟨rfl, hb⟩; refine ⟨_, rfl, ?_⟩; have n0_ := Aside0.mk (blk_below (g := gb131) (o := .cells #[.string ((rd_T35 l0 x11_1).f0), .string ((rd_T35 l0 x11_1).f1)] 35 (0, 0)) (by (with_reducible repeat (first | refine blk_drewN ?_ _ | refine blk_drew ?_ | refine blk_alloc ?_ _)); exact BK131.out) hb); have n1_ := Aside0.mk (IsS45.below (by repeat (first | (with_reducible first | exact HI124.out | apply IsS45.alloc | apply IsS45.drewN | apply IsS45.drew | apply IsS45.set_0 | refine IsS45.far ?_ NB124_131.out _) | exact HI124.out)) hb); have n2_ := Aside0.mk (below_step (by repeat (first | (with_reducible first | exact HB.out | apply below_alloc | apply pw_below_drewN | apply below_drew1 | refine below_set ?_ (IsS45.ge HI124.out) | refine below_set ?_ GE131.out) | exact HB.out)) hb); clear BK131; clear HI124; clear HB; have BK131 := n0_; have HI124 := n1_; have HB := n2_; clear n0_ n1_ n2_; (try clear hb); (try clear hb2); (try clear hk); (try clear hi)) | ((with_reducible refine gate_callee (f := 22) rfl ?_); refine goesL_ (some 40) rfl rfl Try.func22 (by kernel_rfl) rfl #[.pointer (some ⟨gb124, 0, none⟩), .string ((t133 ++ (((rd_T35 l0 x11_1).f0) ++ ((rd_T35 l0 x11_1).f1))) ++ t135)] rfl (by (try simp only [List.map_toArray, List.map_cons, List.map_nil]); first | done | rfl | (simp only [List.length_drop, List.length_take]; rfl) | (simp only [ByteArray.size_extract, Nat.min_self]; done) | (simp only [ByteArray.size_extract, Nat.min_self]; rfl)) ?_; (with_reducible refine (strings_Builder_WriteString.calls gb124 x125000_1 ((t133 ++ (((rd_T35 l0 x11_1).f0) ++ ((rd_T35 l0 x11_1).f1))) ++ t135) t136 t137 t138 w _ ?side1 ?side2 A25.out).mono ?_); (case side1 => repeat (first | (with_reducible first | exact HI124.out | apply IsS45.alloc | apply IsS45.drewN | apply IsS45.drew | apply IsS45.set_0 | refine IsS45.far ?_ NB124_131.out _) | exact HI124.out)); (case side2 => repeat (first | (with_reducible first | exact HB.out | apply below_alloc | apply pw_below_drewN | apply below_drew1 | refine below_set ?_ (IsS45.ge HI124.out) | refine below_set ?_ GE131.out) | exact HB.out)); rintro e w30 ⟨rfl, hi, hb, hk⟩; refine ⟨_, rfl, ?_⟩; have n0_ := Aside0.mk (BKeep.blk hk (show _ = some (Obj.cells _ _ _) from by (with_reducible repeat (first | refine blk_drewN ?_ _ | refine blk_drew ?_ | refine blk_alloc ?_ _)); exact BK131.out) NB131_124.out (by decide)); have n1_ := Aside0.mk (hb); have n2_ := Aside0.mk (hi); clear BK131; clear HB; clear HI124; have BK131 := n0_; have HB := n1_; have HI124 := n2_; clear n0_ n1_ n2_; (try clear hb); (try clear hb2); (try clear hk); (try clear hi); (try simp only [errW_none, errW_some])))
                        go_roundg kj7
                        case measure => have := HK1.out; have := HJ7.out; omega
                        case rel => exact ⟨(wrap64 (x11_1 + 1)), (t138), (by first | rfl | (simp; done) | (simp [*]; done)), H', ⟨by have := HK1.out; have := HJ7.out; omega⟩, ⟨by repeat (first | (with_reducible first | exact HI124.out | apply IsS45.alloc | apply IsS45.drewN | apply IsS45.drew | apply IsS45.set_0 | refine IsS45.far ?_ NB124_131.out _) | exact HI124.out)⟩, ⟨by repeat (first | (with_reducible first | exact HB.out | apply below_alloc | apply pw_below_drewN | apply below_drew1 | refine below_set ?_ (IsS45.ge HI124.out) | refine below_set ?_ GE131.out) | exact HB.out)⟩⟩
                      · rw [if_neg c24] at H
                        exact absurd H (by simp)
                    · rw [if_neg c21] at H
                      exact absurd H (by simp)
                  · rw [if_neg c19] at H
                    exact absurd H (by simp)
          · rw [if_neg c7] at H
            exact absurd H (by simp)
        · rw [if_neg c6] at H
          exact absurd H (by simp)
      · rw [if_neg c5] at H
        have c5b0 : decide (x11_1 < (l0.length : Int)) = false := decide_eq_false c5
        clear c5
        replace H := Option.bind_eq_some_iff.mp H
        obtain ⟨⟨t128, t129⟩, A310, H⟩ := H
        replace H : (some (t128, 0)) = some (r1, r2) := H
        have A31 := Aside0.mk A310
        clear A310
        simp only [Option.some.injEq, Prod.mk.injEq] at H
        obtain ⟨rfl, rfl⟩ := H
        go_wp2_with (first | ((with_reducible refine gate_callee (f := 26) rfl ?_); refine goesL_ (some 42) rfl rfl Try.func26 (by kernel_rfl) rfl #[.pointer (some ⟨gb124, 0, none⟩)] rfl (by (try simp only [List.map_toArray, List.map_cons, List.map_nil]); first | done | rfl | (simp only [List.length_drop, List.length_take]; rfl) | (simp only [ByteArray.size_extract, Nat.min_self]; done) | (simp only [ByteArray.size_extract, Nat.min_self]; rfl)) ?_; (with_reducible refine (strings_Builder_String.calls gb124 x125000_1 t128 t129 w _ ?side1 ?side2 A31.out).mono ?_); (case side1 => repeat (first | (with_reducible first | exact HI124.out | apply IsS45.alloc | apply IsS45.drewN | apply IsS45.drew | apply IsS45.set_0) | exact HI124.out)); (case side2 => repeat (first | (with_reducible first | exact HB.out | apply below_alloc | apply pw_below_drewN | apply below_drew1 | refine below_set ?_ (IsS45.ge HI124.out)) | exact HB.out)); rintro e w32 ⟨rfl, hi, hb, hk⟩; refine ⟨_, rfl, ?_⟩; have n0_ := Aside0.mk (hb); have n1_ := Aside0.mk (hi); clear HB; clear HI124; have HB := n0_; have HI124 := n1_; clear n0_ n1_; (try clear hb); (try clear hb2); (try clear hk); (try clear hi)))
        go_ret2
        exact ⟨by first | rfl | (simp [errW_none, errW_some] <;> rfl) | (simp [*, errW_none, errW_some] <;> rfl), by repeat (first | (with_reducible first | exact HB.out | apply below_alloc | apply pw_below_drewN | apply below_drew1 | refine below_set ?_ (IsS45.ge HI124.out)) | exact HB.out)⟩

end Go.Proofs.Ytfgbfbhllbejpaa.PL07
