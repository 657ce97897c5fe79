/- Printed for this claim by a program of this session over the kit's print program: the Go functions as Lean functions, and proofs that the calls come to these answers. No conditions. -/
import Derived.Test.YtdbiokmlgniobaaXH
import Derived.Test.YtdbiokmlgniobaaXPL22x2
import Derived.Test.YtdbiokmlgniobaaXPL22x6
import Derived.Test.YtdbiokmlgniobaaXPL22x1
import Derived.Test.YtdbiokmlgniobaaXPL22x17
import Derived.Test.YtdbiokmlgniobaaXPL22y5
import Derived.Test.YtdbiokmlgniobaaXPL22x12
namespace Go.Proofs.Ytdbiokmlgniobaa.PL22
open Go.RowKit Go.Proofs.YtdbiokmlgniobaaW.PrintWords Go.Proofs.YtdbiokmlgniobaaW.PrintLast Go.Proofs.YtdbiokmlgniobaaW.PrintMore
attribute [local go_sem] max2_int min2_int max_two min_two max_three min_three max_four min_four   -- for this text's walks alone
set_option linter.unusedVariables false
set_option linter.unusedSimpArgs false

def bands_Manifest.l0 : Nat → List ByteArray → Int → Int → ByteArray → Option (ByteArray × Int)
 | 0, _, _, _, _ => none
 | k + 1, x25, x26, x27, x181000 => if x27 < x26 then (if 0 ≤ x27 then (if x27 < (x25.length : Int) then ((sha_Sum.f k (rdOf ByteArray.empty x25 x27)).bind fun t189 => ((strings_Builder_WriteString.f x181000 t189).bind fun bt190 => (bands_Manifest.l0 k x25 x26 (wrap64 (x27 + 1)) bt190.2.2))) else (none)) else (none)) else ((strings_Builder_String.f x181000).bind fun bt186 => (some (bt186.1, 0)))
def bands_Manifest.f (k : Nat) (a0_0 : Int) (a0_1 : Int) (a0_2 : ByteArray) : Option (ByteArray × Int) := (bands_Cut.f k a0_0 a0_1 a0_2).bind fun bt176 => (if bt176.2 = 0 then ((bands_big.f a0_0).bind fun t181 => ((bands_big.f a0_1).bind fun t182 => (if t181.size + t182.size ≤ 9223372036854775807 then ((strings_Builder_WriteString.f (⟨#[]⟩ : ByteArray) (t181 ++ t182)).bind fun bt183 => (bands_Manifest.l0 k bt176.1 (bt176.1.length : Int) 0 bt183.2.2)) else (none)))) else (some ((⟨#[]⟩ : ByteArray), bt176.2)))
def bands_Manifest.T5 : Bool × List (List Nat × List Nat) := (true, [([], []), ([0], [0]), ([1], [1]), ([], []), ([3], [3]), ([4, 2], [4]), ([2, 5], [2, 5]), ([6, 5], [6])])
def bands_Manifest.B5 : List Nat := [0, 1, 3, 0, 8, 31, 63, 127]
theorem bands_Manifest.tab5 : rtab .any (opsOf Try.f25 5) = bands_Manifest.T5 := by kernel_rfl
theorem bands_Manifest.bits5 : waitsOk bands_Manifest.T5.2 bands_Manifest.B5 = true := by kernel_rfl
set_option maxHeartbeats 40000000 in
set_option maxRecDepth 100000 in
theorem bands_Manifest.calls (k : Nat) (a0_0 : Int) (a0_1 : Int) (a0_2 : ByteArray) (r1 : ByteArray) (r2 : Int) (w : World) (h : bands_Manifest.f k a0_0 a0_1 a0_2 = some (r1, r2)) :
  Calls Try.prog 25 #[.agg #[.int .i64 a0_0, .int .i64 a0_1, .string a0_2]] w fun e w' => e = .returned (.tuple #[.string r1, .int .i64 r2]) ∧ Below w.heap.size w w' := by
 have hu57 := Try.underlying57
 have hu85 := Try.underlying85
 have HB := Aside0.mk (Below.refl w.heap.size w)
 have H : ((bands_Cut.f k a0_0 a0_1 a0_2).bind fun bt176 => (if bt176.2 = 0 then ((bands_big.f a0_0).bind fun t181 => ((bands_big.f a0_1).bind fun t182 => (if t181.size + t182.size ≤ 9223372036854775807 then ((strings_Builder_WriteString.f (⟨#[]⟩ : ByteArray) (t181 ++ t182)).bind fun bt183 => (bands_Manifest.l0 k bt176.1 (bt176.1.length : Int) 0 bt183.2.2)) else (none)))) else (some ((⟨#[]⟩ : ByteArray), bt176.2)))) = some (r1, r2) := h
 clear h
 replace H := Option.bind_eq_some_iff.mp H
 obtain ⟨⟨t176, t179⟩, A20, H⟩ := H
 replace H : (if t179 = 0 then ((bands_big.f a0_0).bind fun t181 => ((bands_big.f a0_1).bind fun t182 => (if t181.size + t182.size ≤ 9223372036854775807 then ((strings_Builder_WriteString.f (⟨#[]⟩ : ByteArray) (t181 ++ t182)).bind fun bt183 => (bands_Manifest.l0 k t176 (t176.length : Int) 0 bt183.2.2)) else (none)))) else (some ((⟨#[]⟩ : ByteArray), t179))) = some (r1, r2) := H
 have A2 := Aside0.mk A20
 clear A20
 by_cases c3 : t179 = 0
 ·rw [if_pos c3] at H
  have c3b0 : (t179 == 0) = true := beq_iff_eq.mpr c3
  have c3b1 : (t179 != 0) = false := bne_eq_false_iff_eq.mpr c3
  clear c3
  replace H := Option.bind_eq_some_iff.mp H
  obtain ⟨t181, A40, H⟩ := H
  replace H : ((bands_big.f a0_1).bind fun t182 => (if t181.size + t182.size ≤ 9223372036854775807 then ((strings_Builder_WriteString.f (⟨#[]⟩ : ByteArray) (t181 ++ t182)).bind fun bt183 => (bands_Manifest.l0 k t176 (t176.length : Int) 0 bt183.2.2)) else (none))) = some (r1, r2) := H
  have A4 := Aside0.mk A40
  clear A40
  replace H := Option.bind_eq_some_iff.mp H
  obtain ⟨t182, A50, H⟩ := H
  replace H : (if t181.size + t182.size ≤ 9223372036854775807 then ((strings_Builder_WriteString.f (⟨#[]⟩ : ByteArray) (t181 ++ t182)).bind fun bt183 => (bands_Manifest.l0 k t176 (t176.length : Int) 0 bt183.2.2)) else (none)) = some (r1, r2) := H
  have A5 := Aside0.mk A50
  clear A50
  by_cases c6 : t181.size + t182.size ≤ 9223372036854775807
  ·rw [if_pos c6] at H
   have c6b0 := eq_true c6
   have c6b1 : decide (t181.size + t182.size ≤ 9223372036854775807) = true := decide_eq_true c6
   try have c6b2 : (9223372036854775807 < t181.size + t182.size) = False := eq_false (Nat.not_lt.2 c6)
   replace H := Option.bind_eq_some_iff.mp H
   obtain ⟨⟨t183, t184, t185⟩, A70, H⟩ := H
   replace H : (bands_Manifest.l0 k t176 (t176.length : Int) 0 t185) = some (r1, r2) := H
   have A7 := Aside0.mk A70
   clear A70
   have H' := Aside0.mk H
   clear H
   go_enter Try.func25, Try.ntmps25
   try go_wp2_with (first | ((with_reducible refine gate_dst (N := 1) rfl ?_); refine box_event ?hg (N := 1) ?hd (cs := #[.int .i64 a0_0, .int .i64 a0_1, .string a0_2]) (t := 57) ?hr ?_; (case hd => rfl); (case hg => rfl); (case hr => first | (go_simp; done) | (go_simp; rfl)); intro gb175 hg w8 hbox hb; have n0_ := Aside0.mk (below_step (hz HB) hb); have n1_ := Aside0.mk (hbox); have n2_ := Aside0.mk ((by rw [hg]; exact (below_size (hz HB)) : w.heap.size ≤ gb175)); have n3_ := Aside0.mk ((by rw [hg]; exact (below_size (hz HB)) : w.heap.size ≤ gb175)); clear HB; have HB := n0_; have BK175 := n1_; have GW175 := n2_; have GE175 := n3_; clear n0_ n1_ n2_ n3_; clear hb hbox hg; have hcz9_0 : w8.cell? ⟨gb175, 0, none⟩ = some (.int .i64 a0_0) := (blk_cell BK175.out 0).trans rfl; have hcz9_1 : w8.cell? ⟨gb175, 1, none⟩ = some (.int .i64 a0_1) := (blk_cell BK175.out 1).trans rfl; have hcz9_2 : w8.cell? ⟨gb175, 2, none⟩ = some (.string a0_2) := (blk_cell BK175.out 2).trans rfl; have hfz9_0 := blk_frozen BK175.out 0; have hfz9_1 := blk_frozen BK175.out 1; have hfz9_2 := blk_frozen BK175.out 2) | ((with_reducible refine gate_callee (f := 27) rfl ?_); refine gz 11 Try.func27 #[.agg #[.int .i64 a0_0, .int .i64 a0_1, .string a0_2]] ?_; (with_reducible refine (bands_Cut.calls k a0_0 a0_1 a0_2 t176 t179 _ A2.out).mono ?_); rintro e w10 ⟨v177, rfl, ho0, hb⟩; refine ⟨_, rfl, ?_⟩; have n0_ := Aside0.mk (Kd.R_lower ho0 (below_size (hz HB))); have n1_ := Aside0.mk (blk_below (g := gb175) (o := .cells #[.int .i64 a0_0, .int .i64 a0_1, .string a0_2] 57 (0, 0)) (kz BK175) hb); have n2_ := Aside0.mk (below_step (hz HB) hb); clear BK175; clear HB; have HO178 := n0_; have BK175 := n1_; have HB := n2_; clear n0_ n1_ n2_; (try clear hb); (try clear hb2); (try clear hk); (try clear hi); (try clear ho0)) | ((with_reducible refine gate_dst (N := 6) rfl ?_); refine box_event ?hg (N := 6) ?hd (cs := #[.pointer none, .slice none 0 0]) (t := 85) ?hr ?_; (case hd => rfl); (case hg => rfl); (case hr => first | (go_simp; done) | (go_simp; rfl)); intro gb180 hg w11 hbox hb; have n0_ := Aside0.mk (Kd.R_below (oz HO178) hb); have n1_ := Aside0.mk (blk_below (g := gb175) (o := .cells #[.int .i64 a0_0, .int .i64 a0_1, .string a0_2] 57 (0, 0)) (kz BK175) hb); have n2_ := Aside0.mk (below_step (hz HB) hb); have n3_ := Aside0.mk ((IsS85.mk (w0 := w) hbox (by rw [hg]; exact (below_size (hz HB))))); have n4_ := Aside0.mk ((by rw [hg]; exact (below_size (hz HB)) : w.heap.size ≤ gb180)); have n5_ := Aside0.mk ((by rw [hg]; exact (below_size (hz HB)) : w.heap.size ≤ gb180)); have n6_ := Aside0.mk ((by rw [hg]; exact Nat.ne_of_lt (blk_lt (g := gb175) (o := .cells #[.int .i64 a0_0, .int .i64 a0_1, .string a0_2] 57 (0, 0)) (kz BK175)) : gb175 ≠ gb180)); have n7_ := Aside0.mk ((by rw [hg]; exact Nat.ne_of_gt (blk_lt (g := gb175) (o := .cells #[.int .i64 a0_0, .int .i64 a0_1, .string a0_2] 57 (0, 0)) (kz BK175)) : gb180 ≠ gb175)); clear HO178; clear BK175; clear HB; have HO178 := n0_; have BK175 := n1_; have HB := n2_; have HI180 := n3_; have GW180 := n4_; have GE180 := n5_; have NB175_180 := n6_; have NB180_175 := n7_; clear n0_ n1_ n2_ n3_ n4_ n5_ n6_ n7_; clear hb hbox hg))
   have n0_ := Aside0.mk (Kd.R_drew HO178.out)
   have n1_ := Aside0.mk (blk_drew BK175.out)
   have n2_ := Aside0.mk (IsS85.drew HI180.out)
   have n3_ := Aside0.mk (below_drew1 HB.out)
   clear HO178
   clear BK175
   clear HI180
   clear HB
   have HO178 := n0_
   have BK175 := n1_
   have HI180 := n2_
   have HB := n3_
   clear n0_ n1_ n2_ n3_
   refine start_ (n := 8) (S := fun w' => w'.cell? ⟨gb175, 0, none⟩ = some (.int .i64 a0_0) ∧ w'.cell? ⟨gb175, 1, none⟩ = some (.int .i64 a0_1) ∧ w'.cell? ⟨gb175, 2, none⟩ = some (.string a0_2)) (ds := []) (bm 8 0) (by kernel_rfl) rfl rfl ⟨(blk_cell BK175.out 0).trans rfl, (blk_cell BK175.out 1).trans rfl, (blk_cell BK175.out 2).trans rfl⟩ (fun hHeld => ?_); refine with_tabW bands_Manifest.tab5 bands_Manifest.bits5 (fun HT_ HW_ => ?_)
   generalize w11.drew = w12 at HO178 BK175 HI180 HB hHeld ⊢
   refine zp 0 17 (bm 8 1) ?_
   refine zp 3 20 (bm 8 9) ?_
   refine zt 1 18 (bm 8 11) rfl (by rintro w' ⟨s0, s1, s2⟩; go_simp; with_reducible rfl) ?_
   refine zt 4 21 (bm 8 27) rfl (by rintro w' ⟨s0, s1, s2⟩; go_simp; with_reducible rfl) ?_
   refine one_ (i := 2) (N := some 19) (bm 8 31) rfl rfl (one_of HT_.out (by kernel_rfl)) (by decide) (fun K hK => ?_)
   refine goes_ Try.func44 (by kernel_rfl) rfl #[.int .i64 a0_0] (by rfl) rfl rfl (by (try simp only [List.map_toArray, List.map_cons, List.map_nil]); first | done | rfl | (simp only [List.length_drop, List.length_take]; rfl) | (simp only [ByteArray.size_extract, Nat.min_self]; done) | (simp only [ByteArray.size_extract, Nat.min_self]; rfl)) ?_
   with_reducible refine (bands_big.calls a0_0 t181 _ A4.out).mono ?_
   rintro e w13 ⟨rfl, hb⟩
   refine ⟨_, rfl, ?_⟩
   have n0_ := Aside0.mk (Kd.R_below (oz HO178) hb)
   have n1_ := Aside0.mk (blk_below (g := gb175) (o := .cells #[.int .i64 a0_0, .int .i64 a0_1, .string a0_2] 57 (0, 0)) (kz BK175) hb)
   have n2_ := Aside0.mk (IsS85.below (by repeat (first | (with_reducible first | exact HI180.out | apply IsS85.alloc | apply IsS85.drewN | apply IsS85.drew | apply IsS85.set_0 | refine IsS85.far ?_ NB180_175.out _) | exact HI180.out)) hb)
   have n3_ := Aside0.mk (below_step (by repeat (first | (with_reducible first | exact HB.out | apply below_alloc | apply pw_below_drewN | apply below_drew1 | refine below_set ?_ (IsS85.ge HI180.out) | refine below_set ?_ GE175.out) | exact HB.out)) hb)
   clear HO178
   clear BK175
   clear HI180
   clear HB
   have HO178 := n0_
   have BK175 := n1_
   have HI180 := n2_
   have HB := n3_
   clear n0_ n1_ n2_ n3_
   (try clear hb)
   refine hK.out _ _ ⟨(blk_cell BK175.out 0).trans rfl, (blk_cell BK175.out 1).trans rfl, (blk_cell BK175.out 2).trans rfl⟩ (fun hHeld => ?_)
   clear hK K
   refine norm_ (a' := ?_) ?_ ?_
   rotate_left
   ·show Act.put _ (some 19) _ = _
    simp only [Act.put, zq1, zq2, zq3, i64_w, i32_w]
    rfl
   refine one_ (i := 5) (N := some 22) (bm 8 63) rfl rfl (one_of HT_.out (by kernel_rfl)) (by decide) (fun K hK => ?_)
   refine goes_ Try.func44 (by kernel_rfl) rfl #[.int .i64 a0_1] (by rfl) rfl rfl (by (try simp only [List.map_toArray, List.map_cons, List.map_nil]); first | done | rfl | (simp only [List.length_drop, List.length_take]; rfl) | (simp only [ByteArray.size_extract, Nat.min_self]; done) | (simp only [ByteArray.size_extract, Nat.min_self]; rfl)) ?_
   with_reducible refine (bands_big.calls a0_1 t182 _ A5.out).mono ?_
   rintro e w14 ⟨rfl, hb⟩
   refine ⟨_, rfl, ?_⟩
   have n0_ := Aside0.mk (Kd.R_below (oz HO178) hb)
   have n1_ := Aside0.mk (blk_below (g := gb175) (o := .cells #[.int .i64 a0_0, .int .i64 a0_1, .string a0_2] 57 (0, 0)) (kz BK175) hb)
   have n2_ := Aside0.mk (IsS85.below (by repeat (first | (with_reducible first | exact HI180.out | apply IsS85.alloc | apply IsS85.drewN | apply IsS85.drew | apply IsS85.set_0 | refine IsS85.far ?_ NB180_175.out _) | exact HI180.out)) hb)
   have n3_ := Aside0.mk (below_step (by repeat (first | (with_reducible first | exact HB.out | apply below_alloc | apply pw_below_drewN | apply below_drew1 | refine below_set ?_ (IsS85.ge HI180.out) | refine below_set ?_ GE175.out) | exact HB.out)) hb)
   clear HO178
   clear BK175
   clear HI180
   clear HB
   have HO178 := n0_
   have BK175 := n1_
   have HI180 := n2_
   have HB := n3_
   clear n0_ n1_ n2_ n3_
   (try clear hb)
   refine hK.out _ _ ⟨(blk_cell BK175.out 0).trans rfl, (blk_cell BK175.out 1).trans rfl, (blk_cell BK175.out 2).trans rfl⟩ (fun hHeld => ?_)
   clear hK K
   refine norm_ (a' := ?_) ?_ ?_
   rotate_left
   ·show Act.put _ (some 22) _ = _
    simp only [Act.put, zq1, zq2, zq3, i64_w, i32_w]
    rfl
   refine zp 6 23 (bm 8 127) ?_
   refine one_ (i := 7) (N := some 24) (bm 8 255) rfl rfl (one_of HT_.out (by kernel_rfl)) (by decide) (fun K hK => ?_)
   refine goes_ Try.func43 (by kernel_rfl) rfl #[.pointer (some ⟨gb180, 0, none⟩), .string (t181 ++ t182)] (by rfl) rfl rfl (by (try simp only [List.map_toArray, List.map_cons, List.map_nil]); first | done | rfl | (simp only [List.length_drop, List.length_take]; rfl) | (simp only [ByteArray.size_extract, Nat.min_self]; done) | (simp only [ByteArray.size_extract, Nat.min_self]; rfl)) ?_
   with_reducible refine (strings_Builder_WriteString.calls gb180 (⟨#[]⟩ : ByteArray) (t181 ++ t182) t183 t184 t185 w _ ?side1 ?side2 A7.out).mono ?_
   (case side1 => repeat (first | (with_reducible first | exact HI180.out | apply IsS85.alloc | apply IsS85.drewN | apply IsS85.drew | apply IsS85.set_0 | refine IsS85.far ?_ NB180_175.out _) | exact HI180.out))
   (case side2 => repeat (first | (with_reducible first | exact HB.out | apply below_alloc | apply pw_below_drewN | apply below_drew1 | refine below_set ?_ (IsS85.ge HI180.out) | refine below_set ?_ GE175.out) | exact HB.out))
   rintro e w15 ⟨rfl, hi, hb, hk⟩
   refine ⟨_, rfl, ?_⟩
   have n0_ := Aside0.mk (BKeep.blk hk (show _ = some (Obj.cells _ _ _) from by (with_reducible repeat (first | refine blk_drewN ?_ _ | refine blk_drew ?_ | refine blk_alloc ?_ _)); exact BK175.out) NB175_180.out (by decide))
   have n1_ := Aside0.mk (Kd.R_mono (BKeep.R (IsS85.apart (show IsS85 w _ gb180 (⟨#[]⟩ : ByteArray) from by repeat (first | (with_reducible first | exact HI180.out | apply IsS85.alloc | apply IsS85.drewN | apply IsS85.drew | apply IsS85.set_0 | refine IsS85.far ?_ NB180_175.out _) | exact HI180.out)) (oz HO178) (by decide)) hk (fun _ h => h.2) (by decide)) (fun _ h => h.1))
   have n2_ := Aside0.mk (hb)
   have n3_ := Aside0.mk (hi)
   clear BK175
   clear HO178
   clear HB
   clear HI180
   have BK175 := n0_
   have HO178 := n1_
   have HB := n2_
   have HI180 := n3_
   clear n0_ n1_ n2_ n3_
   (try clear hb)
   (try clear hk)
   (try clear hi)
   (try simp only [errW_none, errW_some])
   refine hK.out _ _ ⟨(blk_cell BK175.out 0).trans rfl, (blk_cell BK175.out 1).trans rfl, (blk_cell BK175.out 2).trans rfl⟩ (fun hHeld => ?_)
   clear hK K
   refine norm_ (a' := ?_) ?_ ?_
   rotate_left
   ·show Act.put _ (some 24) _ = _
    simp only [Act.put, zq1, zq2, zq3, i64_w, i32_w]
    rfl
   refine done_ (done_of HT_.out (by kernel_rfl)) ?_
   obtain ⟨Ao16, co16, eo16⟩ := Kd.R_slice HO178.out
   subst eo16
   try go_wp2
   go_loopg [27] k (fun kq v27 w' => ∃ (x27_1 : Int) (x181000_1 : ByteArray), v27 = .int .i64 x27_1 ∧ Aside0 (bands_Manifest.l0 kq t176 (t176.length : Int) x27_1 x181000_1 = some (r1, r2)) ∧ Aside0 (kq ≤ k) ∧ Aside0 (Kd.R Kd.string 9 w' w.heap.size (fun _ => True) (.slice Ao16 t176.length co16) t176) ∧ Aside0 (w'.heap[gb175]? = some (.cells #[.int .i64 a0_0, .int .i64 a0_1, .string a0_2] 57 (0, 0))) ∧ Aside0 (IsS85 w w' gb180 x181000_1) ∧ Aside0 (Below w.heap.size w w'))
   case atStart => exact ⟨(0), (t185), (by first | rfl | (simp; done) | (simp [*]; done)), H', ⟨Nat.le_refl _⟩, ⟨oz HO178⟩, ⟨kz BK175⟩, ⟨by repeat (first | (with_reducible first | exact HI180.out | apply IsS85.alloc | apply IsS85.drewN | apply IsS85.drew | apply IsS85.set_0 | refine IsS85.far ?_ NB180_175.out _) | exact HI180.out)⟩, ⟨by repeat (first | (with_reducible first | exact HB.out | apply below_alloc | apply pw_below_drewN | apply below_drew1 | refine below_set ?_ (IsS85.ge HI180.out) | refine below_set ?_ GE175.out) | exact HB.out)⟩⟩
   case round =>
    clear H'
    try clear c3
    try clear c3b0
    try clear c3b1
    try clear c6
    try clear c6b0
    try clear c6b1
    try clear c6b2
    try clear hcz9_0
    try clear hcz9_1
    try clear hcz9_2
    try clear hfz9_0
    try clear hfz9_1
    try clear hfz9_2
    obtain ⟨x27_1, x181000_1, rfl, HA, HK1, HO_25, BK175, HI180, HB⟩ := hrel
    cases gk with
    | zero => exact absurd HA.out (by simp [bands_Manifest.l0])
    | succ k1 =>
     have H := HA.out
     clear HA
     simp only [bands_Manifest.l0] at H
     by_cases c17 : x27_1 < (t176.length : Int)
     ·rw [if_pos c17] at H
      have c17b0 : decide (x27_1 < (t176.length : Int)) = true := decide_eq_true c17
      clear c17
      by_cases c18 : 0 ≤ x27_1
      ·rw [if_pos c18] at H
       have c18b0 : decide (0 ≤ x27_1) = true := decide_eq_true c18
       clear c18
       by_cases c19 : x27_1 < (t176.length : Int)
       ·rw [if_pos c19] at H
        have c19b0 : decide (x27_1 < (t176.length : Int)) = true := decide_eq_true c19
        clear c19
        replace H := Option.bind_eq_some_iff.mp H
        obtain ⟨t189, A200, H⟩ := H
        replace H : ((strings_Builder_WriteString.f x181000_1 t189).bind fun bt190 => (bands_Manifest.l0 k1 t176 (t176.length : Int) (wrap64 (x27_1 + 1)) bt190.2.2)) = some (r1, r2) := H
        have A20 := Aside0.mk A200
        clear A200
        replace H := Option.bind_eq_some_iff.mp H
        obtain ⟨⟨t190, t191, t192⟩, A210, H⟩ := H
        replace H : (bands_Manifest.l0 k1 t176 (t176.length : Int) (wrap64 (x27_1 + 1)) t192) = some (r1, r2) := H
        have A21 := Aside0.mk A210
        clear A210
        have H' := Aside0.mk H
        clear H
        have p188 : 0 ≤ (x27_1 : Int) := of_decide_eq_true (by first | (with_reducible assumption) | assumption)
        have q188 : x27_1 < (t176.length : Int) := of_decide_eq_true (by first | (with_reducible assumption) | assumption)
        obtain ⟨ad188, e188, hx188_0⟩ := Kd.at_string (Kd.R_reads' HO_25.out).2.2 x27_1 p188 q188
        cases e188
        replace p188 := eq_true p188
        replace q188 := eq_true q188
        go_wp2_with (first | ((with_reducible refine gate_callee (f := 45) rfl ?_); refine gz 32 Try.func45 #[.string (rdOf ByteArray.empty t176 x27_1)] ?_; (with_reducible refine (sha_Sum.calls k1 (rdOf ByteArray.empty t176 x27_1) t189 _ A20.out).mono ?_); rintro e w22 ⟨rfl, hb⟩; refine ⟨_, rfl, ?_⟩; have n0_ := Aside0.mk (Kd.R_below (oz HO_25) hb); have n1_ := Aside0.mk (blk_below (g := gb175) (o := .cells #[.int .i64 a0_0, .int .i64 a0_1, .string a0_2] 57 (0, 0)) (kz BK175) hb); have n2_ := Aside0.mk (IsS85.below (by repeat (first | (with_reducible first | exact HI180.out | apply IsS85.alloc | apply IsS85.drewN | apply IsS85.drew | apply IsS85.set_0 | refine IsS85.far ?_ NB180_175.out _) | exact HI180.out)) hb); have n3_ := Aside0.mk (below_step (by repeat (first | (with_reducible first | exact HB.out | apply below_alloc | apply pw_below_drewN | apply below_drew1 | refine below_set ?_ (IsS85.ge HI180.out) | refine below_set ?_ GE175.out) | exact HB.out)) hb); clear HO_25; clear BK175; clear HI180; clear HB; have HO_25 := n0_; have BK175 := n1_; have HI180 := n2_; have HB := n3_; clear n0_ n1_ n2_ n3_; (try clear hb); (try clear hb2); (try clear hk); (try clear hi)) | ((with_reducible refine gate_callee (f := 43) rfl ?_); refine gz 33 Try.func43 #[.pointer (some ⟨gb180, 0, none⟩), .string t189] ?_; (with_reducible refine (strings_Builder_WriteString.calls gb180 x181000_1 t189 t190 t191 t192 w _ ?side1 ?side2 A21.out).mono ?_); (case side1 => repeat (first | (with_reducible first | exact HI180.out | apply IsS85.alloc | apply IsS85.drewN | apply IsS85.drew | apply IsS85.set_0 | refine IsS85.far ?_ NB180_175.out _) | exact HI180.out)); (case side2 => repeat (first | (with_reducible first | exact HB.out | apply below_alloc | apply pw_below_drewN | apply below_drew1 | refine below_set ?_ (IsS85.ge HI180.out) | refine below_set ?_ GE175.out) | exact HB.out)); rintro e w23 ⟨rfl, hi, hb, hk⟩; refine ⟨_, rfl, ?_⟩; have n0_ := Aside0.mk (Kd.R_mono (BKeep.R (IsS85.apart (show IsS85 w _ gb180 x181000_1 from by repeat (first | (with_reducible first | exact HI180.out | apply IsS85.alloc | apply IsS85.drewN | apply IsS85.drew | apply IsS85.set_0 | refine IsS85.far ?_ NB180_175.out _) | exact HI180.out)) (oz HO_25) (by decide)) hk (fun _ h => h.2) (by decide)) (fun _ h => h.1)); have n1_ := Aside0.mk (BKeep.blk hk (show _ = some (Obj.cells _ _ _) from by (with_reducible repeat (first | refine blk_drewN ?_ _ | refine blk_drew ?_ | refine blk_alloc ?_ _)); exact BK175.out) NB175_180.out (by decide)); have n2_ := Aside0.mk (hb); have n3_ := Aside0.mk (hi); clear HO_25; clear BK175; clear HB; clear HI180; have HO_25 := n0_; have BK175 := n1_; have HB := n2_; have HI180 := n3_; clear n0_ n1_ n2_ n3_; (try clear hb); (try clear hb2); (try clear hk); (try clear hi); (try simp only [errW_none, errW_some])))
        go_roundg k1
        case measure => have := HK1.out; omega
        case rel => exact ⟨(wrap64 (x27_1 + 1)), (t192), (by first | rfl | (simp; done) | (simp [*]; done)), H', ⟨by have := HK1.out; omega⟩, ⟨oz HO_25⟩, ⟨kz BK175⟩, ⟨by repeat (first | (with_reducible first | exact HI180.out | apply IsS85.alloc | apply IsS85.drewN | apply IsS85.drew | apply IsS85.set_0 | refine IsS85.far ?_ NB180_175.out _) | exact HI180.out)⟩, ⟨by repeat (first | (with_reducible first | exact HB.out | apply below_alloc | apply pw_below_drewN | apply below_drew1 | refine below_set ?_ (IsS85.ge HI180.out) | refine below_set ?_ GE175.out) | exact HB.out)⟩⟩
       ·rw [if_neg c19] at H
        exact absurd H (by simp)
      ·rw [if_neg c18] at H
       exact absurd H (by simp)
     ·rw [if_neg c17] at H
      have c17b0 : decide (x27_1 < (t176.length : Int)) = false := decide_eq_false c17
      clear c17
      replace H := Option.bind_eq_some_iff.mp H
      obtain ⟨⟨t186, t187⟩, A240, H⟩ := H
      replace H : (some (t186, 0)) = some (r1, r2) := H
      have A24 := Aside0.mk A240
      clear A240
      simp only [Option.some.injEq, Prod.mk.injEq] at H
      obtain ⟨rfl, rfl⟩ := H
      go_wp2_with (first | ((with_reducible refine gate_callee (f := 46) rfl ?_); refine gz 35 Try.func46 #[.pointer (some ⟨gb180, 0, none⟩)] ?_; (with_reducible refine (strings_Builder_String.calls gb180 x181000_1 t186 t187 w _ ?side1 ?side2 A24.out).mono ?_); (case side1 => repeat (first | (with_reducible first | exact HI180.out | apply IsS85.alloc | apply IsS85.drewN | apply IsS85.drew | apply IsS85.set_0 | refine IsS85.far ?_ NB180_175.out _) | exact HI180.out)); (case side2 => repeat (first | (with_reducible first | exact HB.out | apply below_alloc | apply pw_below_drewN | apply below_drew1 | refine below_set ?_ (IsS85.ge HI180.out) | refine below_set ?_ GE175.out) | exact HB.out)); rintro e w25 ⟨rfl, hi, hb, hk⟩; refine ⟨_, rfl, ?_⟩; have n0_ := Aside0.mk (Kd.R_mono (BKeep.R (IsS85.apart (show IsS85 w _ gb180 x181000_1 from by repeat (first | (with_reducible first | exact HI180.out | apply IsS85.alloc | apply IsS85.drewN | apply IsS85.drew | apply IsS85.set_0 | refine IsS85.far ?_ NB180_175.out _) | exact HI180.out)) (oz HO_25) (by decide)) hk (fun _ h => h.2) (by decide)) (fun _ h => h.1)); have n1_ := Aside0.mk (BKeep.blk hk (show _ = some (Obj.cells _ _ _) from by (with_reducible repeat (first | refine blk_drewN ?_ _ | refine blk_drew ?_ | refine blk_alloc ?_ _)); exact BK175.out) NB175_180.out (by decide)); have n2_ := Aside0.mk (hb); have n3_ := Aside0.mk (hi); clear HO_25; clear BK175; clear HB; clear HI180; have HO_25 := n0_; have BK175 := n1_; have HB := n2_; have HI180 := n3_; clear n0_ n1_ n2_ n3_; (try clear hb); (try clear hb2); (try clear hk); (try clear hi)))
      go_ret2
      exact ⟨by first | rfl | (simp [errW_none, errW_some] <;> rfl) | (simp [*, errW_none, errW_some] <;> rfl), by repeat (first | (with_reducible first | exact HB.out | apply below_alloc | apply pw_below_drewN | apply below_drew1 | refine below_set ?_ (IsS85.ge HI180.out) | refine below_set ?_ GE175.out) | exact HB.out)⟩
  ·rw [if_neg c6] at H
   exact absurd H (by simp)
 ·rw [if_neg c3] at H
  have c3b0 : (t179 == 0) = false := beq_eq_false_iff_ne.mpr c3
  have c3b1 : (t179 != 0) = true := bne_iff_ne.mpr c3
  simp only [Option.some.injEq, Prod.mk.injEq] at H
  obtain ⟨rfl, rfl⟩ := H
  go_enter Try.func25, Try.ntmps25
  go_wp2_with (first | ((with_reducible refine gate_dst (N := 1) rfl ?_); refine box_event ?hg (N := 1) ?hd (cs := #[.int .i64 a0_0, .int .i64 a0_1, .string a0_2]) (t := 57) ?hr ?_; (case hd => rfl); (case hg => rfl); (case hr => first | (go_simp; done) | (go_simp; rfl)); intro gb175 hg w26 hbox hb; have n0_ := Aside0.mk (below_step (hz HB) hb); have n1_ := Aside0.mk (hbox); have n2_ := Aside0.mk ((by rw [hg]; exact (below_size (hz HB)) : w.heap.size ≤ gb175)); have n3_ := Aside0.mk ((by rw [hg]; exact (below_size (hz HB)) : w.heap.size ≤ gb175)); clear HB; have HB := n0_; have BK175 := n1_; have GW175 := n2_; have GE175 := n3_; clear n0_ n1_ n2_ n3_; clear hb hbox hg; have hcz27_0 : w26.cell? ⟨gb175, 0, none⟩ = some (.int .i64 a0_0) := (blk_cell BK175.out 0).trans rfl; have hcz27_1 : w26.cell? ⟨gb175, 1, none⟩ = some (.int .i64 a0_1) := (blk_cell BK175.out 1).trans rfl; have hcz27_2 : w26.cell? ⟨gb175, 2, none⟩ = some (.string a0_2) := (blk_cell BK175.out 2).trans rfl; have hfz27_0 := blk_frozen BK175.out 0; have hfz27_1 := blk_frozen BK175.out 1; have hfz27_2 := blk_frozen BK175.out 2) | ((with_reducible refine gate_callee (f := 27) rfl ?_); refine gz 11 Try.func27 #[.agg #[.int .i64 a0_0, .int .i64 a0_1, .string a0_2]] ?_; (with_reducible refine (bands_Cut.calls k a0_0 a0_1 a0_2 t176 t179 _ A2.out).mono ?_); rintro e w28 ⟨v177, rfl, ho0, hb⟩; refine ⟨_, rfl, ?_⟩; have n0_ := Aside0.mk (Kd.R_lower ho0 (below_size (hz HB))); have n1_ := Aside0.mk (blk_below (g := gb175) (o := .cells #[.int .i64 a0_0, .int .i64 a0_1, .string a0_2] 57 (0, 0)) (kz BK175) hb); have n2_ := Aside0.mk (below_step (hz HB) hb); clear BK175; clear HB; have HO178 := n0_; have BK175 := n1_; have HB := n2_; clear n0_ n1_ n2_; (try clear hb); (try clear hb2); (try clear hk); (try clear hi); (try clear ho0)))
  go_ret2
  exact ⟨by first | rfl | (simp [errW_none, errW_some] <;> rfl) | (simp [*, errW_none, errW_some] <;> rfl), by repeat (first | (with_reducible first | exact HB.out | apply below_alloc | apply pw_below_drewN | apply below_drew1 | refine below_set ?_ GE175.out) | exact HB.out)⟩

end Go.Proofs.Ytdbiokmlgniobaa.PL22

namespace Go.Proofs.Ytdbiokmlgniobaa.PL22
open Go.RowKit Go.Proofs.YtdbiokmlgniobaaW.PrintWords Go.Proofs.YtdbiokmlgniobaaW.PrintLast Go.Proofs.YtdbiokmlgniobaaW.PrintMore
attribute [local go_sem] max2_int min2_int max_two min_two max_three min_three max_four min_four   -- for this text's walks alone
set_option linter.unusedVariables false
set_option linter.unusedSimpArgs false

def vitrinelaw22_small.l0 : Nat → Int → List Int → Int → Option (Int × Int × ByteArray)
 | 0, _, _, _ => none
 | k + 1, x0, x3, x4 => if x4 < (x3.length : Int) then (if 0 ≤ x4 then ((some (x3.set (x4 : Int).toNat ((Int.tmod x0 8) % 256) : List Int)).bind fun y197 => (if x4 ≥ 64 then (vitrinelaw22_small.l0 k x0 (y197.set (x4 : Int).toNat ((Int.tmod (wrap64 (Int.tdiv x0 8)) 3) % 256)) (wrap64 (x4 + 1))) else (vitrinelaw22_small.l0 k x0 y197 (wrap64 (x4 + 1))))) else (none)) else (some (1, 9, strOfNums x3))
def vitrinelaw22_small.f (k : Nat) (a0 : Int) : Option (Int × Int × ByteArray) := if 72 ≤ 281474976710656 then (vitrinelaw22_small.l0 k a0 (List.replicate 72 0) 0) else (none)
set_option maxHeartbeats 40000000 in
set_option maxRecDepth 100000 in
theorem vitrinelaw22_small.calls (k : Nat) (a0 : Int) (r1 : Int) (r2 : Int) (r3 : ByteArray) (w : World) (h : vitrinelaw22_small.f k a0 = some (r1, r2, r3)) :
  Calls Try.prog 26 #[.int .i64 a0] w fun e w' => e = .returned (.agg #[.int .i64 r1, .int .i64 r2, .string r3]) ∧ Below w.heap.size w w' := by
 have hu57 := Try.underlying57
 have HB := Aside0.mk (Below.refl w.heap.size w)
 have H : (if 72 ≤ 281474976710656 then (vitrinelaw22_small.l0 k a0 (List.replicate 72 0) 0) else (none)) = some (r1, r2, r3) := h
 clear h
 by_cases c2 : 72 ≤ 281474976710656
 ·rw [if_pos c2] at H
  have c2b0 := eq_true c2
  have c2b1 : decide (72 ≤ 281474976710656) = true := decide_eq_true c2
  clear c2
  obtain ⟨y194, hy194⟩ : ∃ y_ : List Int, y_ = (List.replicate 72 0) := ⟨_, rfl⟩
  replace H : (vitrinelaw22_small.l0 k a0 y194 0) = some (r1, r2, r3) := by first | (rw [hy194]; with_reducible exact H) | (have H2_ := (Option.bind_some _ _).symm.trans H; rw [hy194]; with_reducible exact H2_) | (have H2_ := (Option.bind_some _ _).symm.trans H; with_reducible exact H2_) | with_reducible exact H | (rw [hy194]; exact H) | exact H
  have Ny194 := Aside0.mk hy194
  clear hy194
  have H' := Aside0.mk H
  clear H
  go_enter Try.func26, Try.ntmps26
  go_wp2_with (first | ((with_reducible refine gate_dst (N := 2) rfl ?_); refine box_event ?hg (N := 2) ?hd (cs := #[.int .i64 0, .int .i64 0, .string (⟨#[]⟩ : ByteArray)]) (t := 57) ?hr ?_; (case hd => rfl); (case hg => rfl); (case hr => first | (go_simp; done) | (go_simp; rfl)); intro gb193 hg w3 hbox hb; have n0_ := Aside0.mk (below_step (hz HB) hb); have n1_ := Aside0.mk (hbox); have n2_ := Aside0.mk ((by rw [hg]; exact (below_size (hz HB)) : w.heap.size ≤ gb193)); have n3_ := Aside0.mk ((by rw [hg]; exact (below_size (hz HB)) : w.heap.size ≤ gb193)); clear HB; have HB := n0_; have BK193 := n1_; have GW193 := n2_; have GE193 := n3_; clear n0_ n1_ n2_ n3_; clear hb hbox hg) | ((with_reducible refine gate_dst (N := 5) rfl ?_); refine Kd.R_make (Kd.int .u8) _ 5 rfl (N := 5) rfl 83 _ _ rfl 72 rfl rfl Try.underlying83 (.int .u8 0) 1 info5 rfl (by decide) (by omega) 0 (ok := fun _ => True) (okp := fun _ => True) rfl (fun _ hk => hk) trivial (by omega) (by omega) (Below.refl _ _) (Nat.le_refl _) ?_; intro v195 w4 ho5 hb hg_ hnew_; clear hg_ hnew_; (first | rw [← Ny194.out] at ho5 | (simp only [Int.reduceToNat] at ho5; rw [← Ny194.out] at ho5)); have n0_ := Aside0.mk (Kd.R_lower ho5 (below_size (hz HB))); have n1_ := Aside0.mk (blk_below (g := gb193) (o := .cells #[.int .i64 0, .int .i64 0, .string (⟨#[]⟩ : ByteArray)] 57 (0, 0)) (kz BK193) hb); have n2_ := Aside0.mk (below_step (hz HB) hb); clear BK193; clear HB; have HO196 := n0_; have BK193 := n1_; have HB := n2_; clear n0_ n1_ n2_; clear hb ho5))
  go_loopg [4] k (fun kq v4 w' => ∃ (x3_1 : List Int) (x4_1 : Int), v4 = .int .i64 x4_1 ∧ Aside0 (vitrinelaw22_small.l0 kq a0 x3_1 x4_1 = some (r1, r2, r3)) ∧ Aside0 (kq ≤ k) ∧ Aside0 (Kd.R (Kd.int .u8) 5 w' w.heap.size (fun _ => True) v195 x3_1) ∧ Aside0 (w'.heap[gb193]? = some (.cells #[.int .i64 0, .int .i64 0, .string (⟨#[]⟩ : ByteArray)] 57 (0, 0))) ∧ Aside0 (Below w.heap.size w w'))
  case atStart => exact ⟨(y194), (0), (by first | rfl | (simp; done) | (simp [*]; done)), H', ⟨Nat.le_refl _⟩, ⟨oz HO196⟩, ⟨kz BK193⟩, ⟨hz HB⟩⟩
  case round =>
   clear H'
   try clear c2
   try clear c2b0
   try clear c2b1
   obtain ⟨x3_1, x4_1, rfl, HA, HK1, HO_3, BK193, HB⟩ := hrel
   cases gk with
   | zero => exact absurd HA.out (by simp [vitrinelaw22_small.l0])
   | succ k1 =>
    have H := HA.out
    clear HA
    simp only [vitrinelaw22_small.l0] at H
    by_cases c6 : x4_1 < (x3_1.length : Int)
    ·rw [if_pos c6] at H
     have c6b0 : decide (x4_1 < (x3_1.length : Int)) = true := decide_eq_true c6
     clear c6
     by_cases c7 : 0 ≤ x4_1
     ·rw [if_pos c7] at H
      have c7b0 : decide (0 ≤ x4_1) = true := decide_eq_true c7
      clear c7
      obtain ⟨y197, hy197⟩ : ∃ y_ : List Int, y_ = (x3_1.set (x4_1 : Int).toNat ((Int.tmod a0 8) % 256)) := ⟨_, rfl⟩
      replace H : (if x4_1 ≥ 64 then (vitrinelaw22_small.l0 k1 a0 (y197.set (x4_1 : Int).toNat ((Int.tmod (wrap64 (Int.tdiv a0 8)) 3) % 256)) (wrap64 (x4_1 + 1))) else (vitrinelaw22_small.l0 k1 a0 y197 (wrap64 (x4_1 + 1)))) = some (r1, r2, r3) := by first | (rw [hy197]; with_reducible exact H) | (have H2_ := (Option.bind_some _ _).symm.trans H; rw [hy197]; with_reducible exact H2_) | (have H2_ := (Option.bind_some _ _).symm.trans H; with_reducible exact H2_) | with_reducible exact H | (rw [hy197]; exact H) | exact H
      have Ny197 := Aside0.mk hy197
      clear hy197
      by_cases c9 : x4_1 ≥ 64
      ·rw [if_pos c9] at H
       have c9b0 : decide (64 ≤ x4_1) = true := decide_eq_true c9
       clear c9
       obtain ⟨y198, hy198⟩ : ∃ y_ : List Int, y_ = (y197.set (x4_1 : Int).toNat ((Int.tmod (wrap64 (Int.tdiv a0 8)) 3) % 256)) := ⟨_, rfl⟩
       replace H : (vitrinelaw22_small.l0 k1 a0 y198 (wrap64 (x4_1 + 1))) = some (r1, r2, r3) := by first | (rw [hy198]; with_reducible exact H) | (have H2_ := (Option.bind_some _ _).symm.trans H; rw [hy198]; with_reducible exact H2_) | (have H2_ := (Option.bind_some _ _).symm.trans H; with_reducible exact H2_) | with_reducible exact H | (rw [hy198]; exact H) | exact H
       have Ny198 := Aside0.mk hy198
       clear hy198
       have H' := Aside0.mk H
       clear H
       obtain ⟨Ao11, co11, eo11⟩ := Kd.R_slice HO_3.out
       subst eo11
       have p8 : 0 ≤ (x4_1 : Int) := of_decide_eq_true (by first | (with_reducible assumption) | assumption)
       have q8 : (x4_1 : Int) < ((x3_1.length : Int) : Int) := of_decide_eq_true (by first | (with_reducible assumption) | assumption)
       obtain ⟨go8, co8, eo8, gb8, gl8, cl8, HG8⟩ := Kd.R_form HO_3.out (by omega)
       (first | cases eo8 | (injection eo8 with ea_ en_ ec_; (first | subst ea_ | (injection ea_ with ea_; subst ea_)); subst ec_; clear en_))
       have GB8 := Aside0.mk gb8
       have GG8 := Aside0.mk HG8
       clear gb8 gl8 HG8
       obtain ⟨hx8_0, hf8_0⟩ := Kd.R_celln 0 HO_3.out (x4_1 : Int) p8 q8
       replace p8 := eq_true p8
       replace q8 := eq_true q8
       have HP12 := Kd.R_putg HO_3.out (x4_1 : Int) ((Int.tmod a0 8) % 256)
       go_wp2_with (first | ((with_reducible refine gate_store (t := 5) (p := 17) rfl ?_); refine store_event (t := 5) (p := 17) (v := ?vo_w13) (w1 := (wr.setCell ⟨go8, (x4_1 : Int).toNat, none⟩ (.int .u8 ((Int.tmod a0 8) % 256)))) ?hg ?ho ?hn ?hr ?_; (case ho => rfl); (case hg => rfl); (case hn => rfl); (case hr => first | (go_simp; done) | (go_simp; rfl)); intro w13 hw; have hg : wr.grownBy w13 (some go8) := (by rw [hw]; exact HP12.2); have hp_ : Kd.R (Kd.int .u8) 5 w13 w.heap.size (fun _ => True) (.slice (some ⟨go8, 0, none⟩) x3_1.length co11) y197 := (by rw [hw, Ny197.out]; exact HP12.1); clear HP12; have n0_ := Aside0.mk (hp_); have n1_ := Aside0.mk (blk_grown (g := gb193) (o := .cells #[.int .i64 0, .int .i64 0, .string (⟨#[]⟩ : ByteArray)] 57 (0, 0)) (kz BK193) hg (Kd.R_ne HO_3.out BK193.out (by decide))); have n2_ := Aside0.mk ((by rw [hw]; exact below_set (HB.out) GB8.out : Below w.heap.size w w13)); clear HO_3; clear BK193; clear HB; have HO_3 := n0_; have BK193 := n1_; have HB := n2_; clear n0_ n1_ n2_; clear hg hw hp_; have p10 : 0 ≤ (x4_1 : Int) := of_decide_eq_true (by first | (with_reducible assumption) | assumption); have q10 : (x4_1 : Int) < ((x3_1.length : Int) : Int) := of_decide_eq_true (by first | (with_reducible assumption) | assumption); obtain ⟨hx10_0, hf10_0⟩ := Kd.R_celln 0 HO_3.out (x4_1 : Int) p10 q10; replace p10 := eq_true p10; replace q10 := eq_true q10; obtain ⟨hy14_, hz14_⟩ := Kd.R_celln 0 HO_3.out (x4_1 : Int) (of_decide_eq_true (by first | (with_reducible assumption) | assumption)) (of_decide_eq_true (by first | (with_reducible assumption) | assumption)); have HP14 := Kd.R_putg HO_3.out (x4_1 : Int) ((Int.tmod (wrap64 (Int.tdiv a0 8)) 3) % 256)) | ((with_reducible refine gate_store (t := 5) (p := 26) rfl ?_); refine store_event (t := 5) (p := 26) (v := ?vo_w15) (w1 := (w13.setCell ⟨go8, (x4_1 : Int).toNat, none⟩ (.int .u8 ((Int.tmod (wrap64 (Int.tdiv a0 8)) 3) % 256)))) ?hg ?ho ?hn ?hr ?_; (case ho => rfl); (case hg => rfl); (case hn => rfl); (case hr => first | (go_simp; done) | (go_simp; rfl)); intro w15 hw; have hg : w13.grownBy w15 (some go8) := (by rw [hw]; exact HP14.2); have hp_ : Kd.R (Kd.int .u8) 5 w15 w.heap.size (fun _ => True) (.slice (some ⟨go8, 0, none⟩) x3_1.length co11) y198 := (by rw [hw, Ny198.out]; exact HP14.1); clear HP14; have n0_ := Aside0.mk (hp_); have n1_ := Aside0.mk (blk_grown (g := gb193) (o := .cells #[.int .i64 0, .int .i64 0, .string (⟨#[]⟩ : ByteArray)] 57 (0, 0)) (kz BK193) hg (Kd.R_ne HO_3.out BK193.out (by decide))); have n2_ := Aside0.mk ((by rw [hw]; exact below_set (HB.out) GB8.out : Below w.heap.size w w15)); clear HO_3; clear BK193; clear HB; have HO_3 := n0_; have BK193 := n1_; have HB := n2_; clear n0_ n1_ n2_; clear hg hw hp_))
       go_roundg k1
       case measure => have := HK1.out; omega
       case rel => exact ⟨(y198), (wrap64 (x4_1 + 1)), (by first | rfl | (simp; done) | (simp [*]; done)), H', ⟨by have := HK1.out; omega⟩, ⟨oz HO_3⟩, ⟨kz BK193⟩, ⟨hz HB⟩⟩
      ·rw [if_neg c9] at H
       have c9b0 : decide (64 ≤ x4_1) = false := decide_eq_false c9
       clear c9
       have H' := Aside0.mk H
       clear H
       obtain ⟨Ao16, co16, eo16⟩ := Kd.R_slice HO_3.out
       subst eo16
       have p8 : 0 ≤ (x4_1 : Int) := of_decide_eq_true (by first | (with_reducible assumption) | assumption)
       have q8 : (x4_1 : Int) < ((x3_1.length : Int) : Int) := of_decide_eq_true (by first | (with_reducible assumption) | assumption)
       obtain ⟨go8, co8, eo8, gb8, gl8, cl8, HG8⟩ := Kd.R_form HO_3.out (by omega)
       (first | cases eo8 | (injection eo8 with ea_ en_ ec_; (first | subst ea_ | (injection ea_ with ea_; subst ea_)); subst ec_; clear en_))
       have GB8 := Aside0.mk gb8
       have GG8 := Aside0.mk HG8
       clear gb8 gl8 HG8
       obtain ⟨hx8_0, hf8_0⟩ := Kd.R_celln 0 HO_3.out (x4_1 : Int) p8 q8
       replace p8 := eq_true p8
       replace q8 := eq_true q8
       have HP17 := Kd.R_putg HO_3.out (x4_1 : Int) ((Int.tmod a0 8) % 256)
       go_wp2_with (first | ((with_reducible refine gate_store (t := 5) (p := 17) rfl ?_); refine store_event (t := 5) (p := 17) (v := ?vo_w18) (w1 := (wr.setCell ⟨go8, (x4_1 : Int).toNat, none⟩ (.int .u8 ((Int.tmod a0 8) % 256)))) ?hg ?ho ?hn ?hr ?_; (case ho => rfl); (case hg => rfl); (case hn => rfl); (case hr => first | (go_simp; done) | (go_simp; rfl)); intro w18 hw; have hg : wr.grownBy w18 (some go8) := (by rw [hw]; exact HP17.2); have hp_ : Kd.R (Kd.int .u8) 5 w18 w.heap.size (fun _ => True) (.slice (some ⟨go8, 0, none⟩) x3_1.length co16) y197 := (by rw [hw, Ny197.out]; exact HP17.1); clear HP17; have n0_ := Aside0.mk (hp_); have n1_ := Aside0.mk (blk_grown (g := gb193) (o := .cells #[.int .i64 0, .int .i64 0, .string (⟨#[]⟩ : ByteArray)] 57 (0, 0)) (kz BK193) hg (Kd.R_ne HO_3.out BK193.out (by decide))); have n2_ := Aside0.mk ((by rw [hw]; exact below_set (HB.out) GB8.out : Below w.heap.size w w18)); clear HO_3; clear BK193; clear HB; have HO_3 := n0_; have BK193 := n1_; have HB := n2_; clear n0_ n1_ n2_; clear hg hw hp_))
       go_roundg k1
       case measure => have := HK1.out; omega
       case rel => exact ⟨(y197), (wrap64 (x4_1 + 1)), (by first | rfl | (simp; done) | (simp [*]; done)), H', ⟨by have := HK1.out; omega⟩, ⟨oz HO_3⟩, ⟨kz BK193⟩, ⟨hz HB⟩⟩
     ·rw [if_neg c7] at H
      exact absurd H (by simp)
    ·rw [if_neg c6] at H
     have c6b0 : decide (x4_1 < (x3_1.length : Int)) = false := decide_eq_false c6
     clear c6
     simp only [Option.some.injEq, Prod.mk.injEq] at H
     obtain ⟨rfl, rfl, rfl⟩ := H
     obtain ⟨Ao19, co19, eo19⟩ := Kd.R_slice HO_3.out
     subst eo19
     have hcv20 := own_string (P := Try.prog) Try.underlying83 Try.underlying5 Try.underlying9 (Kd.own_of_R HO_3.out)
     have hcz21_0 : wr.cell? ⟨gb193, 0, none⟩ = some (.int .i64 0) := (blk_cell BK193.out 0).trans rfl
     have hcz21_1 : wr.cell? ⟨gb193, 1, none⟩ = some (.int .i64 0) := (blk_cell BK193.out 1).trans rfl
     have hcz21_2 : wr.cell? ⟨gb193, 2, none⟩ = some (.string (⟨#[]⟩ : ByteArray)) := (blk_cell BK193.out 2).trans rfl
     have hfz21_0 := blk_frozen BK193.out 0
     have hfz21_1 := blk_frozen BK193.out 1
     have hfz21_2 := blk_frozen BK193.out 2
     go_wp2
     refine bodyPost_ret (results_cell_row rfl _ _ gb193 57 #[.int .i64 1, .int .i64 9, .string (strOfNums x3_1)] (0, 0) _ rfl (by (with_reducible repeat (first | refine blk_drewN ?_ _ | refine blk_drew ?_ | refine blk_alloc ?_ _)); refine blk_put (cs := #[.int .i64 1, .int .i64 9, .string (⟨#[]⟩ : ByteArray)]) ?_ 2 _ rfl; (with_reducible repeat (first | refine blk_drewN ?_ _ | refine blk_drew ?_ | refine blk_alloc ?_ _)); refine blk_put (cs := #[.int .i64 1, .int .i64 0, .string (⟨#[]⟩ : ByteArray)]) ?_ 1 _ rfl; (with_reducible repeat (first | refine blk_drewN ?_ _ | refine blk_drew ?_ | refine blk_alloc ?_ _)); refine blk_put (cs := #[.int .i64 0, .int .i64 0, .string (⟨#[]⟩ : ByteArray)]) ?_ 0 _ rfl; (with_reducible repeat (first | refine blk_drewN ?_ _ | refine blk_drew ?_ | refine blk_alloc ?_ _)); exact BK193.out) Try.underlying57 rfl (by kernel_rfl)) rfl ?_
     exact ⟨by first | rfl | (simp [errW_none, errW_some] <;> rfl) | (simp [*, errW_none, errW_some] <;> rfl), by repeat (first | (with_reducible first | exact HB.out | apply below_alloc | apply pw_below_drewN | apply below_drew1 | refine below_set ?_ GE193.out) | exact HB.out)⟩
 ·rw [if_neg c2] at H
  exact absurd H (by simp)

-- NOT PRINTED: function 18 (vitrinelaw22_Message)

end Go.Proofs.Ytdbiokmlgniobaa.PL22

namespace Go.Proofs.Ytdbiokmlgniobaa.PL22
open Go.RowKit Go.Proofs.YtdbiokmlgniobaaW.PrintWords Go.Proofs.YtdbiokmlgniobaaW.PrintLast Go.Proofs.YtdbiokmlgniobaaW.PrintMore
attribute [local go_sem] max2_int min2_int max_two min_two max_three min_three max_four min_four   -- for this text's walks alone
set_option linter.unusedVariables false
set_option linter.unusedSimpArgs false

open Go.Proofs.YtdbiokmlgniobaaV
attribute [local go_sem] eql_nil
def rs0 : CS := ⟨9, 5, 0, 0, false, m0, m0, 41⟩
def rsW (name man : ByteArray) (p : List ByteArray) (pu : Bool) : CS := ⟨9, 5, 1, 1, pu, m0, ⟨0, 0, 0, 0, name, ⟨0, 0⟩, man, p⟩, 41⟩
def rsL (name : ByteArray) : List S26 := rsUp (rsW name (⟨#[]⟩ : ByteArray) [] false) [] 5
theorem rsL_len (name : ByteArray) : (((rsL name).length : Int) == 5) = true := rfl
def rs_same (k : Nat) (name : ByteArray) : Option Bool := (vitrinelaw22_same.f k (rsL name) (rsL name)).bind fun x => (if x = true then some true else none)
def vitrinelaw22_ClientResend.f (k : Nat) (a0 : ByteArray) (a1 : Int) : Option (Bool) := if 1000 < a0.size then some true else (vitrinelaw22_small.f k a1).bind fun t => (bands_Manifest.f k t.1 t.2.1 t.2.2).bind fun m => (bands_Cut.f k t.1 t.2.1 t.2.2).bind fun p => (bands_Name.f k a0).bind fun en => (if en = 0 then (if 0 < a1 then (bands_Join.f k m.1 p.1).bind fun j => (if j.2.2.2 = 0 ∧ p.1.length ≤ 1000000 then rs_same k a0 else none) else rs_same k a0) else some true)
set_option maxHeartbeats 40000000 in
set_option maxRecDepth 100000 in
theorem resend_long (a0 : ByteArray) (a1 : Int) (w : World) (hl : 1000 < a0.size) : Calls Try.prog 7 #[.string a0, .int .i64 a1] w (Ret (.bool true) w) := by
 have q0 : decide ((1000 : Int) < (a0.size : Int)) = true := decide_eq_true (by omega)
 have q1 : decide (1000 < a0.size) = true := decide_eq_true hl
 have HB := Aside0.mk (Below.refl w.heap.size w)
 clear hl
 go_enter Try.func7, Try.ntmps7
 go_wp2_with (go_at_call 9; (with_reducible refine (awake_calls _).mono ?_); rintro e w30 ⟨rfl, hb⟩; have n_HB := Aside0.mk (below_step HB.out hb); clear HB hb; have HB := n_HB; clear n_HB)
 go_ret
 exact ⟨rfl, HB.out⟩
set_option maxHeartbeats 40000000 in
set_option maxRecDepth 100000 in
theorem resend_get (k : Nat) (a0 : ByteArray) (a1 : Int) (s1 s2 : Int) (s3 man : ByteArray) (em : Int) (p : List ByteArray) (ep : Int) (w : World) (hl : ¬ 1000 < a0.size) (hsm : vitrinelaw22_small.f k a1 = some (s1, s2, s3)) (hma : bands_Manifest.f k s1 s2 s3 = some (man, em)) (hcu : bands_Cut.f k s1 s2 s3 = some (p, ep)) (hp : ¬ 0 < a1) (hn : bands_Name.f k a0 = some 0) (hsame : vitrinelaw22_same.f k (rsL a0) (rsL a0) = some true) : Calls Try.prog 7 #[.string a0, .int .i64 a1] w (Ret (.bool true) w) := by
 have q0 : decide ((1000 : Int) < (a0.size : Int)) = false := decide_eq_false (by omega)
 have q1 : decide (1000 < a0.size) = false := decide_eq_false hl
 have HB := Aside0.mk (Below.refl w.heap.size w)
 have q2 : decide (0 < a1) = false := decide_eq_false hp
 have HSmall := Aside0.mk hsm
 have HMa := Aside0.mk hma
 have HCu := Aside0.mk hcu
 have HNm := Aside0.mk hn
 clear hl hp hsm hma hcu hn
 have HSame := Aside0.mk hsame
 clear hsame
 go_enter Try.func7, Try.ntmps7
 go_upto_region 4 with (go_at_call 10; (with_reducible refine (new_ok 9 5 _ (by decide) (by decide) (by decide) (by decide) (by decide)).mono ?_); rintro e w3 ⟨g, rfl, hg, hc, hb⟩; have HGw := Aside0.mk (Nat.le_trans HB.out.size hg); have HC := Aside0.mk (show Cl g none rs0 [] w3 from hc); have n_HB := Aside0.mk (below_step HB.out hb); clear HB hg hc hb; have HB := n_HB; clear n_HB)
 go_upto_region 6 with (fail)
 go_upto_region 7 with (first | (go_at_call 26; (with_reducible refine (vitrinelaw22_small.calls k a1 s1 s2 s3 _ HSmall.out).mono ?_); rintro e w4 ⟨rfl, hb⟩; have n_HB := Aside0.mk (below_step HB.out hb); have n_HC := Aside0.mk (HC.out.below hb); clear HB HC hb ; have HB := n_HB; have HC := n_HC; clear n_HB n_HC ) | (go_at_call 25; (with_reducible refine (bands_Manifest.calls k s1 s2 s3 man em _ HMa.out).mono ?_); rintro e w5 ⟨rfl, hb⟩; have n_HB := Aside0.mk (below_step HB.out hb); have n_HC := Aside0.mk (HC.out.below hb); clear HB HC hb ; have HB := n_HB; have HC := n_HC; clear n_HB n_HC ))
 go_upto_region 9 with (first | (go_at_call 26; (with_reducible refine (vitrinelaw22_small.calls k a1 s1 s2 s3 _ HSmall.out).mono ?_); rintro e w4 ⟨rfl, hb⟩; have n_HB := Aside0.mk (below_step HB.out hb); have n_HC := Aside0.mk (HC.out.below hb); clear HB HC hb ; have HB := n_HB; have HC := n_HC; clear n_HB n_HC ) | (go_at_call 27; (with_reducible refine (bands_Cut.calls k s1 s2 s3 p ep _ HCu.out).mono ?_); rintro e w7 ⟨vp, rfl, hp_, hb⟩; obtain ⟨Ap, cp, rfl⟩ := Kd.R_slice hp_; have HP := Aside0.mk hp_; clear hp_; have n_HB := Aside0.mk (below_step HB.out hb); have n_HC := Aside0.mk (HC.out.below hb); clear HB HC hb ; have HB := n_HB; have HC := n_HC; clear n_HB n_HC ))
 obtain ⟨mm, hmm⟩ : ∃ x : ByteArray, x = (⟨#[]⟩ : ByteArray) := ⟨_, rfl⟩
 obtain ⟨pp, hpp⟩ : ∃ x : List ByteArray, x = [] := ⟨_, rfl⟩
 obtain ⟨pu, hpu⟩ : ∃ x : Bool, x = false := ⟨_, rfl⟩
 have HLl := Aside0.mk (show (rsW a0 mm pp pu).work.f7.length ≤ 1000000 from by rw [hpp]; show (0 : Nat) ≤ 1000000; omega)
 have h_ : Calls Try.prog 12 #[.pointer (some ⟨g, 0, none⟩), .string a0] w7 (PostG g none w7 ⟨9, 5, wrap64 (0 + 1), 1, false, m0, ⟨0, 0, 0, 0, a0, ⟨0, 0⟩, (⟨#[]⟩ : ByteArray), []⟩, 41⟩ (rsUp ⟨9, 5, wrap64 (0 + 1), 1, false, m0, ⟨0, 0, 0, 0, a0, ⟨0, 0⟩, (⟨#[]⟩ : ByteArray), []⟩, 41⟩ [] 5)) := get_ok k g none rs0 [] a0 w7 HC.out (Or.inr ⟨rfl, HNm.out⟩) (by decide)
 rw [wr01] at h_
 have HT : Aside0 (Calls Try.prog 12 #[.pointer (some ⟨g, 0, none⟩), .string a0] w7 (PostG g none w7 (rsW a0 mm pp pu) (rsL a0))) := ⟨by rw [hmm, hpp, hpu]; exact h_⟩
 clear h_ hmm hpp hpu
 go_upto_region 12 with (go_at_call 12; (with_reducible refine HT.out.mono ?_); rintro e w8 ⟨v, gm, rfl, hgm, hr, hc, hf⟩; have n_HB := Aside0.mk (Fr.below HB.out hf HGw.out (fun _ h_ => by cases h_)); have HR := Aside0.mk (show Kd.R k26 26 _ _ (fun _ => True) v (rsL a0) from hr); have n_HC := Aside0.mk hc; clear HB HC HT hr hc hf hgm; have HB := n_HB; have HC := n_HC; clear n_HB n_HC; obtain ⟨Al, cl, rfl⟩ := Kd.R_slice HR.out)
 have q4 := rsL_len a0
 have HPh := Aside0.mk (show (rsW a0 mm pp pu).ph = 1 ∨ (rsW a0 mm pp pu).ph = 2 from .inl rfl)
 have HNn := Aside0.mk (show 0 ≤ (rsW a0 mm pp pu).n ∧ (rsW a0 mm pp pu).n ≤ 15 from by show (0 : Int) ≤ 5 ∧ (5 : Int) ≤ 15; decide)
 go_wp2_with (first | (go_at_call 14; (with_reducible refine (resend_calls g gm (rsW a0 mm pp pu) [] _ HC.out HPh.out HNn.out HLl.out).mono ?_); rintro e w20 ⟨v7, rfl, hr, hb⟩; have HR2 := Aside0.mk (show Kd.R k26 26 _ _ (fun _ => True) v7 (rsL a0) from hr); have n_HB := Aside0.mk (below_step HB.out hb); have n_HC := Aside0.mk (HC.out.below hb); have n_HR := Aside0.mk (Kd.R_below HR.out hb); clear HB HC hb HR; have HB := n_HB; have HC := n_HC; have HR := n_HR; clear n_HB n_HC n_HR; clear hr; obtain ⟨A7, c7, rfl⟩ := Kd.R_slice HR2.out) | (go_at_call 15; (with_reducible refine (vitrinelaw22_same.calls k Al cl (rsL a0) A7 c7 (rsL a0) true _ (Kd.R_reads' HR.out).2.2 (Kd.R_reads' HR.out).2.1 (Kd.R_reads' HR2.out).2.2 (Kd.R_reads' HR2.out).2.1 HSame.out).mono ?_); rintro e w21 ⟨rfl, hb⟩; have n_HB := Aside0.mk (below_step HB.out hb); have n_HC := Aside0.mk (HC.out.below hb); have n_HR := Aside0.mk (Kd.R_below HR.out hb); clear HB HC hb HR; have HB := n_HB; have HC := n_HC; have HR := n_HR; clear n_HB n_HC n_HR; clear HR2) | (go_at_call 9; (with_reducible refine (awake_calls _).mono ?_); rintro e w30 ⟨rfl, hb⟩; have n_HB := Aside0.mk (below_step HB.out hb); clear HB hb; have HB := n_HB; clear n_HB))
 go_ret
 exact ⟨rfl, HB.out⟩
set_option maxHeartbeats 40000000 in
set_option maxRecDepth 100000 in
theorem resend_put (k : Nat) (a0 : ByteArray) (a1 : Int) (s1 s2 : Int) (s3 man : ByteArray) (em : Int) (p : List ByteArray) (ep : Int) (w : World) (hl : ¬ 1000 < a0.size) (hsm : vitrinelaw22_small.f k a1 = some (s1, s2, s3)) (hma : bands_Manifest.f k s1 s2 s3 = some (man, em)) (hcu : bands_Cut.f k s1 s2 s3 = some (p, ep)) (hp : 0 < a1) (hn : bands_Name.f k a0 = some 0) (j1 j2 : Int) (j3 : ByteArray) (hj : bands_Join.f k man p = some (j1, j2, j3, 0)) (hpl : p.length ≤ 1000000) (hsame : vitrinelaw22_same.f k (rsL a0) (rsL a0) = some true) : Calls Try.prog 7 #[.string a0, .int .i64 a1] w (Ret (.bool true) w) := by
 have q0 : decide ((1000 : Int) < (a0.size : Int)) = false := decide_eq_false (by omega)
 have q1 : decide (1000 < a0.size) = false := decide_eq_false hl
 have HB := Aside0.mk (Below.refl w.heap.size w)
 have q2 : decide (0 < a1) = true := decide_eq_true hp
 have HSmall := Aside0.mk hsm
 have HMa := Aside0.mk hma
 have HCu := Aside0.mk hcu
 have HNm := Aside0.mk hn
 clear hl hp hsm hma hcu hn
 have HSame := Aside0.mk hsame
 have HJ := Aside0.mk hj
 have HPl := Aside0.mk hpl
 clear hsame hj hpl
 go_enter Try.func7, Try.ntmps7
 go_upto_region 4 with (go_at_call 10; (with_reducible refine (new_ok 9 5 _ (by decide) (by decide) (by decide) (by decide) (by decide)).mono ?_); rintro e w3 ⟨g, rfl, hg, hc, hb⟩; have HGw := Aside0.mk (Nat.le_trans HB.out.size hg); have HC := Aside0.mk (show Cl g none rs0 [] w3 from hc); have n_HB := Aside0.mk (below_step HB.out hb); clear HB hg hc hb; have HB := n_HB; clear n_HB)
 go_upto_region 6 with (fail)
 go_upto_region 7 with (first | (go_at_call 26; (with_reducible refine (vitrinelaw22_small.calls k a1 s1 s2 s3 _ HSmall.out).mono ?_); rintro e w4 ⟨rfl, hb⟩; have n_HB := Aside0.mk (below_step HB.out hb); have n_HC := Aside0.mk (HC.out.below hb); clear HB HC hb ; have HB := n_HB; have HC := n_HC; clear n_HB n_HC ) | (go_at_call 25; (with_reducible refine (bands_Manifest.calls k s1 s2 s3 man em _ HMa.out).mono ?_); rintro e w5 ⟨rfl, hb⟩; have n_HB := Aside0.mk (below_step HB.out hb); have n_HC := Aside0.mk (HC.out.below hb); clear HB HC hb ; have HB := n_HB; have HC := n_HC; clear n_HB n_HC ))
 go_upto_region 9 with (first | (go_at_call 26; (with_reducible refine (vitrinelaw22_small.calls k a1 s1 s2 s3 _ HSmall.out).mono ?_); rintro e w4 ⟨rfl, hb⟩; have n_HB := Aside0.mk (below_step HB.out hb); have n_HC := Aside0.mk (HC.out.below hb); clear HB HC hb ; have HB := n_HB; have HC := n_HC; clear n_HB n_HC ) | (go_at_call 27; (with_reducible refine (bands_Cut.calls k s1 s2 s3 p ep _ HCu.out).mono ?_); rintro e w7 ⟨vp, rfl, hp_, hb⟩; obtain ⟨Ap, cp, rfl⟩ := Kd.R_slice hp_; have HP := Aside0.mk hp_; clear hp_; have n_HB := Aside0.mk (below_step HB.out hb); have n_HC := Aside0.mk (HC.out.below hb); clear HB HC hb ; have HB := n_HB; have HC := n_HC; clear n_HB n_HC ))
 have HLl := Aside0.mk (show (rsW a0 man p true).work.f7.length ≤ 1000000 from HPl.out)
 have h_ : Calls Try.prog 13 #[.pointer (some ⟨g, 0, none⟩), .string a0, .string man, .slice Ap p.length cp] w7 (PostG g none w7 ⟨9, 5, wrap64 (0 + 1), 1, true, m0, ⟨0, 0, 0, 0, a0, ⟨0, 0⟩, man, p⟩, 41⟩ (rsUp ⟨9, 5, wrap64 (0 + 1), 1, true, m0, ⟨0, 0, 0, 0, a0, ⟨0, 0⟩, man, p⟩, 41⟩ [] 5)) := put_ok k g none rs0 [] a0 man Ap cp p j1 j2 j3 0 w7 HC.out (Or.inr ⟨rfl, HNm.out⟩) (Kd.R_reads' HP.out).2.2 (Kd.R_reads' HP.out).2.1 HJ.out rfl (by decide) HPl.out
 rw [wr01] at h_
 have HT : Aside0 (Calls Try.prog 13 #[.pointer (some ⟨g, 0, none⟩), .string a0, .string man, .slice Ap p.length cp] w7 (PostG g none w7 (rsW a0 man p true) (rsL a0))) := ⟨h_⟩
 clear h_
 go_upto_region 12 with (go_at_call 13; (with_reducible refine HT.out.mono ?_); rintro e w8 ⟨v, gm, rfl, hgm, hr, hc, hf⟩; have n_HB := Aside0.mk (Fr.below HB.out hf HGw.out (fun _ h_ => by cases h_)); have HR := Aside0.mk (show Kd.R k26 26 _ _ (fun _ => True) v (rsL a0) from hr); have n_HC := Aside0.mk hc; clear HB HC HT hr hc hf hgm; have HB := n_HB; have HC := n_HC; clear n_HB n_HC; obtain ⟨Al, cl, rfl⟩ := Kd.R_slice HR.out)
 have q4 := rsL_len a0
 have HPh := Aside0.mk (show (rsW a0 man p true).ph = 1 ∨ (rsW a0 man p true).ph = 2 from .inl rfl)
 have HNn := Aside0.mk (show 0 ≤ (rsW a0 man p true).n ∧ (rsW a0 man p true).n ≤ 15 from by show (0 : Int) ≤ 5 ∧ (5 : Int) ≤ 15; decide)
 go_wp2_with (first | (go_at_call 14; (with_reducible refine (resend_calls g gm (rsW a0 man p true) [] _ HC.out HPh.out HNn.out HLl.out).mono ?_); rintro e w20 ⟨v7, rfl, hr, hb⟩; have HR2 := Aside0.mk (show Kd.R k26 26 _ _ (fun _ => True) v7 (rsL a0) from hr); have n_HB := Aside0.mk (below_step HB.out hb); have n_HC := Aside0.mk (HC.out.below hb); have n_HR := Aside0.mk (Kd.R_below HR.out hb); clear HB HC hb HR; have HB := n_HB; have HC := n_HC; have HR := n_HR; clear n_HB n_HC n_HR; clear hr; obtain ⟨A7, c7, rfl⟩ := Kd.R_slice HR2.out) | (go_at_call 15; (with_reducible refine (vitrinelaw22_same.calls k Al cl (rsL a0) A7 c7 (rsL a0) true _ (Kd.R_reads' HR.out).2.2 (Kd.R_reads' HR.out).2.1 (Kd.R_reads' HR2.out).2.2 (Kd.R_reads' HR2.out).2.1 HSame.out).mono ?_); rintro e w21 ⟨rfl, hb⟩; have n_HB := Aside0.mk (below_step HB.out hb); have n_HC := Aside0.mk (HC.out.below hb); have n_HR := Aside0.mk (Kd.R_below HR.out hb); clear HB HC hb HR; have HB := n_HB; have HC := n_HC; have HR := n_HR; clear n_HB n_HC n_HR; clear HR2) | (go_at_call 9; (with_reducible refine (awake_calls _).mono ?_); rintro e w30 ⟨rfl, hb⟩; have n_HB := Aside0.mk (below_step HB.out hb); clear HB hb; have HB := n_HB; clear n_HB))
 go_ret
 exact ⟨rfl, HB.out⟩
set_option maxHeartbeats 40000000 in
set_option maxRecDepth 100000 in
theorem resend_bad0 (k : Nat) (a0 : ByteArray) (a1 : Int) (s1 s2 : Int) (s3 man : ByteArray) (em : Int) (p : List ByteArray) (ep : Int) (w : World) (hl : ¬ 1000 < a0.size) (hsm : vitrinelaw22_small.f k a1 = some (s1, s2, s3)) (hma : bands_Manifest.f k s1 s2 s3 = some (man, em)) (hcu : bands_Cut.f k s1 s2 s3 = some (p, ep)) (hp : ¬ 0 < a1) (en : Int) (hn : bands_Name.f k a0 = some en) (hen : en ≠ 0) : Calls Try.prog 7 #[.string a0, .int .i64 a1] w (Ret (.bool true) w) := by
 have q0 : decide ((1000 : Int) < (a0.size : Int)) = false := decide_eq_false (by omega)
 have q1 : decide (1000 < a0.size) = false := decide_eq_false hl
 have HB := Aside0.mk (Below.refl w.heap.size w)
 have q2 : decide (0 < a1) = false := decide_eq_false hp
 have HSmall := Aside0.mk hsm
 have HMa := Aside0.mk hma
 have HCu := Aside0.mk hcu
 have HNm := Aside0.mk hn
 clear hl hp hsm hma hcu hn
 have q3 : (en != 0) = true := bne_iff_ne.mpr hen
 have HEn := Aside0.mk hen
 clear hen
 go_enter Try.func7, Try.ntmps7
 go_upto_region 4 with (go_at_call 10; (with_reducible refine (new_ok 9 5 _ (by decide) (by decide) (by decide) (by decide) (by decide)).mono ?_); rintro e w3 ⟨g, rfl, hg, hc, hb⟩; have HGw := Aside0.mk (Nat.le_trans HB.out.size hg); have HC := Aside0.mk (show Cl g none rs0 [] w3 from hc); have n_HB := Aside0.mk (below_step HB.out hb); clear HB hg hc hb; have HB := n_HB; clear n_HB)
 go_upto_region 6 with (fail)
 go_upto_region 7 with (first | (go_at_call 26; (with_reducible refine (vitrinelaw22_small.calls k a1 s1 s2 s3 _ HSmall.out).mono ?_); rintro e w4 ⟨rfl, hb⟩; have n_HB := Aside0.mk (below_step HB.out hb); have n_HC := Aside0.mk (HC.out.below hb); clear HB HC hb ; have HB := n_HB; have HC := n_HC; clear n_HB n_HC ) | (go_at_call 25; (with_reducible refine (bands_Manifest.calls k s1 s2 s3 man em _ HMa.out).mono ?_); rintro e w5 ⟨rfl, hb⟩; have n_HB := Aside0.mk (below_step HB.out hb); have n_HC := Aside0.mk (HC.out.below hb); clear HB HC hb ; have HB := n_HB; have HC := n_HC; clear n_HB n_HC ))
 go_upto_region 9 with (first | (go_at_call 26; (with_reducible refine (vitrinelaw22_small.calls k a1 s1 s2 s3 _ HSmall.out).mono ?_); rintro e w4 ⟨rfl, hb⟩; have n_HB := Aside0.mk (below_step HB.out hb); have n_HC := Aside0.mk (HC.out.below hb); clear HB HC hb ; have HB := n_HB; have HC := n_HC; clear n_HB n_HC ) | (go_at_call 27; (with_reducible refine (bands_Cut.calls k s1 s2 s3 p ep _ HCu.out).mono ?_); rintro e w7 ⟨vp, rfl, hp_, hb⟩; obtain ⟨Ap, cp, rfl⟩ := Kd.R_slice hp_; have HP := Aside0.mk hp_; clear hp_; have n_HB := Aside0.mk (below_step HB.out hb); have n_HC := Aside0.mk (HC.out.below hb); clear HB HC hb ; have HB := n_HB; have HC := n_HC; clear n_HB n_HC ))
 have HT : Aside0 (Calls Try.prog 12 #[.pointer (some ⟨g, 0, none⟩), .string a0] w7 (Ret (.tuple #[.slice none 0 0, .int .i64 en]) w7)) := ⟨get_no k g none rs0 [] a0 en w7 HC.out (Or.inr ⟨rfl, HNm.out⟩) HEn.out⟩
 go_upto_region 12 with (go_at_call 12; (with_reducible refine HT.out.mono ?_); rintro e w8 ⟨rfl, hb⟩; have n_HB := Aside0.mk (below_step HB.out hb); have n_HC := Aside0.mk (HC.out.below hb); clear HB HC hb ; have HB := n_HB; have HC := n_HC; clear n_HB n_HC ; clear HT)
 go_wp2_with (first | (go_at_call 29; (with_reducible refine (bands_Name.calls k a0 en _ HNm.out).mono ?_); rintro e w9 ⟨rfl, hd⟩; have hb := hd.below; clear hd; have n_HB := Aside0.mk (below_step HB.out hb); have n_HC := Aside0.mk (HC.out.below hb); clear HB HC hb ; have HB := n_HB; have HC := n_HC; clear n_HB n_HC ) | (go_at_call 14; (with_reducible refine (resend_idle g none rs0 [] _ HC.out rfl).mono ?_); rintro e w10 ⟨rfl, hb⟩; have n_HB := Aside0.mk (below_step HB.out hb); have n_HC := Aside0.mk (HC.out.below hb); clear HB HC hb ; have HB := n_HB; have HC := n_HC; clear n_HB n_HC ) | (go_at_call 9; (with_reducible refine (awake_calls _).mono ?_); rintro e w30 ⟨rfl, hb⟩; have n_HB := Aside0.mk (below_step HB.out hb); clear HB hb; have HB := n_HB; clear n_HB))
 go_ret
 exact ⟨rfl, HB.out⟩
set_option maxHeartbeats 40000000 in
set_option maxRecDepth 100000 in
theorem resend_bad1 (k : Nat) (a0 : ByteArray) (a1 : Int) (s1 s2 : Int) (s3 man : ByteArray) (em : Int) (p : List ByteArray) (ep : Int) (w : World) (hl : ¬ 1000 < a0.size) (hsm : vitrinelaw22_small.f k a1 = some (s1, s2, s3)) (hma : bands_Manifest.f k s1 s2 s3 = some (man, em)) (hcu : bands_Cut.f k s1 s2 s3 = some (p, ep)) (hp : 0 < a1) (en : Int) (hn : bands_Name.f k a0 = some en) (hen : en ≠ 0) : Calls Try.prog 7 #[.string a0, .int .i64 a1] w (Ret (.bool true) w) := by
 have q0 : decide ((1000 : Int) < (a0.size : Int)) = false := decide_eq_false (by omega)
 have q1 : decide (1000 < a0.size) = false := decide_eq_false hl
 have HB := Aside0.mk (Below.refl w.heap.size w)
 have q2 : decide (0 < a1) = true := decide_eq_true hp
 have HSmall := Aside0.mk hsm
 have HMa := Aside0.mk hma
 have HCu := Aside0.mk hcu
 have HNm := Aside0.mk hn
 clear hl hp hsm hma hcu hn
 have q3 : (en != 0) = true := bne_iff_ne.mpr hen
 have HEn := Aside0.mk hen
 clear hen
 go_enter Try.func7, Try.ntmps7
 go_upto_region 4 with (go_at_call 10; (with_reducible refine (new_ok 9 5 _ (by decide) (by decide) (by decide) (by decide) (by decide)).mono ?_); rintro e w3 ⟨g, rfl, hg, hc, hb⟩; have HGw := Aside0.mk (Nat.le_trans HB.out.size hg); have HC := Aside0.mk (show Cl g none rs0 [] w3 from hc); have n_HB := Aside0.mk (below_step HB.out hb); clear HB hg hc hb; have HB := n_HB; clear n_HB)
 go_upto_region 6 with (fail)
 go_upto_region 7 with (first | (go_at_call 26; (with_reducible refine (vitrinelaw22_small.calls k a1 s1 s2 s3 _ HSmall.out).mono ?_); rintro e w4 ⟨rfl, hb⟩; have n_HB := Aside0.mk (below_step HB.out hb); have n_HC := Aside0.mk (HC.out.below hb); clear HB HC hb ; have HB := n_HB; have HC := n_HC; clear n_HB n_HC ) | (go_at_call 25; (with_reducible refine (bands_Manifest.calls k s1 s2 s3 man em _ HMa.out).mono ?_); rintro e w5 ⟨rfl, hb⟩; have n_HB := Aside0.mk (below_step HB.out hb); have n_HC := Aside0.mk (HC.out.below hb); clear HB HC hb ; have HB := n_HB; have HC := n_HC; clear n_HB n_HC ))
 go_upto_region 9 with (first | (go_at_call 26; (with_reducible refine (vitrinelaw22_small.calls k a1 s1 s2 s3 _ HSmall.out).mono ?_); rintro e w4 ⟨rfl, hb⟩; have n_HB := Aside0.mk (below_step HB.out hb); have n_HC := Aside0.mk (HC.out.below hb); clear HB HC hb ; have HB := n_HB; have HC := n_HC; clear n_HB n_HC ) | (go_at_call 27; (with_reducible refine (bands_Cut.calls k s1 s2 s3 p ep _ HCu.out).mono ?_); rintro e w7 ⟨vp, rfl, hp_, hb⟩; obtain ⟨Ap, cp, rfl⟩ := Kd.R_slice hp_; have HP := Aside0.mk hp_; clear hp_; have n_HB := Aside0.mk (below_step HB.out hb); have n_HC := Aside0.mk (HC.out.below hb); clear HB HC hb ; have HB := n_HB; have HC := n_HC; clear n_HB n_HC ))
 have HT : Aside0 (Calls Try.prog 13 #[.pointer (some ⟨g, 0, none⟩), .string a0, .string man, .slice Ap p.length cp] w7 (Ret (.tuple #[.slice none 0 0, .int .i64 en]) w7)) := ⟨put_no k g none rs0 [] a0 man Ap cp p en w7 HC.out (Or.inr ⟨rfl, HNm.out⟩) HEn.out⟩
 go_upto_region 12 with (go_at_call 13; (with_reducible refine HT.out.mono ?_); rintro e w8 ⟨rfl, hb⟩; have n_HB := Aside0.mk (below_step HB.out hb); have n_HC := Aside0.mk (HC.out.below hb); clear HB HC hb ; have HB := n_HB; have HC := n_HC; clear n_HB n_HC ; clear HT)
 go_wp2_with (first | (go_at_call 29; (with_reducible refine (bands_Name.calls k a0 en _ HNm.out).mono ?_); rintro e w9 ⟨rfl, hd⟩; have hb := hd.below; clear hd; have n_HB := Aside0.mk (below_step HB.out hb); have n_HC := Aside0.mk (HC.out.below hb); clear HB HC hb ; have HB := n_HB; have HC := n_HC; clear n_HB n_HC ) | (go_at_call 14; (with_reducible refine (resend_idle g none rs0 [] _ HC.out rfl).mono ?_); rintro e w10 ⟨rfl, hb⟩; have n_HB := Aside0.mk (below_step HB.out hb); have n_HC := Aside0.mk (HC.out.below hb); clear HB HC hb ; have HB := n_HB; have HC := n_HC; clear n_HB n_HC ) | (go_at_call 9; (with_reducible refine (awake_calls _).mono ?_); rintro e w30 ⟨rfl, hb⟩; have n_HB := Aside0.mk (below_step HB.out hb); clear HB hb; have HB := n_HB; clear n_HB))
 go_ret
 exact ⟨rfl, HB.out⟩
theorem vitrinelaw22_ClientResend.calls (k : Nat) (a0 : ByteArray) (a1 : Int) (r : Bool) (w : World) (h : vitrinelaw22_ClientResend.f k a0 a1 = some r) :
  Calls Try.prog 7 #[.string a0, .int .i64 a1] w fun e w' => e = .returned (.bool r) ∧ Below w.heap.size w w' := by
 unfold vitrinelaw22_ClientResend.f at h
 by_cases hl : 1000 < a0.size
 ·rw [if_pos hl] at h; obtain rfl := Option.some.inj h; exact resend_long a0 a1 w hl
 rw [if_neg hl] at h
 obtain ⟨⟨s1, s2, s3⟩, hsm, h1⟩ := Option.bind_eq_some_iff.1 h
 obtain ⟨⟨man, em⟩, hma, h2⟩ := Option.bind_eq_some_iff.1 h1
 obtain ⟨⟨p, ep⟩, hcu, h3⟩ := Option.bind_eq_some_iff.1 h2
 obtain ⟨en, hn, h4⟩ := Option.bind_eq_some_iff.1 h3
 clear h h1 h2 h3
 have sm : ∀ x, rs_same k a0 = some x → x = true ∧ vitrinelaw22_same.f k (rsL a0) (rsL a0) = some true := by
  intro x hx
  obtain ⟨b, hb, h5⟩ := Option.bind_eq_some_iff.1 hx
  cases b
  ·cases h5
  ·exact ⟨(Option.some.inj (show some true = some x from h5)).symm, hb⟩
 by_cases he : en = 0
 ·rw [if_pos he] at h4; subst he
  by_cases hp : 0 < a1
  ·rw [if_pos hp] at h4
   obtain ⟨⟨j1, j2, j3, ej⟩, hj, h5⟩ := Option.bind_eq_some_iff.1 h4
   by_cases hc : ej = 0 ∧ p.length ≤ 1000000
   ·rw [if_pos hc] at h5
    obtain ⟨rfl, hs⟩ := sm r h5
    obtain ⟨rfl, hc2⟩ := hc
    exact resend_put k a0 a1 s1 s2 s3 man em p ep w hl hsm hma hcu hp hn j1 j2 j3 hj hc2 hs
   ·rw [if_neg hc] at h5; cases h5
  ·rw [if_neg hp] at h4
   obtain ⟨rfl, hs⟩ := sm r h4
   exact resend_get k a0 a1 s1 s2 s3 man em p ep w hl hsm hma hcu hp hn hs
 ·rw [if_neg he] at h4
  obtain rfl := Option.some.inj h4
  by_cases hp : 0 < a1
  ·exact resend_bad1 k a0 a1 s1 s2 s3 man em p ep w hl hsm hma hcu hp en hn he
  ·exact resend_bad0 k a0 a1 s1 s2 s3 man em p ep w hl hsm hma hcu hp en hn he

end Go.Proofs.Ytdbiokmlgniobaa.PL22
