/- Printed for this claim by a program of this session over the kit's print program: the Go functions as Lean functions, and proofs that the calls come to these answers. No conditions. -/
import Derived.Test.YtbpnkgidlmjkkaaZV
import Derived.LoopTactic
import Derived.StillTailTactics
import Derived.Test.YtbpnkgidlmjkkaaZPL08x0
import Derived.Test.YtbpnkgidlmjkkaaZPL08x4
import Derived.Test.YtbpnkgidlmjkkaaZPL08x7
import Derived.Test.YtbpnkgidlmjkkaaZPL08x14
import Derived.Test.YtbpnkgidlmjkkaaZPL08x15
namespace Go.Proofs.Ytbpnkgidlmjkkaa.PL08
open Go.RowKit Go.Proofs.YtbpnkgidlmjkkaaW.PrintWords Go.Proofs.YtbpnkgidlmjkkaaW.PrintLast Go.Proofs.YtbpnkgidlmjkkaaW.PrintMore
attribute [local go_sem] max2_int min2_int max_two min_two max_three min_three max_four min_four   -- for this text's walks alone
set_option linter.unusedVariables false
set_option linter.unusedSimpArgs false

/-! ### vitrinelaw08_awake: function 13 -/
open Go.Proofs.YtbpnkgidlmjkkaaV
def awH : ByteArray := ⟨#[0, 0, 0, 1, 0, 0, 0, 1, 8, 0, 0, 0, 0]⟩
theorem aw_lay : head_Lay.f 20 1 1 8 0 0 = some ((⟨#[73, 72, 68, 82]⟩ : ByteArray), awH) := by kernel_rfl
theorem aw_r0 : head_Read.f 20 [(⟨(⟨#[73, 72, 68, 82]⟩ : ByteArray), awH⟩ : S30), (⟨(⟨#[73, 68, 65, 84]⟩ : ByteArray), (⟨#[120]⟩ : ByteArray)⟩ : S30), (⟨(⟨#[73, 68, 65, 84]⟩ : ByteArray), (⟨#[121]⟩ : ByteArray)⟩ : S30), (⟨(⟨#[73, 69, 78, 68]⟩ : ByteArray), (⟨#[]⟩ : ByteArray)⟩ : S30)] = some (1, 1, 8, 0, 0, (⟨#[]⟩ : ByteArray), (⟨#[]⟩ : ByteArray), false, (⟨#[120, 121]⟩ : ByteArray), 0) := by kernel_rfl
theorem aw_r1 : head_Read.f 20 [(⟨(⟨#[73, 72, 68, 82]⟩ : ByteArray), awH⟩ : S30), (⟨(⟨#[73, 69, 78, 68]⟩ : ByteArray), (⟨#[]⟩ : ByteArray)⟩ : S30)] = some (0, 0, 0, 0, 0, (⟨#[]⟩ : ByteArray), (⟨#[]⟩ : ByteArray), false, (⟨#[]⟩ : ByteArray), 23) := by kernel_rfl
theorem aw_r2 : head_Read.f 20 [(⟨(⟨#[73, 72, 68, 82]⟩ : ByteArray), awH⟩ : S30), (⟨(⟨#[73, 68, 65, 84]⟩ : ByteArray), (⟨#[120]⟩ : ByteArray)⟩ : S30), (⟨(⟨#[116, 69, 88, 116]⟩ : ByteArray), (⟨#[]⟩ : ByteArray)⟩ : S30), (⟨(⟨#[73, 68, 65, 84]⟩ : ByteArray), (⟨#[121]⟩ : ByteArray)⟩ : S30), (⟨(⟨#[73, 69, 78, 68]⟩ : ByteArray), (⟨#[]⟩ : ByteArray)⟩ : S30)] = some (0, 0, 0, 0, 0, (⟨#[]⟩ : ByteArray), (⟨#[]⟩ : ByteArray), false, (⟨#[]⟩ : ByteArray), 23) := by kernel_rfl
theorem aw_r3 : head_Read.f 20 [(⟨(⟨#[73, 72, 68, 82]⟩ : ByteArray), awH⟩ : S30), (⟨(⟨#[65, 66, 67, 68]⟩ : ByteArray), (⟨#[]⟩ : ByteArray)⟩ : S30), (⟨(⟨#[73, 68, 65, 84]⟩ : ByteArray), (⟨#[120]⟩ : ByteArray)⟩ : S30), (⟨(⟨#[73, 69, 78, 68]⟩ : ByteArray), (⟨#[]⟩ : ByteArray)⟩ : S30)] = some (0, 0, 0, 0, 0, (⟨#[]⟩ : ByteArray), (⟨#[]⟩ : ByteArray), false, (⟨#[]⟩ : ByteArray), 27) := by kernel_rfl
theorem aw_a : head_Right.f 20 1 1 8 1 0 = some 24 := by kernel_rfl
theorem aw_b : head_Right.f 20 1025 1 8 0 0 = some 5 := by kernel_rfl
def vitrinelaw08_awake.T2 : Bool × List (List Nat × List Nat) := (true, [([], []), ([], []), ([1], []), ([2], []), ([0, 1, 2, 3], [0, 1, 2, 3]), ([4, 3], [4]), ([5], [5]), ([6], [6]), ([6], [6]), ([6], [6]), ([], []), ([10, 7, 5, 0, 1, 2, 3, 4, 5, 6, 7, 10], [7, 10]), ([8, 11, 0, 1, 2, 3, 4, 5, 6, 7, 8, 10, 11], [8]), ([9, 12, 0, 1, 2, 3, 4, 5, 6, 7, 8, 9, 10, 11, 12], [9])])
def vitrinelaw08_awake.B2 : List Nat := [0, 0, 2, 6, 15, 31, 63, 127, 127, 127, 0, 1279, 3583, 8191]
theorem vitrinelaw08_awake.tab2 : rtab .any (opsOf Try.f13 2) = vitrinelaw08_awake.T2 := by kernel_rfl
theorem vitrinelaw08_awake.bits2 : waitsOk vitrinelaw08_awake.T2.2 vitrinelaw08_awake.B2 = true := by kernel_rfl
def vitrinelaw08_awake.T3 : Bool × List (List Nat × List Nat) := (true, [([], []), ([], []), ([0, 1], [0, 1]), ([2, 1], [2]), ([3], [3]), ([4], [4]), ([4], [4]), ([4], [4]), ([], []), ([8, 5, 3, 0, 1, 2, 3, 4, 5, 8], [5, 8]), ([6, 9, 0, 1, 2, 3, 4, 5, 6, 8, 9], [6]), ([7, 10, 0, 1, 2, 3, 4, 5, 6, 7, 8, 9, 10], [7])])
def vitrinelaw08_awake.B3 : List Nat := [0, 0, 3, 7, 15, 31, 31, 31, 0, 319, 895, 2047]
theorem vitrinelaw08_awake.tab3 : rtab .any (opsOf Try.f13 3) = vitrinelaw08_awake.T3 := by kernel_rfl
theorem vitrinelaw08_awake.bits3 : waitsOk vitrinelaw08_awake.T3.2 vitrinelaw08_awake.B3 = true := by kernel_rfl
def vitrinelaw08_awake.T4 : Bool × List (List Nat × List Nat) := (true, [([], []), ([], []), ([], []), ([1], []), ([3], []), ([0, 1, 2, 3, 4], [0, 1, 2, 3, 4]), ([5, 4], [5]), ([6], [6]), ([7], [7]), ([7], [7]), ([7], [7]), ([], []), ([11, 8, 6, 0, 1, 2, 3, 4, 5, 6, 7, 8, 11], [8, 11]), ([9, 12, 0, 1, 2, 3, 4, 5, 6, 7, 8, 9, 11, 12], [9]), ([10, 13, 0, 1, 2, 3, 4, 5, 6, 7, 8, 9, 10, 11, 12, 13], [10])])
def vitrinelaw08_awake.B4 : List Nat := [0, 0, 0, 2, 10, 31, 63, 127, 255, 255, 255, 0, 2559, 7167, 16383]
theorem vitrinelaw08_awake.tab4 : rtab .any (opsOf Try.f13 4) = vitrinelaw08_awake.T4 := by kernel_rfl
theorem vitrinelaw08_awake.bits4 : waitsOk vitrinelaw08_awake.T4.2 vitrinelaw08_awake.B4 = true := by kernel_rfl
def vitrinelaw08_awake.T5 : Bool × List (List Nat × List Nat) := (true, [([], []), ([], []), ([], []), ([2], []), ([0, 1, 2, 3], [0, 1, 2, 3]), ([4, 3], [4]), ([5], [5]), ([6], [6]), ([6], [6]), ([6], [6]), ([], []), ([10, 7, 5, 0, 1, 2, 3, 4, 5, 6, 7, 10], [7, 10]), ([8, 11, 0, 1, 2, 3, 4, 5, 6, 7, 8, 10, 11], [8]), ([9, 12, 0, 1, 2, 3, 4, 5, 6, 7, 8, 9, 10, 11, 12], [9])])
def vitrinelaw08_awake.B5 : List Nat := [0, 0, 0, 4, 15, 31, 63, 127, 127, 127, 0, 1279, 3583, 8191]
theorem vitrinelaw08_awake.tab5 : rtab .any (opsOf Try.f13 5) = vitrinelaw08_awake.T5 := by kernel_rfl
theorem vitrinelaw08_awake.bits5 : waitsOk vitrinelaw08_awake.T5.2 vitrinelaw08_awake.B5 = true := by kernel_rfl
def vitrinelaw08_awake.T6 : Bool × List (List Nat × List Nat) := (true, [([], []), ([0], [0]), ([1], [1]), ([2], [2]), ([2, 2], [2]), ([4, 2], [2, 4]), ([3, 5, 2], [2, 3, 5]), ([2, 6], [2, 6]), ([7, 4], [7]), ([8], [8]), ([9, 8], [8, 9]), ([8, 10], [8, 10]), ([11, 8], [11]), ([12], [12]), ([13, 12], [12, 13]), ([12, 14], [12, 14]), ([15, 12], [15]), ([16], [16]), ([17, 16], [16, 17]), ([16, 18], [16, 18]), ([19, 16], [19]), ([20], [20]), ([21, 20], [20, 21]), ([20, 22], [20, 22]), ([23, 20], [23]), ([24], [24]), ([25, 24, 24], [24, 25]), ([26, 24], [24, 26]), ([24, 27], [24, 27]), ([28, 26], [28]), ([29], [29]), ([30, 29, 29], [29, 30]), ([31, 29], [29, 31]), ([29, 32], [29, 32]), ([33, 31, 0, 1, 2, 3, 4, 5, 6, 7, 8, 9, 10, 11, 12, 13, 14, 15, 16, 17, 18, 19, 20, 21, 22, 23, 24, 25, 26, 27, 28, 29, 30, 31, 32, 33], [33])])
def vitrinelaw08_awake.B6 : List Nat := [0, 1, 3, 7, 7, 23, 63, 127, 255, 511, 1023, 2047, 4095, 8191, 16383, 32767, 65535, 131071, 262143, 524287, 1048575, 2097151, 4194303, 8388607, 16777215, 33554431, 67108863, 134217727, 268435455, 536870911, 1073741823, 2147483647, 4294967295, 8589934591, 17179869183]
theorem vitrinelaw08_awake.tab6 : rtab .any (opsOf Try.f13 6) = vitrinelaw08_awake.T6 := by kernel_rfl
theorem vitrinelaw08_awake.bits6 : waitsOk vitrinelaw08_awake.T6.2 vitrinelaw08_awake.B6 = true := by kernel_rfl
def vitrinelaw08_awake.f : Option Bool := some true
set_option maxHeartbeats 40000000 in
set_option maxRecDepth 100000 in
theorem vitrinelaw08_awake.calls  (r : Bool) (w : World) (h : vitrinelaw08_awake.f  = some r) :
    Calls Try.prog 13 #[] w fun e w' => e = .returned (.bool r) ∧ Below w.heap.size w w' := by
  obtain rfl := Option.some.inj h
  clear h
  have HS := Aside0.mk (Sv.new w)
  go_enter Try.func13, Try.ntmps13
  go_wp2_with (first | (go_at_call 25; (with_reducible refine (vitrinelaw08_grey.calls _ _ _ _ _ _ rfl).mono ?_); rintro e w1 ⟨rfl, hb⟩; have n0_ := Aside0.mk (HS.out.step hb); clear HS hb; have HS := n0_; clear n0_) | (go_at_call 14; (with_reducible refine (head_Lay.calls 20 1 1 8 0 0 _ _ _ aw_lay).mono ?_); rintro e w2 ⟨rfl, hb⟩; have n0_ := Aside0.mk (HS.out.step hb); clear HS hb; have HS := n0_; clear n0_) | ((with_reducible refine gate_dst (N := 1) rfl ?_); refine box_event ?hg (N := 1) ?hd (cs := #[.string (⟨#[]⟩ : ByteArray), .string (⟨#[]⟩ : ByteArray)]) (t := 30) ?hr ?_; (case hd => rfl); (case hg => rfl); (case hr => first | (go_simp; done) | (go_simp; rfl)); intro gc hg w3 hbox hb; have n0_ := Aside0.mk (HS.out.box hb hg hbox); clear HS hb hg hbox; have HS := n0_; clear n0_; have y0 := (HS.out.cell 0 rfl 0).trans rfl; have y1 := (HS.out.cell 0 rfl 1).trans rfl; have k0 := HS.out.fz 0 rfl 0; have k1 := HS.out.fz 0 rfl 1))
  have n0_ : Aside0 (Sv w [(gc, #[.string (⟨#[73, 72, 68, 82]⟩ : ByteArray), .string awH], 30)] ((World.setCell w3 ⟨gc, 0, none⟩ (.string (⟨#[73, 72, 68, 82]⟩ : ByteArray))).setCell ⟨gc, 1, none⟩ (.string awH))) := ⟨((HS.out.set 0 rfl 0 (.string (⟨#[73, 72, 68, 82]⟩ : ByteArray))).set 0 rfl 1 (.string awH))⟩
  clear HS y0 y1 k0 k1
  have HS := n0_
  clear n0_
  generalize ((World.setCell w3 ⟨gc, 0, none⟩ (.string (⟨#[73, 72, 68, 82]⟩ : ByteArray))).setCell ⟨gc, 1, none⟩ (.string awH)) = w4 at HS ⊢
  have n0_ := Aside0.mk HS.out.drew
  clear HS
  have HS := n0_
  clear n0_
  refine start_ (n := 14) (S := fun w' => w'.cell? ⟨gc, 0, none⟩ = some (.string (⟨#[73, 72, 68, 82]⟩ : ByteArray)) ∧ w'.cell? ⟨gc, 1, none⟩ = some (.string awH)) (ds := []) #[false, false, false, false, false, false, false, false, false, false, false, false, false, false] (by kernel_rfl) rfl rfl ⟨(HS.out.cell 0 rfl 0).trans rfl, (HS.out.cell 0 rfl 1).trans rfl⟩ (fun hHeld => ?_)
  refine with_tabW vitrinelaw08_awake.tab2 vitrinelaw08_awake.bits2 (fun HT_ HW_ => ?_)
  generalize World.drew _ = w1 at HS hHeld ⊢
  refine take_ (i := 0) (N := some 17) (v := ?_) (a' := ?_) #[true, false, false, false, false, false, false, false, false, false, false, false, false, false] rfl rfl (take_ofW HT_.out HW_.out (by kernel_rfl)) (fun _ _ _ h => h) (Or.inl ⟨by rfl, ?_⟩) hHeld ?_ ?_
  rotate_left
  · rintro w' ⟨s0, s1⟩
    go_simp
    with_reducible rfl
  rotate_left
  · simp only [Act.put, List.setIfInBounds_toArray, List.set_cons_zero, List.set_cons_succ, i64_w, i32_w]
    rfl
  refine join_ (σ := Value × Nat) 3 #[true, true, true, true, true, true, true, true, true, true, true, false, false, false] (fun s_ => [(18, .agg #[.string (⟨#[73, 68, 65, 84]⟩ : ByteArray), .string (⟨#[120]⟩ : ByteArray)]), (19, .agg #[.string (⟨#[73, 68, 65, 84]⟩ : ByteArray), .string (⟨#[121]⟩ : ByteArray)]), (20, .agg #[.string (⟨#[73, 69, 78, 68]⟩ : ByteArray), .string (⟨#[]⟩ : ByteArray)]), (21, s_.1), (22, .tuple #[.agg #[.int .i64 1, .int .i64 1, .int .i64 8, .int .i64 0, .int .i64 0, .string (⟨#[]⟩ : ByteArray), .string (⟨#[]⟩ : ByteArray), .bool false], .string (⟨#[120, 121]⟩ : ByteArray), .int .i64 0]), (2, .pointer (some ⟨s_.2, 0, none⟩)), (16, .tuple #[.agg #[.int .i64 1, .int .i64 1, .int .i64 8, .int .i64 0, .int .i64 0, .string (⟨#[]⟩ : ByteArray), .string (⟨#[]⟩ : ByteArray), .bool false], .string (⟨#[120, 121]⟩ : ByteArray), .int .i64 0]), (23, .agg #[.int .i64 1, .int .i64 1, .int .i64 8, .int .i64 0, .int .i64 0, .string (⟨#[]⟩ : ByteArray), .string (⟨#[]⟩ : ByteArray), .bool false]), (24, .string (⟨#[120, 121]⟩ : ByteArray)), (25, .int .i64 0)]) (fun s_ w' => (w'.cell? ⟨gc, 0, none⟩ = some (.string (⟨#[73, 72, 68, 82]⟩ : ByteArray)) ∧ w'.cell? ⟨gc, 1, none⟩ = some (.string awH)) ∧ Sv w [(s_.2, #[.int .i64 0, .int .i64 0, .int .i64 0, .int .i64 0, .int .i64 0, .string (⟨#[]⟩ : ByteArray), .string (⟨#[]⟩ : ByteArray), .bool false], 36), (gc, #[.string (⟨#[73, 72, 68, 82]⟩ : ByteArray), .string awH], 30)] w') ?_ ?_
  rotate_left
  · intro hJ
    refine join_ (σ := Value × Nat) 7 #[true, true, true, true, true, true, false, false, false, false, true, false, false, false] (fun s_ => [(18, .agg #[.string (⟨#[73, 68, 65, 84]⟩ : ByteArray), .string (⟨#[120]⟩ : ByteArray)]), (19, .agg #[.string (⟨#[73, 68, 65, 84]⟩ : ByteArray), .string (⟨#[121]⟩ : ByteArray)]), (20, .agg #[.string (⟨#[73, 69, 78, 68]⟩ : ByteArray), .string (⟨#[]⟩ : ByteArray)]), (21, s_.1), (22, .tuple #[.agg #[.int .i64 1, .int .i64 1, .int .i64 8, .int .i64 0, .int .i64 0, .string (⟨#[]⟩ : ByteArray), .string (⟨#[]⟩ : ByteArray), .bool false], .string (⟨#[120, 121]⟩ : ByteArray), .int .i64 0]), (2, .pointer (some ⟨s_.2, 0, none⟩))]) (fun s_ w' => (w'.cell? ⟨gc, 0, none⟩ = some (.string (⟨#[73, 72, 68, 82]⟩ : ByteArray)) ∧ w'.cell? ⟨gc, 1, none⟩ = some (.string awH)) ∧ Sv w [(s_.2, #[.int .i64 0, .int .i64 0, .int .i64 0, .int .i64 0, .int .i64 0, .string (⟨#[]⟩ : ByteArray), .string (⟨#[]⟩ : ByteArray), .bool false], 36), (gc, #[.string (⟨#[73, 72, 68, 82]⟩ : ByteArray), .string awH], 30)] w') ?_ ?_
    rotate_left
    · intro hK5
      refine two_ (i := 1) (j := 10) (Ni := some 18) (Nj := some 2) #[true, true, false, false, false, false, false, false, false, false, false, false, false, false] #[true, false, false, false, false, false, false, false, false, false, true, false, false, false] rfl rfl rfl rfl (two_of HT_.out (by kernel_rfl)) (by decide) (by decide) (fun K hK => ?_) (fun K hK => ?_)
      · skip
        refine goes_ Try.func19 (by kernel_rfl) rfl #[.string (⟨#[120]⟩ : ByteArray)] (by rfl) rfl rfl (by (try simp only [List.map_toArray, List.map_cons, List.map_nil]); first | done | rfl) ?_
        with_reducible refine (vitrinelaw08_dat.calls (⟨#[120]⟩ : ByteArray) _ _ _ rfl).mono ?_
        rintro e w2 ⟨rfl, hb⟩
        refine ⟨_, rfl, ?_⟩
        have n0_ := Aside0.mk (HS.out.step hb)
        clear HS hb
        have HS := n0_
        clear n0_
        refine hK.out _ _ ⟨(HS.out.cell 0 rfl 0).trans rfl, (HS.out.cell 0 rfl 1).trans rfl⟩ (fun hHeld => ?_)
        clear hK K
        refine norm_ (a' := ?_) ?_ ?_
        rotate_left
        · show Act.put _ (some 18) _ = _
          simp only [Act.put, List.setIfInBounds_toArray, List.set_cons_zero, List.set_cons_succ, i64_w, i32_w]
          rfl
        refine two_ (i := 2) (j := 10) (Ni := some 19) (Nj := some 2) #[true, true, true, false, false, false, false, false, false, false, false, false, false, false] #[true, true, false, false, false, false, false, false, false, false, true, false, false, false] rfl rfl rfl rfl (two_of HT_.out (by kernel_rfl)) (by decide) (by decide) (fun K hK => ?_) (fun K hK => ?_)
        · skip
          refine goes_ Try.func19 (by kernel_rfl) rfl #[.string (⟨#[121]⟩ : ByteArray)] (by rfl) rfl rfl (by (try simp only [List.map_toArray, List.map_cons, List.map_nil]); first | done | rfl) ?_
          with_reducible refine (vitrinelaw08_dat.calls (⟨#[121]⟩ : ByteArray) _ _ _ rfl).mono ?_
          rintro e w3 ⟨rfl, hb⟩
          refine ⟨_, rfl, ?_⟩
          have n0_ := Aside0.mk (HS.out.step hb)
          clear HS hb
          have HS := n0_
          clear n0_
          refine hK.out _ _ ⟨(HS.out.cell 0 rfl 0).trans rfl, (HS.out.cell 0 rfl 1).trans rfl⟩ (fun hHeld => ?_)
          clear hK K
          refine norm_ (a' := ?_) ?_ ?_
          rotate_left
          · show Act.put _ (some 19) _ = _
            simp only [Act.put, List.setIfInBounds_toArray, List.set_cons_zero, List.set_cons_succ, i64_w, i32_w]
            rfl
          refine two_ (i := 3) (j := 10) (Ni := some 20) (Nj := some 2) #[true, true, true, true, false, false, false, false, false, false, false, false, false, false] #[true, true, true, false, false, false, false, false, false, false, true, false, false, false] rfl rfl rfl rfl (two_of HT_.out (by kernel_rfl)) (by decide) (by decide) (fun K hK => ?_) (fun K hK => ?_)
          · skip
            refine goes_ Try.func20 (by kernel_rfl) rfl #[] (by rfl) rfl rfl (by (try simp only [List.map_toArray, List.map_cons, List.map_nil]); first | done | rfl) ?_
            with_reducible refine (vitrinelaw08_ends.calls _ _ _ rfl).mono ?_
            rintro e w4 ⟨rfl, hb⟩
            refine ⟨_, rfl, ?_⟩
            have n0_ := Aside0.mk (HS.out.step hb)
            clear HS hb
            have HS := n0_
            clear n0_
            refine hK.out _ _ ⟨(HS.out.cell 0 rfl 0).trans rfl, (HS.out.cell 0 rfl 1).trans rfl⟩ (fun hHeld => ?_)
            clear hK K
            refine norm_ (a' := ?_) ?_ ?_
            rotate_left
            · show Act.put _ (some 20) _ = _
              simp only [Act.put, List.setIfInBounds_toArray, List.set_cons_zero, List.set_cons_succ, i64_w, i32_w]
              rfl
            refine two_ (i := 4) (j := 10) (Ni := some 21) (Nj := some 2) #[true, true, true, true, true, false, false, false, false, false, false, false, false, false] #[true, true, true, true, false, false, false, false, false, false, true, false, false, false] rfl rfl rfl rfl (two_of HT_.out (by kernel_rfl)) (by decide) (by decide) (fun K hK => ?_) (fun K hK => ?_)
            · skip
              refine Kd.R_lit_step k30 _ 30 ?hg (N := 21) ?hd (xs := [(⟨(⟨#[73, 72, 68, 82]⟩ : ByteArray), awH⟩ : S30), (⟨(⟨#[73, 68, 65, 84]⟩ : ByteArray), (⟨#[120]⟩ : ByteArray)⟩ : S30), (⟨(⟨#[73, 68, 65, 84]⟩ : ByteArray), (⟨#[121]⟩ : ByteArray)⟩ : S30), (⟨(⟨#[73, 69, 78, 68]⟩ : ByteArray), (⟨#[]⟩ : ByteArray)⟩ : S30)]) (inner := [.string (⟨#[73, 72, 68, 82]⟩ : ByteArray), .string awH, .string (⟨#[73, 68, 65, 84]⟩ : ByteArray), .string (⟨#[120]⟩ : ByteArray), .string (⟨#[73, 68, 65, 84]⟩ : ByteArray), .string (⟨#[121]⟩ : ByteArray), .string (⟨#[73, 69, 78, 68]⟩ : ByteArray), .string (⟨#[]⟩ : ByteArray)]) (ok := fun _ => True) (okp := fun _ => True) ?hr ?hp (fun _ hk => hk) trivial (Below.refl _ _) (Nat.le_refl _) (by simp) ?_; (case hd => rfl); (case hg => rfl); (case hr => first | (go_simp; done) | (go_simp; rfl)); (case hp => exact (Reps.c2 (k30_mkM _ _ _ (⟨(⟨#[73, 72, 68, 82]⟩ : ByteArray), awH⟩ : S30)) (Reps.c2 (k30_mkM _ _ _ (⟨(⟨#[73, 68, 65, 84]⟩ : ByteArray), (⟨#[120]⟩ : ByteArray)⟩ : S30)) (Reps.c2 (k30_mkM _ _ _ (⟨(⟨#[73, 68, 65, 84]⟩ : ByteArray), (⟨#[121]⟩ : ByteArray)⟩ : S30)) (Reps.c2 (k30_mkM _ _ _ (⟨(⟨#[73, 69, 78, 68]⟩ : ByteArray), (⟨#[]⟩ : ByteArray)⟩ : S30)) (Reps.none _ _))))))
              intro v5 w6 ho_ hb hg_ hnew_
              have HO := Aside0.mk ho_
              clear hg_ hnew_ ho_
              have n0_ := Aside0.mk (HS.out.step hb)
              clear HS hb
              have HS := n0_
              clear n0_
              refine hK.out _ _ ⟨(HS.out.cell 0 rfl 0).trans rfl, (HS.out.cell 0 rfl 1).trans rfl⟩ (fun hHeld => ?_)
              clear hK K
              refine norm_ (a' := ?_) ?_ ?_
              rotate_left
              · show Act.put _ (some 21) _ = _
                simp only [Act.put, List.setIfInBounds_toArray, List.set_cons_zero, List.set_cons_succ, i64_w, i32_w]
                rfl
              obtain ⟨Ao, co, rfl⟩ := Kd.R_slice HO.out
              refine two_ (i := 5) (j := 10) (Ni := some 22) (Nj := some 2) #[true, true, true, true, true, true, false, false, false, false, false, false, false, false] #[true, true, true, true, true, false, false, false, false, false, true, false, false, false] rfl rfl rfl rfl (two_of HT_.out (by kernel_rfl)) (by decide) (by decide) (fun K hK => ?_) (fun K hK => ?_)
              · skip
                refine goes_ Try.func17 (by kernel_rfl) rfl #[.slice Ao ([(⟨(⟨#[73, 72, 68, 82]⟩ : ByteArray), awH⟩ : S30), (⟨(⟨#[73, 68, 65, 84]⟩ : ByteArray), (⟨#[120]⟩ : ByteArray)⟩ : S30), (⟨(⟨#[73, 68, 65, 84]⟩ : ByteArray), (⟨#[121]⟩ : ByteArray)⟩ : S30), (⟨(⟨#[73, 69, 78, 68]⟩ : ByteArray), (⟨#[]⟩ : ByteArray)⟩ : S30)] : List S30).length co] (by rfl) rfl rfl (by (try simp only [List.map_toArray, List.map_cons, List.map_nil]); first | done | rfl) ?_
                with_reducible refine (head_Read.calls 20 _ _ [(⟨(⟨#[73, 72, 68, 82]⟩ : ByteArray), awH⟩ : S30), (⟨(⟨#[73, 68, 65, 84]⟩ : ByteArray), (⟨#[120]⟩ : ByteArray)⟩ : S30), (⟨(⟨#[73, 68, 65, 84]⟩ : ByteArray), (⟨#[121]⟩ : ByteArray)⟩ : S30), (⟨(⟨#[73, 69, 78, 68]⟩ : ByteArray), (⟨#[]⟩ : ByteArray)⟩ : S30)] 1 1 8 0 0 (⟨#[]⟩ : ByteArray) (⟨#[]⟩ : ByteArray) false (⟨#[120, 121]⟩ : ByteArray) 0 _ (Kd.R_reads' HO.out).2.2 (Kd.R_reads' HO.out).2.1 aw_r0).mono ?_
                rintro e w7 ⟨rfl, hb⟩
                refine ⟨_, rfl, ?_⟩
                clear HO
                have n0_ := Aside0.mk (HS.out.step hb)
                clear HS hb
                have HS := n0_
                clear n0_
                refine hK.out _ _ ⟨(HS.out.cell 0 rfl 0).trans rfl, (HS.out.cell 0 rfl 1).trans rfl⟩ (fun hHeld => ?_)
                clear hK K
                refine norm_ (a' := ?_) ?_ ?_
                rotate_left
                · show Act.put _ (some 22) _ = _
                  simp only [Act.put, List.setIfInBounds_toArray, List.set_cons_zero, List.set_cons_succ, i64_w, i32_w]
                  rfl
                refine pure_ (i := 6) (N := some 16) (v := ?_) (a' := ?_) #[true, true, true, true, true, true, true, false, false, false, false, false, false, false] rfl rfl (any_of HT_.out (by kernel_rfl)) (fun _ _ _ h => h) (Or.inl ⟨by rfl, ?_⟩) ?_ ?_
                rotate_left
                · intro w'
                  go_simp
                  with_reducible rfl
                rotate_left
                · simp only [Act.put, List.setIfInBounds_toArray, List.set_cons_zero, List.set_cons_succ, i64_w, i32_w]
                  rfl
                refine pure_ (i := 7) (N := some 23) (v := ?_) (a' := ?_) #[true, true, true, true, true, true, true, true, false, false, false, false, false, false] rfl rfl (any_of HT_.out (by kernel_rfl)) (fun _ _ _ h => h) (Or.inl ⟨by rfl, ?_⟩) ?_ ?_
                rotate_left
                · intro w'
                  go_simp
                  with_reducible rfl
                rotate_left
                · simp only [Act.put, List.setIfInBounds_toArray, List.set_cons_zero, List.set_cons_succ, i64_w, i32_w]
                  rfl
                refine pure_ (i := 8) (N := some 24) (v := ?_) (a' := ?_) #[true, true, true, true, true, true, true, true, true, false, false, false, false, false] rfl rfl (any_of HT_.out (by kernel_rfl)) (fun _ _ _ h => h) (Or.inl ⟨by rfl, ?_⟩) ?_ ?_
                rotate_left
                · intro w'
                  go_simp
                  with_reducible rfl
                rotate_left
                · simp only [Act.put, List.setIfInBounds_toArray, List.set_cons_zero, List.set_cons_succ, i64_w, i32_w]
                  rfl
                refine pure_ (i := 9) (N := some 25) (v := ?_) (a' := ?_) #[true, true, true, true, true, true, true, true, true, true, false, false, false, false] rfl rfl (any_of HT_.out (by kernel_rfl)) (fun _ _ _ h => h) (Or.inl ⟨by rfl, ?_⟩) ?_ ?_
                rotate_left
                · intro w'
                  go_simp
                  with_reducible rfl
                rotate_left
                · simp only [Act.put, List.setIfInBounds_toArray, List.set_cons_zero, List.set_cons_succ, i64_w, i32_w]
                  rfl
                refine one_ (i := 10) (N := some 2) #[true, true, true, true, true, true, true, true, true, true, true, false, false, false] rfl rfl (one_of HT_.out (by kernel_rfl)) (by decide) (fun K hK => ?_)
                refine box_step (by rfl) (N := 2) rfl (cs := #[.int .i64 0, .int .i64 0, .int .i64 0, .int .i64 0, .int .i64 0, .string (⟨#[]⟩ : ByteArray), .string (⟨#[]⟩ : ByteArray), .bool false]) (t := 36) (by first | (go_simp; done) | (go_simp; rfl)) ?_
                intro g2 hg w8 hbox hb
                have n0_ := Aside0.mk (HS.out.box hb hg hbox)
                clear HS hb hg hbox
                have HS := n0_
                clear n0_
                refine hK.out _ _ ⟨(HS.out.cell 1 rfl 0).trans rfl, (HS.out.cell 1 rfl 1).trans rfl⟩ (fun hHeld => ?_)
                clear hK K
                refine norm_ (a' := ?_) ?_ ?_
                rotate_left
                · show Act.put _ (some 2) _ = _
                  simp only [Act.put, List.setIfInBounds_toArray, List.set_cons_zero, List.set_cons_succ, i64_w, i32_w]
                  rfl
                exact norm_ (by first | (simp only [putAll, Act.put, List.setIfInBounds_toArray, List.set_cons_zero, List.set_cons_succ]; done) | (simp only [putAll, Act.put, List.setIfInBounds_toArray, List.set_cons_zero, List.set_cons_succ]; rfl)) (hJ (_, g2) _ ⟨hHeld, HS.out⟩)
              · skip
                refine box_step (by rfl) (N := 2) rfl (cs := #[.int .i64 0, .int .i64 0, .int .i64 0, .int .i64 0, .int .i64 0, .string (⟨#[]⟩ : ByteArray), .string (⟨#[]⟩ : ByteArray), .bool false]) (t := 36) (by first | (go_simp; done) | (go_simp; rfl)) ?_
                intro g2 hg w9 hbox hb
                have n0_ := Aside0.mk (HS.out.box hb hg hbox); have n1_ := Aside0.mk (Kd.R_below HO.out hb)
                clear HS hb hg hbox HO
                have HS := n0_; have HO := n1_
                clear n0_ n1_
                refine hK.out _ _ ⟨(HS.out.cell 1 rfl 0).trans rfl, (HS.out.cell 1 rfl 1).trans rfl⟩ (fun hHeld => ?_)
                clear hK K
                refine norm_ (a' := ?_) ?_ ?_
                rotate_left
                · show Act.put _ (some 2) _ = _
                  simp only [Act.put, List.setIfInBounds_toArray, List.set_cons_zero, List.set_cons_succ, i64_w, i32_w]
                  rfl
                refine one_ (i := 5) (N := some 22) #[true, true, true, true, true, true, false, false, false, false, true, false, false, false] rfl rfl (one_of HT_.out (by kernel_rfl)) (by decide) (fun K hK => ?_)
                refine goes_ Try.func17 (by kernel_rfl) rfl #[.slice Ao ([(⟨(⟨#[73, 72, 68, 82]⟩ : ByteArray), awH⟩ : S30), (⟨(⟨#[73, 68, 65, 84]⟩ : ByteArray), (⟨#[120]⟩ : ByteArray)⟩ : S30), (⟨(⟨#[73, 68, 65, 84]⟩ : ByteArray), (⟨#[121]⟩ : ByteArray)⟩ : S30), (⟨(⟨#[73, 69, 78, 68]⟩ : ByteArray), (⟨#[]⟩ : ByteArray)⟩ : S30)] : List S30).length co] (by rfl) rfl rfl (by (try simp only [List.map_toArray, List.map_cons, List.map_nil]); first | done | rfl) ?_
                with_reducible refine (head_Read.calls 20 _ _ [(⟨(⟨#[73, 72, 68, 82]⟩ : ByteArray), awH⟩ : S30), (⟨(⟨#[73, 68, 65, 84]⟩ : ByteArray), (⟨#[120]⟩ : ByteArray)⟩ : S30), (⟨(⟨#[73, 68, 65, 84]⟩ : ByteArray), (⟨#[121]⟩ : ByteArray)⟩ : S30), (⟨(⟨#[73, 69, 78, 68]⟩ : ByteArray), (⟨#[]⟩ : ByteArray)⟩ : S30)] 1 1 8 0 0 (⟨#[]⟩ : ByteArray) (⟨#[]⟩ : ByteArray) false (⟨#[120, 121]⟩ : ByteArray) 0 _ (Kd.R_reads' HO.out).2.2 (Kd.R_reads' HO.out).2.1 aw_r0).mono ?_
                rintro e w10 ⟨rfl, hb⟩
                refine ⟨_, rfl, ?_⟩
                clear HO
                have n0_ := Aside0.mk (HS.out.step hb)
                clear HS hb
                have HS := n0_
                clear n0_
                refine hK.out _ _ ⟨(HS.out.cell 1 rfl 0).trans rfl, (HS.out.cell 1 rfl 1).trans rfl⟩ (fun hHeld => ?_)
                clear hK K
                refine norm_ (a' := ?_) ?_ ?_
                rotate_left
                · show Act.put _ (some 22) _ = _
                  simp only [Act.put, List.setIfInBounds_toArray, List.set_cons_zero, List.set_cons_succ, i64_w, i32_w]
                  rfl
                exact norm_ (by first | (simp only [putAll, Act.put, List.setIfInBounds_toArray, List.set_cons_zero, List.set_cons_succ]; done) | (simp only [putAll, Act.put, List.setIfInBounds_toArray, List.set_cons_zero, List.set_cons_succ]; rfl)) (hK5 (_, g2) _ ⟨hHeld, HS.out⟩)
            · skip
              refine box_step (by rfl) (N := 2) rfl (cs := #[.int .i64 0, .int .i64 0, .int .i64 0, .int .i64 0, .int .i64 0, .string (⟨#[]⟩ : ByteArray), .string (⟨#[]⟩ : ByteArray), .bool false]) (t := 36) (by first | (go_simp; done) | (go_simp; rfl)) ?_
              intro g2 hg w11 hbox hb
              have n0_ := Aside0.mk (HS.out.box hb hg hbox)
              clear HS hb hg hbox
              have HS := n0_
              clear n0_
              refine hK.out _ _ ⟨(HS.out.cell 1 rfl 0).trans rfl, (HS.out.cell 1 rfl 1).trans rfl⟩ (fun hHeld => ?_)
              clear hK K
              refine norm_ (a' := ?_) ?_ ?_
              rotate_left
              · show Act.put _ (some 2) _ = _
                simp only [Act.put, List.setIfInBounds_toArray, List.set_cons_zero, List.set_cons_succ, i64_w, i32_w]
                rfl
              refine one_ (i := 4) (N := some 21) #[true, true, true, true, true, false, false, false, false, false, true, false, false, false] rfl rfl (one_of HT_.out (by kernel_rfl)) (by decide) (fun K hK => ?_)
              refine Kd.R_lit_step k30 _ 30 ?hg (N := 21) ?hd (xs := [(⟨(⟨#[73, 72, 68, 82]⟩ : ByteArray), awH⟩ : S30), (⟨(⟨#[73, 68, 65, 84]⟩ : ByteArray), (⟨#[120]⟩ : ByteArray)⟩ : S30), (⟨(⟨#[73, 68, 65, 84]⟩ : ByteArray), (⟨#[121]⟩ : ByteArray)⟩ : S30), (⟨(⟨#[73, 69, 78, 68]⟩ : ByteArray), (⟨#[]⟩ : ByteArray)⟩ : S30)]) (inner := [.string (⟨#[73, 72, 68, 82]⟩ : ByteArray), .string awH, .string (⟨#[73, 68, 65, 84]⟩ : ByteArray), .string (⟨#[120]⟩ : ByteArray), .string (⟨#[73, 68, 65, 84]⟩ : ByteArray), .string (⟨#[121]⟩ : ByteArray), .string (⟨#[73, 69, 78, 68]⟩ : ByteArray), .string (⟨#[]⟩ : ByteArray)]) (ok := fun _ => True) (okp := fun _ => True) ?hr ?hp (fun _ hk => hk) trivial (Below.refl _ _) (Nat.le_refl _) (by simp) ?_; (case hd => rfl); (case hg => rfl); (case hr => first | (go_simp; done) | (go_simp; rfl)); (case hp => exact (Reps.c2 (k30_mkM _ _ _ (⟨(⟨#[73, 72, 68, 82]⟩ : ByteArray), awH⟩ : S30)) (Reps.c2 (k30_mkM _ _ _ (⟨(⟨#[73, 68, 65, 84]⟩ : ByteArray), (⟨#[120]⟩ : ByteArray)⟩ : S30)) (Reps.c2 (k30_mkM _ _ _ (⟨(⟨#[73, 68, 65, 84]⟩ : ByteArray), (⟨#[121]⟩ : ByteArray)⟩ : S30)) (Reps.c2 (k30_mkM _ _ _ (⟨(⟨#[73, 69, 78, 68]⟩ : ByteArray), (⟨#[]⟩ : ByteArray)⟩ : S30)) (Reps.none _ _))))))
              intro v12 w13 ho_ hb hg_ hnew_
              have HO := Aside0.mk ho_
              clear hg_ hnew_ ho_
              have n0_ := Aside0.mk (HS.out.step hb)
              clear HS hb
              have HS := n0_
              clear n0_
              refine hK.out _ _ ⟨(HS.out.cell 1 rfl 0).trans rfl, (HS.out.cell 1 rfl 1).trans rfl⟩ (fun hHeld => ?_)
              clear hK K
              refine norm_ (a' := ?_) ?_ ?_
              rotate_left
              · show Act.put _ (some 21) _ = _
                simp only [Act.put, List.setIfInBounds_toArray, List.set_cons_zero, List.set_cons_succ, i64_w, i32_w]
                rfl
              obtain ⟨Ao, co, rfl⟩ := Kd.R_slice HO.out
              refine one_ (i := 5) (N := some 22) #[true, true, true, true, true, true, false, false, false, false, true, false, false, false] rfl rfl (one_of HT_.out (by kernel_rfl)) (by decide) (fun K hK => ?_)
              refine goes_ Try.func17 (by kernel_rfl) rfl #[.slice Ao ([(⟨(⟨#[73, 72, 68, 82]⟩ : ByteArray), awH⟩ : S30), (⟨(⟨#[73, 68, 65, 84]⟩ : ByteArray), (⟨#[120]⟩ : ByteArray)⟩ : S30), (⟨(⟨#[73, 68, 65, 84]⟩ : ByteArray), (⟨#[121]⟩ : ByteArray)⟩ : S30), (⟨(⟨#[73, 69, 78, 68]⟩ : ByteArray), (⟨#[]⟩ : ByteArray)⟩ : S30)] : List S30).length co] (by rfl) rfl rfl (by (try simp only [List.map_toArray, List.map_cons, List.map_nil]); first | done | rfl) ?_
              with_reducible refine (head_Read.calls 20 _ _ [(⟨(⟨#[73, 72, 68, 82]⟩ : ByteArray), awH⟩ : S30), (⟨(⟨#[73, 68, 65, 84]⟩ : ByteArray), (⟨#[120]⟩ : ByteArray)⟩ : S30), (⟨(⟨#[73, 68, 65, 84]⟩ : ByteArray), (⟨#[121]⟩ : ByteArray)⟩ : S30), (⟨(⟨#[73, 69, 78, 68]⟩ : ByteArray), (⟨#[]⟩ : ByteArray)⟩ : S30)] 1 1 8 0 0 (⟨#[]⟩ : ByteArray) (⟨#[]⟩ : ByteArray) false (⟨#[120, 121]⟩ : ByteArray) 0 _ (Kd.R_reads' HO.out).2.2 (Kd.R_reads' HO.out).2.1 aw_r0).mono ?_
              rintro e w14 ⟨rfl, hb⟩
              refine ⟨_, rfl, ?_⟩
              clear HO
              have n0_ := Aside0.mk (HS.out.step hb)
              clear HS hb
              have HS := n0_
              clear n0_
              refine hK.out _ _ ⟨(HS.out.cell 1 rfl 0).trans rfl, (HS.out.cell 1 rfl 1).trans rfl⟩ (fun hHeld => ?_)
              clear hK K
              refine norm_ (a' := ?_) ?_ ?_
              rotate_left
              · show Act.put _ (some 22) _ = _
                simp only [Act.put, List.setIfInBounds_toArray, List.set_cons_zero, List.set_cons_succ, i64_w, i32_w]
                rfl
              exact norm_ (by first | (simp only [putAll, Act.put, List.setIfInBounds_toArray, List.set_cons_zero, List.set_cons_succ]; done) | (simp only [putAll, Act.put, List.setIfInBounds_toArray, List.set_cons_zero, List.set_cons_succ]; rfl)) (hK5 (_, g2) _ ⟨hHeld, HS.out⟩)
          · skip
            refine box_step (by rfl) (N := 2) rfl (cs := #[.int .i64 0, .int .i64 0, .int .i64 0, .int .i64 0, .int .i64 0, .string (⟨#[]⟩ : ByteArray), .string (⟨#[]⟩ : ByteArray), .bool false]) (t := 36) (by first | (go_simp; done) | (go_simp; rfl)) ?_
            intro g2 hg w15 hbox hb
            have n0_ := Aside0.mk (HS.out.box hb hg hbox)
            clear HS hb hg hbox
            have HS := n0_
            clear n0_
            refine hK.out _ _ ⟨(HS.out.cell 1 rfl 0).trans rfl, (HS.out.cell 1 rfl 1).trans rfl⟩ (fun hHeld => ?_)
            clear hK K
            refine norm_ (a' := ?_) ?_ ?_
            rotate_left
            · show Act.put _ (some 2) _ = _
              simp only [Act.put, List.setIfInBounds_toArray, List.set_cons_zero, List.set_cons_succ, i64_w, i32_w]
              rfl
            refine one_ (i := 3) (N := some 20) #[true, true, true, true, false, false, false, false, false, false, true, false, false, false] rfl rfl (one_of HT_.out (by kernel_rfl)) (by decide) (fun K hK => ?_)
            refine goes_ Try.func20 (by kernel_rfl) rfl #[] (by rfl) rfl rfl (by (try simp only [List.map_toArray, List.map_cons, List.map_nil]); first | done | rfl) ?_
            with_reducible refine (vitrinelaw08_ends.calls _ _ _ rfl).mono ?_
            rintro e w16 ⟨rfl, hb⟩
            refine ⟨_, rfl, ?_⟩
            have n0_ := Aside0.mk (HS.out.step hb)
            clear HS hb
            have HS := n0_
            clear n0_
            refine hK.out _ _ ⟨(HS.out.cell 1 rfl 0).trans rfl, (HS.out.cell 1 rfl 1).trans rfl⟩ (fun hHeld => ?_)
            clear hK K
            refine norm_ (a' := ?_) ?_ ?_
            rotate_left
            · show Act.put _ (some 20) _ = _
              simp only [Act.put, List.setIfInBounds_toArray, List.set_cons_zero, List.set_cons_succ, i64_w, i32_w]
              rfl
            refine one_ (i := 4) (N := some 21) #[true, true, true, true, true, false, false, false, false, false, true, false, false, false] rfl rfl (one_of HT_.out (by kernel_rfl)) (by decide) (fun K hK => ?_)
            refine Kd.R_lit_step k30 _ 30 ?hg (N := 21) ?hd (xs := [(⟨(⟨#[73, 72, 68, 82]⟩ : ByteArray), awH⟩ : S30), (⟨(⟨#[73, 68, 65, 84]⟩ : ByteArray), (⟨#[120]⟩ : ByteArray)⟩ : S30), (⟨(⟨#[73, 68, 65, 84]⟩ : ByteArray), (⟨#[121]⟩ : ByteArray)⟩ : S30), (⟨(⟨#[73, 69, 78, 68]⟩ : ByteArray), (⟨#[]⟩ : ByteArray)⟩ : S30)]) (inner := [.string (⟨#[73, 72, 68, 82]⟩ : ByteArray), .string awH, .string (⟨#[73, 68, 65, 84]⟩ : ByteArray), .string (⟨#[120]⟩ : ByteArray), .string (⟨#[73, 68, 65, 84]⟩ : ByteArray), .string (⟨#[121]⟩ : ByteArray), .string (⟨#[73, 69, 78, 68]⟩ : ByteArray), .string (⟨#[]⟩ : ByteArray)]) (ok := fun _ => True) (okp := fun _ => True) ?hr ?hp (fun _ hk => hk) trivial (Below.refl _ _) (Nat.le_refl _) (by simp) ?_; (case hd => rfl); (case hg => rfl); (case hr => first | (go_simp; done) | (go_simp; rfl)); (case hp => exact (Reps.c2 (k30_mkM _ _ _ (⟨(⟨#[73, 72, 68, 82]⟩ : ByteArray), awH⟩ : S30)) (Reps.c2 (k30_mkM _ _ _ (⟨(⟨#[73, 68, 65, 84]⟩ : ByteArray), (⟨#[120]⟩ : ByteArray)⟩ : S30)) (Reps.c2 (k30_mkM _ _ _ (⟨(⟨#[73, 68, 65, 84]⟩ : ByteArray), (⟨#[121]⟩ : ByteArray)⟩ : S30)) (Reps.c2 (k30_mkM _ _ _ (⟨(⟨#[73, 69, 78, 68]⟩ : ByteArray), (⟨#[]⟩ : ByteArray)⟩ : S30)) (Reps.none _ _))))))
            intro v17 w18 ho_ hb hg_ hnew_
            have HO := Aside0.mk ho_
            clear hg_ hnew_ ho_
            have n0_ := Aside0.mk (HS.out.step hb)
            clear HS hb
            have HS := n0_
            clear n0_
            refine hK.out _ _ ⟨(HS.out.cell 1 rfl 0).trans rfl, (HS.out.cell 1 rfl 1).trans rfl⟩ (fun hHeld => ?_)
            clear hK K
            refine norm_ (a' := ?_) ?_ ?_
            rotate_left
            · show Act.put _ (some 21) _ = _
              simp only [Act.put, List.setIfInBounds_toArray, List.set_cons_zero, List.set_cons_succ, i64_w, i32_w]
              rfl
            obtain ⟨Ao, co, rfl⟩ := Kd.R_slice HO.out
            refine one_ (i := 5) (N := some 22) #[true, true, true, true, true, true, false, false, false, false, true, false, false, false] rfl rfl (one_of HT_.out (by kernel_rfl)) (by decide) (fun K hK => ?_)
            refine goes_ Try.func17 (by kernel_rfl) rfl #[.slice Ao ([(⟨(⟨#[73, 72, 68, 82]⟩ : ByteArray), awH⟩ : S30), (⟨(⟨#[73, 68, 65, 84]⟩ : ByteArray), (⟨#[120]⟩ : ByteArray)⟩ : S30), (⟨(⟨#[73, 68, 65, 84]⟩ : ByteArray), (⟨#[121]⟩ : ByteArray)⟩ : S30), (⟨(⟨#[73, 69, 78, 68]⟩ : ByteArray), (⟨#[]⟩ : ByteArray)⟩ : S30)] : List S30).length co] (by rfl) rfl rfl (by (try simp only [List.map_toArray, List.map_cons, List.map_nil]); first | done | rfl) ?_
            with_reducible refine (head_Read.calls 20 _ _ [(⟨(⟨#[73, 72, 68, 82]⟩ : ByteArray), awH⟩ : S30), (⟨(⟨#[73, 68, 65, 84]⟩ : ByteArray), (⟨#[120]⟩ : ByteArray)⟩ : S30), (⟨(⟨#[73, 68, 65, 84]⟩ : ByteArray), (⟨#[121]⟩ : ByteArray)⟩ : S30), (⟨(⟨#[73, 69, 78, 68]⟩ : ByteArray), (⟨#[]⟩ : ByteArray)⟩ : S30)] 1 1 8 0 0 (⟨#[]⟩ : ByteArray) (⟨#[]⟩ : ByteArray) false (⟨#[120, 121]⟩ : ByteArray) 0 _ (Kd.R_reads' HO.out).2.2 (Kd.R_reads' HO.out).2.1 aw_r0).mono ?_
            rintro e w19 ⟨rfl, hb⟩
            refine ⟨_, rfl, ?_⟩
            clear HO
            have n0_ := Aside0.mk (HS.out.step hb)
            clear HS hb
            have HS := n0_
            clear n0_
            refine hK.out _ _ ⟨(HS.out.cell 1 rfl 0).trans rfl, (HS.out.cell 1 rfl 1).trans rfl⟩ (fun hHeld => ?_)
            clear hK K
            refine norm_ (a' := ?_) ?_ ?_
            rotate_left
            · show Act.put _ (some 22) _ = _
              simp only [Act.put, List.setIfInBounds_toArray, List.set_cons_zero, List.set_cons_succ, i64_w, i32_w]
              rfl
            exact norm_ (by first | (simp only [putAll, Act.put, List.setIfInBounds_toArray, List.set_cons_zero, List.set_cons_succ]; done) | (simp only [putAll, Act.put, List.setIfInBounds_toArray, List.set_cons_zero, List.set_cons_succ]; rfl)) (hK5 (_, g2) _ ⟨hHeld, HS.out⟩)
        · skip
          refine box_step (by rfl) (N := 2) rfl (cs := #[.int .i64 0, .int .i64 0, .int .i64 0, .int .i64 0, .int .i64 0, .string (⟨#[]⟩ : ByteArray), .string (⟨#[]⟩ : ByteArray), .bool false]) (t := 36) (by first | (go_simp; done) | (go_simp; rfl)) ?_
          intro g2 hg w20 hbox hb
          have n0_ := Aside0.mk (HS.out.box hb hg hbox)
          clear HS hb hg hbox
          have HS := n0_
          clear n0_
          refine hK.out _ _ ⟨(HS.out.cell 1 rfl 0).trans rfl, (HS.out.cell 1 rfl 1).trans rfl⟩ (fun hHeld => ?_)
          clear hK K
          refine norm_ (a' := ?_) ?_ ?_
          rotate_left
          · show Act.put _ (some 2) _ = _
            simp only [Act.put, List.setIfInBounds_toArray, List.set_cons_zero, List.set_cons_succ, i64_w, i32_w]
            rfl
          refine one_ (i := 2) (N := some 19) #[true, true, true, false, false, false, false, false, false, false, true, false, false, false] rfl rfl (one_of HT_.out (by kernel_rfl)) (by decide) (fun K hK => ?_)
          refine goes_ Try.func19 (by kernel_rfl) rfl #[.string (⟨#[121]⟩ : ByteArray)] (by rfl) rfl rfl (by (try simp only [List.map_toArray, List.map_cons, List.map_nil]); first | done | rfl) ?_
          with_reducible refine (vitrinelaw08_dat.calls (⟨#[121]⟩ : ByteArray) _ _ _ rfl).mono ?_
          rintro e w21 ⟨rfl, hb⟩
          refine ⟨_, rfl, ?_⟩
          have n0_ := Aside0.mk (HS.out.step hb)
          clear HS hb
          have HS := n0_
          clear n0_
          refine hK.out _ _ ⟨(HS.out.cell 1 rfl 0).trans rfl, (HS.out.cell 1 rfl 1).trans rfl⟩ (fun hHeld => ?_)
          clear hK K
          refine norm_ (a' := ?_) ?_ ?_
          rotate_left
          · show Act.put _ (some 19) _ = _
            simp only [Act.put, List.setIfInBounds_toArray, List.set_cons_zero, List.set_cons_succ, i64_w, i32_w]
            rfl
          refine one_ (i := 3) (N := some 20) #[true, true, true, true, false, false, false, false, false, false, true, false, false, false] rfl rfl (one_of HT_.out (by kernel_rfl)) (by decide) (fun K hK => ?_)
          refine goes_ Try.func20 (by kernel_rfl) rfl #[] (by rfl) rfl rfl (by (try simp only [List.map_toArray, List.map_cons, List.map_nil]); first | done | rfl) ?_
          with_reducible refine (vitrinelaw08_ends.calls _ _ _ rfl).mono ?_
          rintro e w22 ⟨rfl, hb⟩
          refine ⟨_, rfl, ?_⟩
          have n0_ := Aside0.mk (HS.out.step hb)
          clear HS hb
          have HS := n0_
          clear n0_
          refine hK.out _ _ ⟨(HS.out.cell 1 rfl 0).trans rfl, (HS.out.cell 1 rfl 1).trans rfl⟩ (fun hHeld => ?_)
          clear hK K
          refine norm_ (a' := ?_) ?_ ?_
          rotate_left
          · show Act.put _ (some 20) _ = _
            simp only [Act.put, List.setIfInBounds_toArray, List.set_cons_zero, List.set_cons_succ, i64_w, i32_w]
            rfl
          refine one_ (i := 4) (N := some 21) #[true, true, true, true, true, false, false, false, false, false, true, false, false, false] rfl rfl (one_of HT_.out (by kernel_rfl)) (by decide) (fun K hK => ?_)
          refine Kd.R_lit_step k30 _ 30 ?hg (N := 21) ?hd (xs := [(⟨(⟨#[73, 72, 68, 82]⟩ : ByteArray), awH⟩ : S30), (⟨(⟨#[73, 68, 65, 84]⟩ : ByteArray), (⟨#[120]⟩ : ByteArray)⟩ : S30), (⟨(⟨#[73, 68, 65, 84]⟩ : ByteArray), (⟨#[121]⟩ : ByteArray)⟩ : S30), (⟨(⟨#[73, 69, 78, 68]⟩ : ByteArray), (⟨#[]⟩ : ByteArray)⟩ : S30)]) (inner := [.string (⟨#[73, 72, 68, 82]⟩ : ByteArray), .string awH, .string (⟨#[73, 68, 65, 84]⟩ : ByteArray), .string (⟨#[120]⟩ : ByteArray), .string (⟨#[73, 68, 65, 84]⟩ : ByteArray), .string (⟨#[121]⟩ : ByteArray), .string (⟨#[73, 69, 78, 68]⟩ : ByteArray), .string (⟨#[]⟩ : ByteArray)]) (ok := fun _ => True) (okp := fun _ => True) ?hr ?hp (fun _ hk => hk) trivial (Below.refl _ _) (Nat.le_refl _) (by simp) ?_; (case hd => rfl); (case hg => rfl); (case hr => first | (go_simp; done) | (go_simp; rfl)); (case hp => exact (Reps.c2 (k30_mkM _ _ _ (⟨(⟨#[73, 72, 68, 82]⟩ : ByteArray), awH⟩ : S30)) (Reps.c2 (k30_mkM _ _ _ (⟨(⟨#[73, 68, 65, 84]⟩ : ByteArray), (⟨#[120]⟩ : ByteArray)⟩ : S30)) (Reps.c2 (k30_mkM _ _ _ (⟨(⟨#[73, 68, 65, 84]⟩ : ByteArray), (⟨#[121]⟩ : ByteArray)⟩ : S30)) (Reps.c2 (k30_mkM _ _ _ (⟨(⟨#[73, 69, 78, 68]⟩ : ByteArray), (⟨#[]⟩ : ByteArray)⟩ : S30)) (Reps.none _ _))))))
          intro v23 w24 ho_ hb hg_ hnew_
          have HO := Aside0.mk ho_
          clear hg_ hnew_ ho_
          have n0_ := Aside0.mk (HS.out.step hb)
          clear HS hb
          have HS := n0_
          clear n0_
          refine hK.out _ _ ⟨(HS.out.cell 1 rfl 0).trans rfl, (HS.out.cell 1 rfl 1).trans rfl⟩ (fun hHeld => ?_)
          clear hK K
          refine norm_ (a' := ?_) ?_ ?_
          rotate_left
          · show Act.put _ (some 21) _ = _
            simp only [Act.put, List.setIfInBounds_toArray, List.set_cons_zero, List.set_cons_succ, i64_w, i32_w]
            rfl
          obtain ⟨Ao, co, rfl⟩ := Kd.R_slice HO.out
          refine one_ (i := 5) (N := some 22) #[true, true, true, true, true, true, false, false, false, false, true, false, false, false] rfl rfl (one_of HT_.out (by kernel_rfl)) (by decide) (fun K hK => ?_)
          refine goes_ Try.func17 (by kernel_rfl) rfl #[.slice Ao ([(⟨(⟨#[73, 72, 68, 82]⟩ : ByteArray), awH⟩ : S30), (⟨(⟨#[73, 68, 65, 84]⟩ : ByteArray), (⟨#[120]⟩ : ByteArray)⟩ : S30), (⟨(⟨#[73, 68, 65, 84]⟩ : ByteArray), (⟨#[121]⟩ : ByteArray)⟩ : S30), (⟨(⟨#[73, 69, 78, 68]⟩ : ByteArray), (⟨#[]⟩ : ByteArray)⟩ : S30)] : List S30).length co] (by rfl) rfl rfl (by (try simp only [List.map_toArray, List.map_cons, List.map_nil]); first | done | rfl) ?_
          with_reducible refine (head_Read.calls 20 _ _ [(⟨(⟨#[73, 72, 68, 82]⟩ : ByteArray), awH⟩ : S30), (⟨(⟨#[73, 68, 65, 84]⟩ : ByteArray), (⟨#[120]⟩ : ByteArray)⟩ : S30), (⟨(⟨#[73, 68, 65, 84]⟩ : ByteArray), (⟨#[121]⟩ : ByteArray)⟩ : S30), (⟨(⟨#[73, 69, 78, 68]⟩ : ByteArray), (⟨#[]⟩ : ByteArray)⟩ : S30)] 1 1 8 0 0 (⟨#[]⟩ : ByteArray) (⟨#[]⟩ : ByteArray) false (⟨#[120, 121]⟩ : ByteArray) 0 _ (Kd.R_reads' HO.out).2.2 (Kd.R_reads' HO.out).2.1 aw_r0).mono ?_
          rintro e w25 ⟨rfl, hb⟩
          refine ⟨_, rfl, ?_⟩
          clear HO
          have n0_ := Aside0.mk (HS.out.step hb)
          clear HS hb
          have HS := n0_
          clear n0_
          refine hK.out _ _ ⟨(HS.out.cell 1 rfl 0).trans rfl, (HS.out.cell 1 rfl 1).trans rfl⟩ (fun hHeld => ?_)
          clear hK K
          refine norm_ (a' := ?_) ?_ ?_
          rotate_left
          · show Act.put _ (some 22) _ = _
            simp only [Act.put, List.setIfInBounds_toArray, List.set_cons_zero, List.set_cons_succ, i64_w, i32_w]
            rfl
          exact norm_ (by first | (simp only [putAll, Act.put, List.setIfInBounds_toArray, List.set_cons_zero, List.set_cons_succ]; done) | (simp only [putAll, Act.put, List.setIfInBounds_toArray, List.set_cons_zero, List.set_cons_succ]; rfl)) (hK5 (_, g2) _ ⟨hHeld, HS.out⟩)
      · skip
        refine box_step (by rfl) (N := 2) rfl (cs := #[.int .i64 0, .int .i64 0, .int .i64 0, .int .i64 0, .int .i64 0, .string (⟨#[]⟩ : ByteArray), .string (⟨#[]⟩ : ByteArray), .bool false]) (t := 36) (by first | (go_simp; done) | (go_simp; rfl)) ?_
        intro g2 hg w26 hbox hb
        have n0_ := Aside0.mk (HS.out.box hb hg hbox)
        clear HS hb hg hbox
        have HS := n0_
        clear n0_
        refine hK.out _ _ ⟨(HS.out.cell 1 rfl 0).trans rfl, (HS.out.cell 1 rfl 1).trans rfl⟩ (fun hHeld => ?_)
        clear hK K
        refine norm_ (a' := ?_) ?_ ?_
        rotate_left
        · show Act.put _ (some 2) _ = _
          simp only [Act.put, List.setIfInBounds_toArray, List.set_cons_zero, List.set_cons_succ, i64_w, i32_w]
          rfl
        refine one_ (i := 1) (N := some 18) #[true, true, false, false, false, false, false, false, false, false, true, false, false, false] rfl rfl (one_of HT_.out (by kernel_rfl)) (by decide) (fun K hK => ?_)
        refine goes_ Try.func19 (by kernel_rfl) rfl #[.string (⟨#[120]⟩ : ByteArray)] (by rfl) rfl rfl (by (try simp only [List.map_toArray, List.map_cons, List.map_nil]); first | done | rfl) ?_
        with_reducible refine (vitrinelaw08_dat.calls (⟨#[120]⟩ : ByteArray) _ _ _ rfl).mono ?_
        rintro e w27 ⟨rfl, hb⟩
        refine ⟨_, rfl, ?_⟩
        have n0_ := Aside0.mk (HS.out.step hb)
        clear HS hb
        have HS := n0_
        clear n0_
        refine hK.out _ _ ⟨(HS.out.cell 1 rfl 0).trans rfl, (HS.out.cell 1 rfl 1).trans rfl⟩ (fun hHeld => ?_)
        clear hK K
        refine norm_ (a' := ?_) ?_ ?_
        rotate_left
        · show Act.put _ (some 18) _ = _
          simp only [Act.put, List.setIfInBounds_toArray, List.set_cons_zero, List.set_cons_succ, i64_w, i32_w]
          rfl
        refine one_ (i := 2) (N := some 19) #[true, true, true, false, false, false, false, false, false, false, true, false, false, false] rfl rfl (one_of HT_.out (by kernel_rfl)) (by decide) (fun K hK => ?_)
        refine goes_ Try.func19 (by kernel_rfl) rfl #[.string (⟨#[121]⟩ : ByteArray)] (by rfl) rfl rfl (by (try simp only [List.map_toArray, List.map_cons, List.map_nil]); first | done | rfl) ?_
        with_reducible refine (vitrinelaw08_dat.calls (⟨#[121]⟩ : ByteArray) _ _ _ rfl).mono ?_
        rintro e w28 ⟨rfl, hb⟩
        refine ⟨_, rfl, ?_⟩
        have n0_ := Aside0.mk (HS.out.step hb)
        clear HS hb
        have HS := n0_
        clear n0_
        refine hK.out _ _ ⟨(HS.out.cell 1 rfl 0).trans rfl, (HS.out.cell 1 rfl 1).trans rfl⟩ (fun hHeld => ?_)
        clear hK K
        refine norm_ (a' := ?_) ?_ ?_
        rotate_left
        · show Act.put _ (some 19) _ = _
          simp only [Act.put, List.setIfInBounds_toArray, List.set_cons_zero, List.set_cons_succ, i64_w, i32_w]
          rfl
        refine one_ (i := 3) (N := some 20) #[true, true, true, true, false, false, false, false, false, false, true, false, false, false] rfl rfl (one_of HT_.out (by kernel_rfl)) (by decide) (fun K hK => ?_)
        refine goes_ Try.func20 (by kernel_rfl) rfl #[] (by rfl) rfl rfl (by (try simp only [List.map_toArray, List.map_cons, List.map_nil]); first | done | rfl) ?_
        with_reducible refine (vitrinelaw08_ends.calls _ _ _ rfl).mono ?_
        rintro e w29 ⟨rfl, hb⟩
        refine ⟨_, rfl, ?_⟩
        have n0_ := Aside0.mk (HS.out.step hb)
        clear HS hb
        have HS := n0_
        clear n0_
        refine hK.out _ _ ⟨(HS.out.cell 1 rfl 0).trans rfl, (HS.out.cell 1 rfl 1).trans rfl⟩ (fun hHeld => ?_)
        clear hK K
        refine norm_ (a' := ?_) ?_ ?_
        rotate_left
        · show Act.put _ (some 20) _ = _
          simp only [Act.put, List.setIfInBounds_toArray, List.set_cons_zero, List.set_cons_succ, i64_w, i32_w]
          rfl
        refine one_ (i := 4) (N := some 21) #[true, true, true, true, true, false, false, false, false, false, true, false, false, false] rfl rfl (one_of HT_.out (by kernel_rfl)) (by decide) (fun K hK => ?_)
        refine Kd.R_lit_step k30 _ 30 ?hg (N := 21) ?hd (xs := [(⟨(⟨#[73, 72, 68, 82]⟩ : ByteArray), awH⟩ : S30), (⟨(⟨#[73, 68, 65, 84]⟩ : ByteArray), (⟨#[120]⟩ : ByteArray)⟩ : S30), (⟨(⟨#[73, 68, 65, 84]⟩ : ByteArray), (⟨#[121]⟩ : ByteArray)⟩ : S30), (⟨(⟨#[73, 69, 78, 68]⟩ : ByteArray), (⟨#[]⟩ : ByteArray)⟩ : S30)]) (inner := [.string (⟨#[73, 72, 68, 82]⟩ : ByteArray), .string awH, .string (⟨#[73, 68, 65, 84]⟩ : ByteArray), .string (⟨#[120]⟩ : ByteArray), .string (⟨#[73, 68, 65, 84]⟩ : ByteArray), .string (⟨#[121]⟩ : ByteArray), .string (⟨#[73, 69, 78, 68]⟩ : ByteArray), .string (⟨#[]⟩ : ByteArray)]) (ok := fun _ => True) (okp := fun _ => True) ?hr ?hp (fun _ hk => hk) trivial (Below.refl _ _) (Nat.le_refl _) (by simp) ?_; (case hd => rfl); (case hg => rfl); (case hr => first | (go_simp; done) | (go_simp; rfl)); (case hp => exact (Reps.c2 (k30_mkM _ _ _ (⟨(⟨#[73, 72, 68, 82]⟩ : ByteArray), awH⟩ : S30)) (Reps.c2 (k30_mkM _ _ _ (⟨(⟨#[73, 68, 65, 84]⟩ : ByteArray), (⟨#[120]⟩ : ByteArray)⟩ : S30)) (Reps.c2 (k30_mkM _ _ _ (⟨(⟨#[73, 68, 65, 84]⟩ : ByteArray), (⟨#[121]⟩ : ByteArray)⟩ : S30)) (Reps.c2 (k30_mkM _ _ _ (⟨(⟨#[73, 69, 78, 68]⟩ : ByteArray), (⟨#[]⟩ : ByteArray)⟩ : S30)) (Reps.none _ _))))))
        intro v30 w31 ho_ hb hg_ hnew_
        have HO := Aside0.mk ho_
        clear hg_ hnew_ ho_
        have n0_ := Aside0.mk (HS.out.step hb)
        clear HS hb
        have HS := n0_
        clear n0_
        refine hK.out _ _ ⟨(HS.out.cell 1 rfl 0).trans rfl, (HS.out.cell 1 rfl 1).trans rfl⟩ (fun hHeld => ?_)
        clear hK K
        refine norm_ (a' := ?_) ?_ ?_
        rotate_left
        · show Act.put _ (some 21) _ = _
          simp only [Act.put, List.setIfInBounds_toArray, List.set_cons_zero, List.set_cons_succ, i64_w, i32_w]
          rfl
        obtain ⟨Ao, co, rfl⟩ := Kd.R_slice HO.out
        refine one_ (i := 5) (N := some 22) #[true, true, true, true, true, true, false, false, false, false, true, false, false, false] rfl rfl (one_of HT_.out (by kernel_rfl)) (by decide) (fun K hK => ?_)
        refine goes_ Try.func17 (by kernel_rfl) rfl #[.slice Ao ([(⟨(⟨#[73, 72, 68, 82]⟩ : ByteArray), awH⟩ : S30), (⟨(⟨#[73, 68, 65, 84]⟩ : ByteArray), (⟨#[120]⟩ : ByteArray)⟩ : S30), (⟨(⟨#[73, 68, 65, 84]⟩ : ByteArray), (⟨#[121]⟩ : ByteArray)⟩ : S30), (⟨(⟨#[73, 69, 78, 68]⟩ : ByteArray), (⟨#[]⟩ : ByteArray)⟩ : S30)] : List S30).length co] (by rfl) rfl rfl (by (try simp only [List.map_toArray, List.map_cons, List.map_nil]); first | done | rfl) ?_
        with_reducible refine (head_Read.calls 20 _ _ [(⟨(⟨#[73, 72, 68, 82]⟩ : ByteArray), awH⟩ : S30), (⟨(⟨#[73, 68, 65, 84]⟩ : ByteArray), (⟨#[120]⟩ : ByteArray)⟩ : S30), (⟨(⟨#[73, 68, 65, 84]⟩ : ByteArray), (⟨#[121]⟩ : ByteArray)⟩ : S30), (⟨(⟨#[73, 69, 78, 68]⟩ : ByteArray), (⟨#[]⟩ : ByteArray)⟩ : S30)] 1 1 8 0 0 (⟨#[]⟩ : ByteArray) (⟨#[]⟩ : ByteArray) false (⟨#[120, 121]⟩ : ByteArray) 0 _ (Kd.R_reads' HO.out).2.2 (Kd.R_reads' HO.out).2.1 aw_r0).mono ?_
        rintro e w32 ⟨rfl, hb⟩
        refine ⟨_, rfl, ?_⟩
        clear HO
        have n0_ := Aside0.mk (HS.out.step hb)
        clear HS hb
        have HS := n0_
        clear n0_
        refine hK.out _ _ ⟨(HS.out.cell 1 rfl 0).trans rfl, (HS.out.cell 1 rfl 1).trans rfl⟩ (fun hHeld => ?_)
        clear hK K
        refine norm_ (a' := ?_) ?_ ?_
        rotate_left
        · show Act.put _ (some 22) _ = _
          simp only [Act.put, List.setIfInBounds_toArray, List.set_cons_zero, List.set_cons_succ, i64_w, i32_w]
          rfl
        exact norm_ (by first | (simp only [putAll, Act.put, List.setIfInBounds_toArray, List.set_cons_zero, List.set_cons_succ]; done) | (simp only [putAll, Act.put, List.setIfInBounds_toArray, List.set_cons_zero, List.set_cons_succ]; rfl)) (hK5 (_, g2) _ ⟨hHeld, HS.out⟩)
    · rintro ⟨v_, g2⟩ wj ⟨hHeld, hS_⟩
      have n0_ : Aside0 (Sv w [(g2, #[.int .i64 0, .int .i64 0, .int .i64 0, .int .i64 0, .int .i64 0, .string (⟨#[]⟩ : ByteArray), .string (⟨#[]⟩ : ByteArray), .bool false], 36), (gc, #[.string (⟨#[73, 72, 68, 82]⟩ : ByteArray), .string awH], 30)] wj) := ⟨hS_⟩
      clear HS hS_
      have HS := n0_
      clear n0_
      refine norm_ (a' := ?_) ?_ ?_
      rotate_left
      · simp only [putAll, Act.put, List.setIfInBounds_toArray, List.set_cons_zero, List.set_cons_succ]
        rfl
      refine pure_ (i := 6) (N := some 16) (v := ?_) (a' := ?_) #[true, true, true, true, true, true, true, false, false, false, true, false, false, false] rfl rfl (any_of HT_.out (by kernel_rfl)) (fun _ _ _ h => h) (Or.inl ⟨by rfl, ?_⟩) ?_ ?_
      rotate_left
      · intro w'
        go_simp
        with_reducible rfl
      rotate_left
      · simp only [Act.put, List.setIfInBounds_toArray, List.set_cons_zero, List.set_cons_succ, i64_w, i32_w]
        rfl
      refine pure_ (i := 7) (N := some 23) (v := ?_) (a' := ?_) #[true, true, true, true, true, true, true, true, false, false, true, false, false, false] rfl rfl (any_of HT_.out (by kernel_rfl)) (fun _ _ _ h => h) (Or.inl ⟨by rfl, ?_⟩) ?_ ?_
      rotate_left
      · intro w'
        go_simp
        with_reducible rfl
      rotate_left
      · simp only [Act.put, List.setIfInBounds_toArray, List.set_cons_zero, List.set_cons_succ, i64_w, i32_w]
        rfl
      refine pure_ (i := 8) (N := some 24) (v := ?_) (a' := ?_) #[true, true, true, true, true, true, true, true, true, false, true, false, false, false] rfl rfl (any_of HT_.out (by kernel_rfl)) (fun _ _ _ h => h) (Or.inl ⟨by rfl, ?_⟩) ?_ ?_
      rotate_left
      · intro w'
        go_simp
        with_reducible rfl
      rotate_left
      · simp only [Act.put, List.setIfInBounds_toArray, List.set_cons_zero, List.set_cons_succ, i64_w, i32_w]
        rfl
      refine pure_ (i := 9) (N := some 25) (v := ?_) (a' := ?_) #[true, true, true, true, true, true, true, true, true, true, true, false, false, false] rfl rfl (any_of HT_.out (by kernel_rfl)) (fun _ _ _ h => h) (Or.inl ⟨by rfl, ?_⟩) ?_ ?_
      rotate_left
      · intro w'
        go_simp
        with_reducible rfl
      rotate_left
      · simp only [Act.put, List.setIfInBounds_toArray, List.set_cons_zero, List.set_cons_succ, i64_w, i32_w]
        rfl
      exact norm_ (by first | (simp only [putAll, Act.put, List.setIfInBounds_toArray, List.set_cons_zero, List.set_cons_succ]; done) | (simp only [putAll, Act.put, List.setIfInBounds_toArray, List.set_cons_zero, List.set_cons_succ]; rfl)) (hJ (v_, g2) _ ⟨hHeld, HS.out⟩)
  rintro ⟨v_, g2⟩ wj ⟨hHeld, hS_⟩
  have n0_ : Aside0 (Sv w [(g2, #[.int .i64 0, .int .i64 0, .int .i64 0, .int .i64 0, .int .i64 0, .string (⟨#[]⟩ : ByteArray), .string (⟨#[]⟩ : ByteArray), .bool false], 36), (gc, #[.string (⟨#[73, 72, 68, 82]⟩ : ByteArray), .string awH], 30)] wj) := ⟨hS_⟩
  clear HS hS_
  have HS := n0_
  clear n0_
  refine norm_ (a' := ?_) ?_ ?_
  rotate_left
  · simp only [putAll, Act.put, List.setIfInBounds_toArray, List.set_cons_zero, List.set_cons_succ]
    rfl
  refine one_ (i := 11) (N := none) #[true, true, true, true, true, true, true, true, true, true, true, true, false, false] rfl rfl (one_of HT_.out (by kernel_rfl)) (by decide) (fun K hK => ?_)
  have y0 := (HS.out.cell 0 rfl 0).trans rfl; have k0 := HS.out.fz 0 rfl 0
  have y1 := (HS.out.cell 0 rfl 1).trans rfl; have k1 := HS.out.fz 0 rfl 1
  have y2 := (HS.out.cell 0 rfl 2).trans rfl; have k2 := HS.out.fz 0 rfl 2
  have y3 := (HS.out.cell 0 rfl 3).trans rfl; have k3 := HS.out.fz 0 rfl 3
  have y4 := (HS.out.cell 0 rfl 4).trans rfl; have k4 := HS.out.fz 0 rfl 4
  have y5 := (HS.out.cell 0 rfl 5).trans rfl; have k5 := HS.out.fz 0 rfl 5
  have y6 := (HS.out.cell 0 rfl 6).trans rfl; have k6 := HS.out.fz 0 rfl 6
  have y7 := (HS.out.cell 0 rfl 7).trans rfl; have k7 := HS.out.fz 0 rfl 7
  refine skip_ (w1 := ?_) (by rfl) rfl ?_ ?_
  rotate_left
  · go_simp
    rfl
  have n0_ : Aside0 (Sv w [(g2, #[.int .i64 1, .int .i64 1, .int .i64 8, .int .i64 0, .int .i64 0, .string (⟨#[]⟩ : ByteArray), .string (⟨#[]⟩ : ByteArray), .bool false], 36), (gc, #[.string (⟨#[73, 72, 68, 82]⟩ : ByteArray), .string awH], 30)] (World.setCell (World.setCell (World.setCell (World.setCell (World.setCell (World.setCell (World.setCell (World.setCell wj ⟨g2, 0, none⟩ (.int .i64 1)) ⟨g2, 1, none⟩ (.int .i64 1)) ⟨g2, 2, none⟩ (.int .i64 8)) ⟨g2, 3, none⟩ (.int .i64 0)) ⟨g2, 4, none⟩ (.int .i64 0)) ⟨g2, 5, none⟩ (.string (⟨#[]⟩ : ByteArray))) ⟨g2, 6, none⟩ (.string (⟨#[]⟩ : ByteArray))) ⟨g2, 7, none⟩ (.bool false))) := ⟨(Sv.set (Sv.set (Sv.set (Sv.set (Sv.set (Sv.set (Sv.set (Sv.set HS.out 0 rfl 0 (.int .i64 1)) 0 rfl 1 (.int .i64 1)) 0 rfl 2 (.int .i64 8)) 0 rfl 3 (.int .i64 0)) 0 rfl 4 (.int .i64 0)) 0 rfl 5 (.string (⟨#[]⟩ : ByteArray))) 0 rfl 6 (.string (⟨#[]⟩ : ByteArray))) 0 rfl 7 (.bool false))⟩
  clear HS y0 k0 y1 k1 y2 k2 y3 k3 y4 k4 y5 k5 y6 k6 y7 k7
  have HS := n0_
  clear n0_
  generalize (World.setCell (World.setCell (World.setCell (World.setCell (World.setCell (World.setCell (World.setCell (World.setCell wj ⟨g2, 0, none⟩ (.int .i64 1)) ⟨g2, 1, none⟩ (.int .i64 1)) ⟨g2, 2, none⟩ (.int .i64 8)) ⟨g2, 3, none⟩ (.int .i64 0)) ⟨g2, 4, none⟩ (.int .i64 0)) ⟨g2, 5, none⟩ (.string (⟨#[]⟩ : ByteArray))) ⟨g2, 6, none⟩ (.string (⟨#[]⟩ : ByteArray))) ⟨g2, 7, none⟩ (.bool false)) = w33 at HS ⊢
  refine hK.out _ _ ⟨(HS.out.cell 1 rfl 0).trans rfl, (HS.out.cell 1 rfl 1).trans rfl⟩ (fun hHeld => ?_)
  clear hK K
  refine pure_ (i := 12) (N := some 3) (v := ?_) (a' := ?_) #[true, true, true, true, true, true, true, true, true, true, true, true, true, false] rfl rfl (any_of HT_.out (by kernel_rfl)) (fun _ _ _ h => h) (Or.inl ⟨by rfl, ?_⟩) ?_ ?_
  rotate_left
  · intro w'
    go_simp
    with_reducible rfl
  rotate_left
  · simp only [Act.put, List.setIfInBounds_toArray, List.set_cons_zero, List.set_cons_succ, i64_w, i32_w]
    rfl
  refine pure_ (i := 13) (N := some 4) (v := ?_) (a' := ?_) #[true, true, true, true, true, true, true, true, true, true, true, true, true, true] rfl rfl (any_of HT_.out (by kernel_rfl)) (fun _ _ _ h => h) (Or.inl ⟨by rfl, ?_⟩) ?_ ?_
  rotate_left
  · intro w'
    go_simp
    with_reducible rfl
  rotate_left
  · simp only [Act.put, List.setIfInBounds_toArray, List.set_cons_zero, List.set_cons_succ, i64_w, i32_w]
    rfl
  refine done_ (done_of HT_.out (by kernel_rfl)) ?_
  clear HT_ HW_ hHeld
  try go_wp2
  have n0_ := Aside0.mk HS.out.drew
  clear HS
  have HS := n0_
  clear n0_
  refine start_ (n := 12) (S := fun w' => w'.cell? ⟨gc, 0, none⟩ = some (.string (⟨#[73, 72, 68, 82]⟩ : ByteArray)) ∧ w'.cell? ⟨gc, 1, none⟩ = some (.string awH)) (ds := []) #[false, false, false, false, false, false, false, false, false, false, false, false] (by kernel_rfl) rfl rfl ⟨(HS.out.cell 1 rfl 0).trans rfl, (HS.out.cell 1 rfl 1).trans rfl⟩ (fun hHeld => ?_)
  refine with_tabW vitrinelaw08_awake.tab3 vitrinelaw08_awake.bits3 (fun HT_ HW_ => ?_)
  generalize World.drew _ = w34 at HS hHeld ⊢
  refine take_ (i := 0) (N := some 27) (v := ?_) (a' := ?_) #[true, false, false, false, false, false, false, false, false, false, false, false] rfl rfl (take_ofW HT_.out HW_.out (by kernel_rfl)) (fun _ _ _ h => h) (Or.inl ⟨by rfl, ?_⟩) hHeld ?_ ?_
  rotate_left
  · rintro w' ⟨s0, s1⟩
    go_simp
    with_reducible rfl
  rotate_left
  · simp only [Act.put, List.setIfInBounds_toArray, List.set_cons_zero, List.set_cons_succ, i64_w, i32_w]
    rfl
  refine join_ (σ := Value × Nat) 3 #[true, true, true, true, true, true, true, true, true, false, false, false] (fun s_ => [(28, .agg #[.string (⟨#[73, 69, 78, 68]⟩ : ByteArray), .string (⟨#[]⟩ : ByteArray)]), (29, s_.1), (30, .tuple #[.agg #[.int .i64 0, .int .i64 0, .int .i64 0, .int .i64 0, .int .i64 0, .string (⟨#[]⟩ : ByteArray), .string (⟨#[]⟩ : ByteArray), .bool false], .string (⟨#[]⟩ : ByteArray), .int .i64 23]), (5, .pointer (some ⟨s_.2, 0, none⟩)), (26, .tuple #[.agg #[.int .i64 0, .int .i64 0, .int .i64 0, .int .i64 0, .int .i64 0, .string (⟨#[]⟩ : ByteArray), .string (⟨#[]⟩ : ByteArray), .bool false], .string (⟨#[]⟩ : ByteArray), .int .i64 23]), (31, .agg #[.int .i64 0, .int .i64 0, .int .i64 0, .int .i64 0, .int .i64 0, .string (⟨#[]⟩ : ByteArray), .string (⟨#[]⟩ : ByteArray), .bool false]), (32, .string (⟨#[]⟩ : ByteArray)), (33, .int .i64 23)]) (fun s_ w' => (w'.cell? ⟨gc, 0, none⟩ = some (.string (⟨#[73, 72, 68, 82]⟩ : ByteArray)) ∧ w'.cell? ⟨gc, 1, none⟩ = some (.string awH)) ∧ Sv w [(s_.2, #[.int .i64 0, .int .i64 0, .int .i64 0, .int .i64 0, .int .i64 0, .string (⟨#[]⟩ : ByteArray), .string (⟨#[]⟩ : ByteArray), .bool false], 36), (g2, #[.int .i64 1, .int .i64 1, .int .i64 8, .int .i64 0, .int .i64 0, .string (⟨#[]⟩ : ByteArray), .string (⟨#[]⟩ : ByteArray), .bool false], 36), (gc, #[.string (⟨#[73, 72, 68, 82]⟩ : ByteArray), .string awH], 30)] w') ?_ ?_
  rotate_left
  · intro hJ
    refine join_ (σ := Value × Nat) 7 #[true, true, true, true, false, false, false, false, true, false, false, false] (fun s_ => [(28, .agg #[.string (⟨#[73, 69, 78, 68]⟩ : ByteArray), .string (⟨#[]⟩ : ByteArray)]), (29, s_.1), (30, .tuple #[.agg #[.int .i64 0, .int .i64 0, .int .i64 0, .int .i64 0, .int .i64 0, .string (⟨#[]⟩ : ByteArray), .string (⟨#[]⟩ : ByteArray), .bool false], .string (⟨#[]⟩ : ByteArray), .int .i64 23]), (5, .pointer (some ⟨s_.2, 0, none⟩))]) (fun s_ w' => (w'.cell? ⟨gc, 0, none⟩ = some (.string (⟨#[73, 72, 68, 82]⟩ : ByteArray)) ∧ w'.cell? ⟨gc, 1, none⟩ = some (.string awH)) ∧ Sv w [(s_.2, #[.int .i64 0, .int .i64 0, .int .i64 0, .int .i64 0, .int .i64 0, .string (⟨#[]⟩ : ByteArray), .string (⟨#[]⟩ : ByteArray), .bool false], 36), (g2, #[.int .i64 1, .int .i64 1, .int .i64 8, .int .i64 0, .int .i64 0, .string (⟨#[]⟩ : ByteArray), .string (⟨#[]⟩ : ByteArray), .bool false], 36), (gc, #[.string (⟨#[73, 72, 68, 82]⟩ : ByteArray), .string awH], 30)] w') ?_ ?_
    rotate_left
    · intro hK5
      refine two_ (i := 1) (j := 8) (Ni := some 28) (Nj := some 5) #[true, true, false, false, false, false, false, false, false, false, false, false] #[true, false, false, false, false, false, false, false, true, false, false, false] rfl rfl rfl rfl (two_of HT_.out (by kernel_rfl)) (by decide) (by decide) (fun K hK => ?_) (fun K hK => ?_)
      · skip
        refine goes_ Try.func20 (by kernel_rfl) rfl #[] (by rfl) rfl rfl (by (try simp only [List.map_toArray, List.map_cons, List.map_nil]); first | done | rfl) ?_
        with_reducible refine (vitrinelaw08_ends.calls _ _ _ rfl).mono ?_
        rintro e w35 ⟨rfl, hb⟩
        refine ⟨_, rfl, ?_⟩
        have n0_ := Aside0.mk (HS.out.step hb)
        clear HS hb
        have HS := n0_
        clear n0_
        refine hK.out _ _ ⟨(HS.out.cell 1 rfl 0).trans rfl, (HS.out.cell 1 rfl 1).trans rfl⟩ (fun hHeld => ?_)
        clear hK K
        refine norm_ (a' := ?_) ?_ ?_
        rotate_left
        · show Act.put _ (some 28) _ = _
          simp only [Act.put, List.setIfInBounds_toArray, List.set_cons_zero, List.set_cons_succ, i64_w, i32_w]
          rfl
        refine two_ (i := 2) (j := 8) (Ni := some 29) (Nj := some 5) #[true, true, true, false, false, false, false, false, false, false, false, false] #[true, true, false, false, false, false, false, false, true, false, false, false] rfl rfl rfl rfl (two_of HT_.out (by kernel_rfl)) (by decide) (by decide) (fun K hK => ?_) (fun K hK => ?_)
        · skip
          refine Kd.R_lit_step k30 _ 30 ?hg (N := 29) ?hd (xs := [(⟨(⟨#[73, 72, 68, 82]⟩ : ByteArray), awH⟩ : S30), (⟨(⟨#[73, 69, 78, 68]⟩ : ByteArray), (⟨#[]⟩ : ByteArray)⟩ : S30)]) (inner := [.string (⟨#[73, 72, 68, 82]⟩ : ByteArray), .string awH, .string (⟨#[73, 69, 78, 68]⟩ : ByteArray), .string (⟨#[]⟩ : ByteArray)]) (ok := fun _ => True) (okp := fun _ => True) ?hr ?hp (fun _ hk => hk) trivial (Below.refl _ _) (Nat.le_refl _) (by simp) ?_; (case hd => rfl); (case hg => rfl); (case hr => first | (go_simp; done) | (go_simp; rfl)); (case hp => exact (Reps.c2 (k30_mkM _ _ _ (⟨(⟨#[73, 72, 68, 82]⟩ : ByteArray), awH⟩ : S30)) (Reps.c2 (k30_mkM _ _ _ (⟨(⟨#[73, 69, 78, 68]⟩ : ByteArray), (⟨#[]⟩ : ByteArray)⟩ : S30)) (Reps.none _ _))))
          intro v36 w37 ho_ hb hg_ hnew_
          have HO := Aside0.mk ho_
          clear hg_ hnew_ ho_
          have n0_ := Aside0.mk (HS.out.step hb)
          clear HS hb
          have HS := n0_
          clear n0_
          refine hK.out _ _ ⟨(HS.out.cell 1 rfl 0).trans rfl, (HS.out.cell 1 rfl 1).trans rfl⟩ (fun hHeld => ?_)
          clear hK K
          refine norm_ (a' := ?_) ?_ ?_
          rotate_left
          · show Act.put _ (some 29) _ = _
            simp only [Act.put, List.setIfInBounds_toArray, List.set_cons_zero, List.set_cons_succ, i64_w, i32_w]
            rfl
          obtain ⟨Ao, co, rfl⟩ := Kd.R_slice HO.out
          refine two_ (i := 3) (j := 8) (Ni := some 30) (Nj := some 5) #[true, true, true, true, false, false, false, false, false, false, false, false] #[true, true, true, false, false, false, false, false, true, false, false, false] rfl rfl rfl rfl (two_of HT_.out (by kernel_rfl)) (by decide) (by decide) (fun K hK => ?_) (fun K hK => ?_)
          · skip
            refine goes_ Try.func17 (by kernel_rfl) rfl #[.slice Ao ([(⟨(⟨#[73, 72, 68, 82]⟩ : ByteArray), awH⟩ : S30), (⟨(⟨#[73, 69, 78, 68]⟩ : ByteArray), (⟨#[]⟩ : ByteArray)⟩ : S30)] : List S30).length co] (by rfl) rfl rfl (by (try simp only [List.map_toArray, List.map_cons, List.map_nil]); first | done | rfl) ?_
            with_reducible refine (head_Read.calls 20 _ _ [(⟨(⟨#[73, 72, 68, 82]⟩ : ByteArray), awH⟩ : S30), (⟨(⟨#[73, 69, 78, 68]⟩ : ByteArray), (⟨#[]⟩ : ByteArray)⟩ : S30)] 0 0 0 0 0 (⟨#[]⟩ : ByteArray) (⟨#[]⟩ : ByteArray) false (⟨#[]⟩ : ByteArray) 23 _ (Kd.R_reads' HO.out).2.2 (Kd.R_reads' HO.out).2.1 aw_r1).mono ?_
            rintro e w38 ⟨rfl, hb⟩
            refine ⟨_, rfl, ?_⟩
            clear HO
            have n0_ := Aside0.mk (HS.out.step hb)
            clear HS hb
            have HS := n0_
            clear n0_
            refine hK.out _ _ ⟨(HS.out.cell 1 rfl 0).trans rfl, (HS.out.cell 1 rfl 1).trans rfl⟩ (fun hHeld => ?_)
            clear hK K
            refine norm_ (a' := ?_) ?_ ?_
            rotate_left
            · show Act.put _ (some 30) _ = _
              simp only [Act.put, List.setIfInBounds_toArray, List.set_cons_zero, List.set_cons_succ, i64_w, i32_w]
              rfl
            refine pure_ (i := 4) (N := some 26) (v := ?_) (a' := ?_) #[true, true, true, true, true, false, false, false, false, false, false, false] rfl rfl (any_of HT_.out (by kernel_rfl)) (fun _ _ _ h => h) (Or.inl ⟨by rfl, ?_⟩) ?_ ?_
            rotate_left
            · intro w'
              go_simp
              with_reducible rfl
            rotate_left
            · simp only [Act.put, List.setIfInBounds_toArray, List.set_cons_zero, List.set_cons_succ, i64_w, i32_w]
              rfl
            refine pure_ (i := 5) (N := some 31) (v := ?_) (a' := ?_) #[true, true, true, true, true, true, false, false, false, false, false, false] rfl rfl (any_of HT_.out (by kernel_rfl)) (fun _ _ _ h => h) (Or.inl ⟨by rfl, ?_⟩) ?_ ?_
            rotate_left
            · intro w'
              go_simp
              with_reducible rfl
            rotate_left
            · simp only [Act.put, List.setIfInBounds_toArray, List.set_cons_zero, List.set_cons_succ, i64_w, i32_w]
              rfl
            refine pure_ (i := 6) (N := some 32) (v := ?_) (a' := ?_) #[true, true, true, true, true, true, true, false, false, false, false, false] rfl rfl (any_of HT_.out (by kernel_rfl)) (fun _ _ _ h => h) (Or.inl ⟨by rfl, ?_⟩) ?_ ?_
            rotate_left
            · intro w'
              go_simp
              with_reducible rfl
            rotate_left
            · simp only [Act.put, List.setIfInBounds_toArray, List.set_cons_zero, List.set_cons_succ, i64_w, i32_w]
              rfl
            refine pure_ (i := 7) (N := some 33) (v := ?_) (a' := ?_) #[true, true, true, true, true, true, true, true, false, false, false, false] rfl rfl (any_of HT_.out (by kernel_rfl)) (fun _ _ _ h => h) (Or.inl ⟨by rfl, ?_⟩) ?_ ?_
            rotate_left
            · intro w'
              go_simp
              with_reducible rfl
            rotate_left
            · simp only [Act.put, List.setIfInBounds_toArray, List.set_cons_zero, List.set_cons_succ, i64_w, i32_w]
              rfl
            refine one_ (i := 8) (N := some 5) #[true, true, true, true, true, true, true, true, true, false, false, false] rfl rfl (one_of HT_.out (by kernel_rfl)) (by decide) (fun K hK => ?_)
            refine box_step (by rfl) (N := 5) rfl (cs := #[.int .i64 0, .int .i64 0, .int .i64 0, .int .i64 0, .int .i64 0, .string (⟨#[]⟩ : ByteArray), .string (⟨#[]⟩ : ByteArray), .bool false]) (t := 36) (by first | (go_simp; done) | (go_simp; rfl)) ?_
            intro g5 hg w39 hbox hb
            have n0_ := Aside0.mk (HS.out.box hb hg hbox)
            clear HS hb hg hbox
            have HS := n0_
            clear n0_
            refine hK.out _ _ ⟨(HS.out.cell 2 rfl 0).trans rfl, (HS.out.cell 2 rfl 1).trans rfl⟩ (fun hHeld => ?_)
            clear hK K
            refine norm_ (a' := ?_) ?_ ?_
            rotate_left
            · show Act.put _ (some 5) _ = _
              simp only [Act.put, List.setIfInBounds_toArray, List.set_cons_zero, List.set_cons_succ, i64_w, i32_w]
              rfl
            exact norm_ (by first | (simp only [putAll, Act.put, List.setIfInBounds_toArray, List.set_cons_zero, List.set_cons_succ]; done) | (simp only [putAll, Act.put, List.setIfInBounds_toArray, List.set_cons_zero, List.set_cons_succ]; rfl)) (hJ (_, g5) _ ⟨hHeld, HS.out⟩)
          · skip
            refine box_step (by rfl) (N := 5) rfl (cs := #[.int .i64 0, .int .i64 0, .int .i64 0, .int .i64 0, .int .i64 0, .string (⟨#[]⟩ : ByteArray), .string (⟨#[]⟩ : ByteArray), .bool false]) (t := 36) (by first | (go_simp; done) | (go_simp; rfl)) ?_
            intro g5 hg w40 hbox hb
            have n0_ := Aside0.mk (HS.out.box hb hg hbox); have n1_ := Aside0.mk (Kd.R_below HO.out hb)
            clear HS hb hg hbox HO
            have HS := n0_; have HO := n1_
            clear n0_ n1_
            refine hK.out _ _ ⟨(HS.out.cell 2 rfl 0).trans rfl, (HS.out.cell 2 rfl 1).trans rfl⟩ (fun hHeld => ?_)
            clear hK K
            refine norm_ (a' := ?_) ?_ ?_
            rotate_left
            · show Act.put _ (some 5) _ = _
              simp only [Act.put, List.setIfInBounds_toArray, List.set_cons_zero, List.set_cons_succ, i64_w, i32_w]
              rfl
            refine one_ (i := 3) (N := some 30) #[true, true, true, true, false, false, false, false, true, false, false, false] rfl rfl (one_of HT_.out (by kernel_rfl)) (by decide) (fun K hK => ?_)
            refine goes_ Try.func17 (by kernel_rfl) rfl #[.slice Ao ([(⟨(⟨#[73, 72, 68, 82]⟩ : ByteArray), awH⟩ : S30), (⟨(⟨#[73, 69, 78, 68]⟩ : ByteArray), (⟨#[]⟩ : ByteArray)⟩ : S30)] : List S30).length co] (by rfl) rfl rfl (by (try simp only [List.map_toArray, List.map_cons, List.map_nil]); first | done | rfl) ?_
            with_reducible refine (head_Read.calls 20 _ _ [(⟨(⟨#[73, 72, 68, 82]⟩ : ByteArray), awH⟩ : S30), (⟨(⟨#[73, 69, 78, 68]⟩ : ByteArray), (⟨#[]⟩ : ByteArray)⟩ : S30)] 0 0 0 0 0 (⟨#[]⟩ : ByteArray) (⟨#[]⟩ : ByteArray) false (⟨#[]⟩ : ByteArray) 23 _ (Kd.R_reads' HO.out).2.2 (Kd.R_reads' HO.out).2.1 aw_r1).mono ?_
            rintro e w41 ⟨rfl, hb⟩
            refine ⟨_, rfl, ?_⟩
            clear HO
            have n0_ := Aside0.mk (HS.out.step hb)
            clear HS hb
            have HS := n0_
            clear n0_
            refine hK.out _ _ ⟨(HS.out.cell 2 rfl 0).trans rfl, (HS.out.cell 2 rfl 1).trans rfl⟩ (fun hHeld => ?_)
            clear hK K
            refine norm_ (a' := ?_) ?_ ?_
            rotate_left
            · show Act.put _ (some 30) _ = _
              simp only [Act.put, List.setIfInBounds_toArray, List.set_cons_zero, List.set_cons_succ, i64_w, i32_w]
              rfl
            exact norm_ (by first | (simp only [putAll, Act.put, List.setIfInBounds_toArray, List.set_cons_zero, List.set_cons_succ]; done) | (simp only [putAll, Act.put, List.setIfInBounds_toArray, List.set_cons_zero, List.set_cons_succ]; rfl)) (hK5 (_, g5) _ ⟨hHeld, HS.out⟩)
        · skip
          refine box_step (by rfl) (N := 5) rfl (cs := #[.int .i64 0, .int .i64 0, .int .i64 0, .int .i64 0, .int .i64 0, .string (⟨#[]⟩ : ByteArray), .string (⟨#[]⟩ : ByteArray), .bool false]) (t := 36) (by first | (go_simp; done) | (go_simp; rfl)) ?_
          intro g5 hg w42 hbox hb
          have n0_ := Aside0.mk (HS.out.box hb hg hbox)
          clear HS hb hg hbox
          have HS := n0_
          clear n0_
          refine hK.out _ _ ⟨(HS.out.cell 2 rfl 0).trans rfl, (HS.out.cell 2 rfl 1).trans rfl⟩ (fun hHeld => ?_)
          clear hK K
          refine norm_ (a' := ?_) ?_ ?_
          rotate_left
          · show Act.put _ (some 5) _ = _
            simp only [Act.put, List.setIfInBounds_toArray, List.set_cons_zero, List.set_cons_succ, i64_w, i32_w]
            rfl
          refine one_ (i := 2) (N := some 29) #[true, true, true, false, false, false, false, false, true, false, false, false] rfl rfl (one_of HT_.out (by kernel_rfl)) (by decide) (fun K hK => ?_)
          refine Kd.R_lit_step k30 _ 30 ?hg (N := 29) ?hd (xs := [(⟨(⟨#[73, 72, 68, 82]⟩ : ByteArray), awH⟩ : S30), (⟨(⟨#[73, 69, 78, 68]⟩ : ByteArray), (⟨#[]⟩ : ByteArray)⟩ : S30)]) (inner := [.string (⟨#[73, 72, 68, 82]⟩ : ByteArray), .string awH, .string (⟨#[73, 69, 78, 68]⟩ : ByteArray), .string (⟨#[]⟩ : ByteArray)]) (ok := fun _ => True) (okp := fun _ => True) ?hr ?hp (fun _ hk => hk) trivial (Below.refl _ _) (Nat.le_refl _) (by simp) ?_; (case hd => rfl); (case hg => rfl); (case hr => first | (go_simp; done) | (go_simp; rfl)); (case hp => exact (Reps.c2 (k30_mkM _ _ _ (⟨(⟨#[73, 72, 68, 82]⟩ : ByteArray), awH⟩ : S30)) (Reps.c2 (k30_mkM _ _ _ (⟨(⟨#[73, 69, 78, 68]⟩ : ByteArray), (⟨#[]⟩ : ByteArray)⟩ : S30)) (Reps.none _ _))))
          intro v43 w44 ho_ hb hg_ hnew_
          have HO := Aside0.mk ho_
          clear hg_ hnew_ ho_
          have n0_ := Aside0.mk (HS.out.step hb)
          clear HS hb
          have HS := n0_
          clear n0_
          refine hK.out _ _ ⟨(HS.out.cell 2 rfl 0).trans rfl, (HS.out.cell 2 rfl 1).trans rfl⟩ (fun hHeld => ?_)
          clear hK K
          refine norm_ (a' := ?_) ?_ ?_
          rotate_left
          · show Act.put _ (some 29) _ = _
            simp only [Act.put, List.setIfInBounds_toArray, List.set_cons_zero, List.set_cons_succ, i64_w, i32_w]
            rfl
          obtain ⟨Ao, co, rfl⟩ := Kd.R_slice HO.out
          refine one_ (i := 3) (N := some 30) #[true, true, true, true, false, false, false, false, true, false, false, false] rfl rfl (one_of HT_.out (by kernel_rfl)) (by decide) (fun K hK => ?_)
          refine goes_ Try.func17 (by kernel_rfl) rfl #[.slice Ao ([(⟨(⟨#[73, 72, 68, 82]⟩ : ByteArray), awH⟩ : S30), (⟨(⟨#[73, 69, 78, 68]⟩ : ByteArray), (⟨#[]⟩ : ByteArray)⟩ : S30)] : List S30).length co] (by rfl) rfl rfl (by (try simp only [List.map_toArray, List.map_cons, List.map_nil]); first | done | rfl) ?_
          with_reducible refine (head_Read.calls 20 _ _ [(⟨(⟨#[73, 72, 68, 82]⟩ : ByteArray), awH⟩ : S30), (⟨(⟨#[73, 69, 78, 68]⟩ : ByteArray), (⟨#[]⟩ : ByteArray)⟩ : S30)] 0 0 0 0 0 (⟨#[]⟩ : ByteArray) (⟨#[]⟩ : ByteArray) false (⟨#[]⟩ : ByteArray) 23 _ (Kd.R_reads' HO.out).2.2 (Kd.R_reads' HO.out).2.1 aw_r1).mono ?_
          rintro e w45 ⟨rfl, hb⟩
          refine ⟨_, rfl, ?_⟩
          clear HO
          have n0_ := Aside0.mk (HS.out.step hb)
          clear HS hb
          have HS := n0_
          clear n0_
          refine hK.out _ _ ⟨(HS.out.cell 2 rfl 0).trans rfl, (HS.out.cell 2 rfl 1).trans rfl⟩ (fun hHeld => ?_)
          clear hK K
          refine norm_ (a' := ?_) ?_ ?_
          rotate_left
          · show Act.put _ (some 30) _ = _
            simp only [Act.put, List.setIfInBounds_toArray, List.set_cons_zero, List.set_cons_succ, i64_w, i32_w]
            rfl
          exact norm_ (by first | (simp only [putAll, Act.put, List.setIfInBounds_toArray, List.set_cons_zero, List.set_cons_succ]; done) | (simp only [putAll, Act.put, List.setIfInBounds_toArray, List.set_cons_zero, List.set_cons_succ]; rfl)) (hK5 (_, g5) _ ⟨hHeld, HS.out⟩)
      · skip
        refine box_step (by rfl) (N := 5) rfl (cs := #[.int .i64 0, .int .i64 0, .int .i64 0, .int .i64 0, .int .i64 0, .string (⟨#[]⟩ : ByteArray), .string (⟨#[]⟩ : ByteArray), .bool false]) (t := 36) (by first | (go_simp; done) | (go_simp; rfl)) ?_
        intro g5 hg w46 hbox hb
        have n0_ := Aside0.mk (HS.out.box hb hg hbox)
        clear HS hb hg hbox
        have HS := n0_
        clear n0_
        refine hK.out _ _ ⟨(HS.out.cell 2 rfl 0).trans rfl, (HS.out.cell 2 rfl 1).trans rfl⟩ (fun hHeld => ?_)
        clear hK K
        refine norm_ (a' := ?_) ?_ ?_
        rotate_left
        · show Act.put _ (some 5) _ = _
          simp only [Act.put, List.setIfInBounds_toArray, List.set_cons_zero, List.set_cons_succ, i64_w, i32_w]
          rfl
        refine one_ (i := 1) (N := some 28) #[true, true, false, false, false, false, false, false, true, false, false, false] rfl rfl (one_of HT_.out (by kernel_rfl)) (by decide) (fun K hK => ?_)
        refine goes_ Try.func20 (by kernel_rfl) rfl #[] (by rfl) rfl rfl (by (try simp only [List.map_toArray, List.map_cons, List.map_nil]); first | done | rfl) ?_
        with_reducible refine (vitrinelaw08_ends.calls _ _ _ rfl).mono ?_
        rintro e w47 ⟨rfl, hb⟩
        refine ⟨_, rfl, ?_⟩
        have n0_ := Aside0.mk (HS.out.step hb)
        clear HS hb
        have HS := n0_
        clear n0_
        refine hK.out _ _ ⟨(HS.out.cell 2 rfl 0).trans rfl, (HS.out.cell 2 rfl 1).trans rfl⟩ (fun hHeld => ?_)
        clear hK K
        refine norm_ (a' := ?_) ?_ ?_
        rotate_left
        · show Act.put _ (some 28) _ = _
          simp only [Act.put, List.setIfInBounds_toArray, List.set_cons_zero, List.set_cons_succ, i64_w, i32_w]
          rfl
        refine one_ (i := 2) (N := some 29) #[true, true, true, false, false, false, false, false, true, false, false, false] rfl rfl (one_of HT_.out (by kernel_rfl)) (by decide) (fun K hK => ?_)
        refine Kd.R_lit_step k30 _ 30 ?hg (N := 29) ?hd (xs := [(⟨(⟨#[73, 72, 68, 82]⟩ : ByteArray), awH⟩ : S30), (⟨(⟨#[73, 69, 78, 68]⟩ : ByteArray), (⟨#[]⟩ : ByteArray)⟩ : S30)]) (inner := [.string (⟨#[73, 72, 68, 82]⟩ : ByteArray), .string awH, .string (⟨#[73, 69, 78, 68]⟩ : ByteArray), .string (⟨#[]⟩ : ByteArray)]) (ok := fun _ => True) (okp := fun _ => True) ?hr ?hp (fun _ hk => hk) trivial (Below.refl _ _) (Nat.le_refl _) (by simp) ?_; (case hd => rfl); (case hg => rfl); (case hr => first | (go_simp; done) | (go_simp; rfl)); (case hp => exact (Reps.c2 (k30_mkM _ _ _ (⟨(⟨#[73, 72, 68, 82]⟩ : ByteArray), awH⟩ : S30)) (Reps.c2 (k30_mkM _ _ _ (⟨(⟨#[73, 69, 78, 68]⟩ : ByteArray), (⟨#[]⟩ : ByteArray)⟩ : S30)) (Reps.none _ _))))
        intro v48 w49 ho_ hb hg_ hnew_
        have HO := Aside0.mk ho_
        clear hg_ hnew_ ho_
        have n0_ := Aside0.mk (HS.out.step hb)
        clear HS hb
        have HS := n0_
        clear n0_
        refine hK.out _ _ ⟨(HS.out.cell 2 rfl 0).trans rfl, (HS.out.cell 2 rfl 1).trans rfl⟩ (fun hHeld => ?_)
        clear hK K
        refine norm_ (a' := ?_) ?_ ?_
        rotate_left
        · show Act.put _ (some 29) _ = _
          simp only [Act.put, List.setIfInBounds_toArray, List.set_cons_zero, List.set_cons_succ, i64_w, i32_w]
          rfl
        obtain ⟨Ao, co, rfl⟩ := Kd.R_slice HO.out
        refine one_ (i := 3) (N := some 30) #[true, true, true, true, false, false, false, false, true, false, false, false] rfl rfl (one_of HT_.out (by kernel_rfl)) (by decide) (fun K hK => ?_)
        refine goes_ Try.func17 (by kernel_rfl) rfl #[.slice Ao ([(⟨(⟨#[73, 72, 68, 82]⟩ : ByteArray), awH⟩ : S30), (⟨(⟨#[73, 69, 78, 68]⟩ : ByteArray), (⟨#[]⟩ : ByteArray)⟩ : S30)] : List S30).length co] (by rfl) rfl rfl (by (try simp only [List.map_toArray, List.map_cons, List.map_nil]); first | done | rfl) ?_
        with_reducible refine (head_Read.calls 20 _ _ [(⟨(⟨#[73, 72, 68, 82]⟩ : ByteArray), awH⟩ : S30), (⟨(⟨#[73, 69, 78, 68]⟩ : ByteArray), (⟨#[]⟩ : ByteArray)⟩ : S30)] 0 0 0 0 0 (⟨#[]⟩ : ByteArray) (⟨#[]⟩ : ByteArray) false (⟨#[]⟩ : ByteArray) 23 _ (Kd.R_reads' HO.out).2.2 (Kd.R_reads' HO.out).2.1 aw_r1).mono ?_
        rintro e w50 ⟨rfl, hb⟩
        refine ⟨_, rfl, ?_⟩
        clear HO
        have n0_ := Aside0.mk (HS.out.step hb)
        clear HS hb
        have HS := n0_
        clear n0_
        refine hK.out _ _ ⟨(HS.out.cell 2 rfl 0).trans rfl, (HS.out.cell 2 rfl 1).trans rfl⟩ (fun hHeld => ?_)
        clear hK K
        refine norm_ (a' := ?_) ?_ ?_
        rotate_left
        · show Act.put _ (some 30) _ = _
          simp only [Act.put, List.setIfInBounds_toArray, List.set_cons_zero, List.set_cons_succ, i64_w, i32_w]
          rfl
        exact norm_ (by first | (simp only [putAll, Act.put, List.setIfInBounds_toArray, List.set_cons_zero, List.set_cons_succ]; done) | (simp only [putAll, Act.put, List.setIfInBounds_toArray, List.set_cons_zero, List.set_cons_succ]; rfl)) (hK5 (_, g5) _ ⟨hHeld, HS.out⟩)
    · rintro ⟨v_, g5⟩ wj ⟨hHeld, hS_⟩
      have n0_ : Aside0 (Sv w [(g5, #[.int .i64 0, .int .i64 0, .int .i64 0, .int .i64 0, .int .i64 0, .string (⟨#[]⟩ : ByteArray), .string (⟨#[]⟩ : ByteArray), .bool false], 36), (g2, #[.int .i64 1, .int .i64 1, .int .i64 8, .int .i64 0, .int .i64 0, .string (⟨#[]⟩ : ByteArray), .string (⟨#[]⟩ : ByteArray), .bool false], 36), (gc, #[.string (⟨#[73, 72, 68, 82]⟩ : ByteArray), .string awH], 30)] wj) := ⟨hS_⟩
      clear HS hS_
      have HS := n0_
      clear n0_
      refine norm_ (a' := ?_) ?_ ?_
      rotate_left
      · simp only [putAll, Act.put, List.setIfInBounds_toArray, List.set_cons_zero, List.set_cons_succ]
        rfl
      refine pure_ (i := 4) (N := some 26) (v := ?_) (a' := ?_) #[true, true, true, true, true, false, false, false, true, false, false, false] rfl rfl (any_of HT_.out (by kernel_rfl)) (fun _ _ _ h => h) (Or.inl ⟨by rfl, ?_⟩) ?_ ?_
      rotate_left
      · intro w'
        go_simp
        with_reducible rfl
      rotate_left
      · simp only [Act.put, List.setIfInBounds_toArray, List.set_cons_zero, List.set_cons_succ, i64_w, i32_w]
        rfl
      refine pure_ (i := 5) (N := some 31) (v := ?_) (a' := ?_) #[true, true, true, true, true, true, false, false, true, false, false, false] rfl rfl (any_of HT_.out (by kernel_rfl)) (fun _ _ _ h => h) (Or.inl ⟨by rfl, ?_⟩) ?_ ?_
      rotate_left
      · intro w'
        go_simp
        with_reducible rfl
      rotate_left
      · simp only [Act.put, List.setIfInBounds_toArray, List.set_cons_zero, List.set_cons_succ, i64_w, i32_w]
        rfl
      refine pure_ (i := 6) (N := some 32) (v := ?_) (a' := ?_) #[true, true, true, true, true, true, true, false, true, false, false, false] rfl rfl (any_of HT_.out (by kernel_rfl)) (fun _ _ _ h => h) (Or.inl ⟨by rfl, ?_⟩) ?_ ?_
      rotate_left
      · intro w'
        go_simp
        with_reducible rfl
      rotate_left
      · simp only [Act.put, List.setIfInBounds_toArray, List.set_cons_zero, List.set_cons_succ, i64_w, i32_w]
        rfl
      refine pure_ (i := 7) (N := some 33) (v := ?_) (a' := ?_) #[true, true, true, true, true, true, true, true, true, false, false, false] rfl rfl (any_of HT_.out (by kernel_rfl)) (fun _ _ _ h => h) (Or.inl ⟨by rfl, ?_⟩) ?_ ?_
      rotate_left
      · intro w'
        go_simp
        with_reducible rfl
      rotate_left
      · simp only [Act.put, List.setIfInBounds_toArray, List.set_cons_zero, List.set_cons_succ, i64_w, i32_w]
        rfl
      exact norm_ (by first | (simp only [putAll, Act.put, List.setIfInBounds_toArray, List.set_cons_zero, List.set_cons_succ]; done) | (simp only [putAll, Act.put, List.setIfInBounds_toArray, List.set_cons_zero, List.set_cons_succ]; rfl)) (hJ (v_, g5) _ ⟨hHeld, HS.out⟩)
  rintro ⟨v_, g5⟩ wj ⟨hHeld, hS_⟩
  have n0_ : Aside0 (Sv w [(g5, #[.int .i64 0, .int .i64 0, .int .i64 0, .int .i64 0, .int .i64 0, .string (⟨#[]⟩ : ByteArray), .string (⟨#[]⟩ : ByteArray), .bool false], 36), (g2, #[.int .i64 1, .int .i64 1, .int .i64 8, .int .i64 0, .int .i64 0, .string (⟨#[]⟩ : ByteArray), .string (⟨#[]⟩ : ByteArray), .bool false], 36), (gc, #[.string (⟨#[73, 72, 68, 82]⟩ : ByteArray), .string awH], 30)] wj) := ⟨hS_⟩
  clear HS hS_
  have HS := n0_
  clear n0_
  refine norm_ (a' := ?_) ?_ ?_
  rotate_left
  · simp only [putAll, Act.put, List.setIfInBounds_toArray, List.set_cons_zero, List.set_cons_succ]
    rfl
  refine one_ (i := 9) (N := none) #[true, true, true, true, true, true, true, true, true, true, false, false] rfl rfl (one_of HT_.out (by kernel_rfl)) (by decide) (fun K hK => ?_)
  have y0 := (HS.out.cell 0 rfl 0).trans rfl; have k0 := HS.out.fz 0 rfl 0
  have y1 := (HS.out.cell 0 rfl 1).trans rfl; have k1 := HS.out.fz 0 rfl 1
  have y2 := (HS.out.cell 0 rfl 2).trans rfl; have k2 := HS.out.fz 0 rfl 2
  have y3 := (HS.out.cell 0 rfl 3).trans rfl; have k3 := HS.out.fz 0 rfl 3
  have y4 := (HS.out.cell 0 rfl 4).trans rfl; have k4 := HS.out.fz 0 rfl 4
  have y5 := (HS.out.cell 0 rfl 5).trans rfl; have k5 := HS.out.fz 0 rfl 5
  have y6 := (HS.out.cell 0 rfl 6).trans rfl; have k6 := HS.out.fz 0 rfl 6
  have y7 := (HS.out.cell 0 rfl 7).trans rfl; have k7 := HS.out.fz 0 rfl 7
  refine skip_ (w1 := ?_) (by rfl) rfl ?_ ?_
  rotate_left
  · go_simp
    rfl
  have n0_ : Aside0 (Sv w [(g5, #[.int .i64 0, .int .i64 0, .int .i64 0, .int .i64 0, .int .i64 0, .string (⟨#[]⟩ : ByteArray), .string (⟨#[]⟩ : ByteArray), .bool false], 36), (g2, #[.int .i64 1, .int .i64 1, .int .i64 8, .int .i64 0, .int .i64 0, .string (⟨#[]⟩ : ByteArray), .string (⟨#[]⟩ : ByteArray), .bool false], 36), (gc, #[.string (⟨#[73, 72, 68, 82]⟩ : ByteArray), .string awH], 30)] (World.setCell (World.setCell (World.setCell (World.setCell (World.setCell (World.setCell (World.setCell (World.setCell wj ⟨g5, 0, none⟩ (.int .i64 0)) ⟨g5, 1, none⟩ (.int .i64 0)) ⟨g5, 2, none⟩ (.int .i64 0)) ⟨g5, 3, none⟩ (.int .i64 0)) ⟨g5, 4, none⟩ (.int .i64 0)) ⟨g5, 5, none⟩ (.string (⟨#[]⟩ : ByteArray))) ⟨g5, 6, none⟩ (.string (⟨#[]⟩ : ByteArray))) ⟨g5, 7, none⟩ (.bool false))) := ⟨(Sv.set (Sv.set (Sv.set (Sv.set (Sv.set (Sv.set (Sv.set (Sv.set HS.out 0 rfl 0 (.int .i64 0)) 0 rfl 1 (.int .i64 0)) 0 rfl 2 (.int .i64 0)) 0 rfl 3 (.int .i64 0)) 0 rfl 4 (.int .i64 0)) 0 rfl 5 (.string (⟨#[]⟩ : ByteArray))) 0 rfl 6 (.string (⟨#[]⟩ : ByteArray))) 0 rfl 7 (.bool false))⟩
  clear HS y0 k0 y1 k1 y2 k2 y3 k3 y4 k4 y5 k5 y6 k6 y7 k7
  have HS := n0_
  clear n0_
  generalize (World.setCell (World.setCell (World.setCell (World.setCell (World.setCell (World.setCell (World.setCell (World.setCell wj ⟨g5, 0, none⟩ (.int .i64 0)) ⟨g5, 1, none⟩ (.int .i64 0)) ⟨g5, 2, none⟩ (.int .i64 0)) ⟨g5, 3, none⟩ (.int .i64 0)) ⟨g5, 4, none⟩ (.int .i64 0)) ⟨g5, 5, none⟩ (.string (⟨#[]⟩ : ByteArray))) ⟨g5, 6, none⟩ (.string (⟨#[]⟩ : ByteArray))) ⟨g5, 7, none⟩ (.bool false)) = w51 at HS ⊢
  refine hK.out _ _ ⟨(HS.out.cell 2 rfl 0).trans rfl, (HS.out.cell 2 rfl 1).trans rfl⟩ (fun hHeld => ?_)
  clear hK K
  refine pure_ (i := 10) (N := some 6) (v := ?_) (a' := ?_) #[true, true, true, true, true, true, true, true, true, true, true, false] rfl rfl (any_of HT_.out (by kernel_rfl)) (fun _ _ _ h => h) (Or.inl ⟨by rfl, ?_⟩) ?_ ?_
  rotate_left
  · intro w'
    go_simp
    with_reducible rfl
  rotate_left
  · simp only [Act.put, List.setIfInBounds_toArray, List.set_cons_zero, List.set_cons_succ, i64_w, i32_w]
    rfl
  refine pure_ (i := 11) (N := some 7) (v := ?_) (a' := ?_) #[true, true, true, true, true, true, true, true, true, true, true, true] rfl rfl (any_of HT_.out (by kernel_rfl)) (fun _ _ _ h => h) (Or.inl ⟨by rfl, ?_⟩) ?_ ?_
  rotate_left
  · intro w'
    go_simp
    with_reducible rfl
  rotate_left
  · simp only [Act.put, List.setIfInBounds_toArray, List.set_cons_zero, List.set_cons_succ, i64_w, i32_w]
    rfl
  refine done_ (done_of HT_.out (by kernel_rfl)) ?_
  clear HT_ HW_ hHeld
  try go_wp2
  have n0_ := Aside0.mk HS.out.tail
  clear HS
  have HS := n0_
  clear n0_
  have n0_ := Aside0.mk HS.out.drew
  clear HS
  have HS := n0_
  clear n0_
  refine start_ (n := 15) (S := fun w' => w'.cell? ⟨gc, 0, none⟩ = some (.string (⟨#[73, 72, 68, 82]⟩ : ByteArray)) ∧ w'.cell? ⟨gc, 1, none⟩ = some (.string awH)) (ds := []) #[false, false, false, false, false, false, false, false, false, false, false, false, false, false, false] (by kernel_rfl) rfl rfl ⟨(HS.out.cell 1 rfl 0).trans rfl, (HS.out.cell 1 rfl 1).trans rfl⟩ (fun hHeld => ?_)
  refine with_tabW vitrinelaw08_awake.tab4 vitrinelaw08_awake.bits4 (fun HT_ HW_ => ?_)
  generalize World.drew _ = w52 at HS hHeld ⊢
  refine take_ (i := 0) (N := some 35) (v := ?_) (a' := ?_) #[true, false, false, false, false, false, false, false, false, false, false, false, false, false, false] rfl rfl (take_ofW HT_.out HW_.out (by kernel_rfl)) (fun _ _ _ h => h) (Or.inl ⟨by rfl, ?_⟩) hHeld ?_ ?_
  rotate_left
  · rintro w' ⟨s0, s1⟩
    go_simp
    with_reducible rfl
  rotate_left
  · simp only [Act.put, List.setIfInBounds_toArray, List.set_cons_zero, List.set_cons_succ, i64_w, i32_w]
    rfl
  refine pure_ (i := 2) (N := some 37) (v := ?_) (a' := ?_) #[true, false, true, false, false, false, false, false, false, false, false, false, false, false, false] rfl rfl (any_of HT_.out (by kernel_rfl)) (fun _ _ _ h => h) (Or.inl ⟨by rfl, ?_⟩) ?_ ?_
  rotate_left
  · intro w'
    go_simp
    with_reducible rfl
  rotate_left
  · simp only [Act.put, List.setIfInBounds_toArray, List.set_cons_zero, List.set_cons_succ, i64_w, i32_w]
    rfl
  refine join_ (σ := Value × Nat) 3 #[true, true, true, true, true, true, true, true, true, true, true, true, false, false, false] (fun s_ => [(36, .agg #[.string (⟨#[73, 68, 65, 84]⟩ : ByteArray), .string (⟨#[120]⟩ : ByteArray)]), (38, .agg #[.string (⟨#[73, 68, 65, 84]⟩ : ByteArray), .string (⟨#[121]⟩ : ByteArray)]), (39, .agg #[.string (⟨#[73, 69, 78, 68]⟩ : ByteArray), .string (⟨#[]⟩ : ByteArray)]), (40, s_.1), (41, .tuple #[.agg #[.int .i64 0, .int .i64 0, .int .i64 0, .int .i64 0, .int .i64 0, .string (⟨#[]⟩ : ByteArray), .string (⟨#[]⟩ : ByteArray), .bool false], .string (⟨#[]⟩ : ByteArray), .int .i64 23]), (8, .pointer (some ⟨s_.2, 0, none⟩)), (34, .tuple #[.agg #[.int .i64 0, .int .i64 0, .int .i64 0, .int .i64 0, .int .i64 0, .string (⟨#[]⟩ : ByteArray), .string (⟨#[]⟩ : ByteArray), .bool false], .string (⟨#[]⟩ : ByteArray), .int .i64 23]), (42, .agg #[.int .i64 0, .int .i64 0, .int .i64 0, .int .i64 0, .int .i64 0, .string (⟨#[]⟩ : ByteArray), .string (⟨#[]⟩ : ByteArray), .bool false]), (43, .string (⟨#[]⟩ : ByteArray)), (44, .int .i64 23)]) (fun s_ w' => (w'.cell? ⟨gc, 0, none⟩ = some (.string (⟨#[73, 72, 68, 82]⟩ : ByteArray)) ∧ w'.cell? ⟨gc, 1, none⟩ = some (.string awH)) ∧ Sv w [(s_.2, #[.int .i64 0, .int .i64 0, .int .i64 0, .int .i64 0, .int .i64 0, .string (⟨#[]⟩ : ByteArray), .string (⟨#[]⟩ : ByteArray), .bool false], 36), (g2, #[.int .i64 1, .int .i64 1, .int .i64 8, .int .i64 0, .int .i64 0, .string (⟨#[]⟩ : ByteArray), .string (⟨#[]⟩ : ByteArray), .bool false], 36), (gc, #[.string (⟨#[73, 72, 68, 82]⟩ : ByteArray), .string awH], 30)] w') ?_ ?_
  rotate_left
  · intro hJ
    refine join_ (σ := Value × Nat) 7 #[true, true, true, true, true, true, true, false, false, false, false, true, false, false, false] (fun s_ => [(36, .agg #[.string (⟨#[73, 68, 65, 84]⟩ : ByteArray), .string (⟨#[120]⟩ : ByteArray)]), (38, .agg #[.string (⟨#[73, 68, 65, 84]⟩ : ByteArray), .string (⟨#[121]⟩ : ByteArray)]), (39, .agg #[.string (⟨#[73, 69, 78, 68]⟩ : ByteArray), .string (⟨#[]⟩ : ByteArray)]), (40, s_.1), (41, .tuple #[.agg #[.int .i64 0, .int .i64 0, .int .i64 0, .int .i64 0, .int .i64 0, .string (⟨#[]⟩ : ByteArray), .string (⟨#[]⟩ : ByteArray), .bool false], .string (⟨#[]⟩ : ByteArray), .int .i64 23]), (8, .pointer (some ⟨s_.2, 0, none⟩))]) (fun s_ w' => (w'.cell? ⟨gc, 0, none⟩ = some (.string (⟨#[73, 72, 68, 82]⟩ : ByteArray)) ∧ w'.cell? ⟨gc, 1, none⟩ = some (.string awH)) ∧ Sv w [(s_.2, #[.int .i64 0, .int .i64 0, .int .i64 0, .int .i64 0, .int .i64 0, .string (⟨#[]⟩ : ByteArray), .string (⟨#[]⟩ : ByteArray), .bool false], 36), (g2, #[.int .i64 1, .int .i64 1, .int .i64 8, .int .i64 0, .int .i64 0, .string (⟨#[]⟩ : ByteArray), .string (⟨#[]⟩ : ByteArray), .bool false], 36), (gc, #[.string (⟨#[73, 72, 68, 82]⟩ : ByteArray), .string awH], 30)] w') ?_ ?_
    rotate_left
    · intro hK5
      refine two_ (i := 1) (j := 11) (Ni := some 36) (Nj := some 8) #[true, true, true, false, false, false, false, false, false, false, false, false, false, false, false] #[true, false, true, false, false, false, false, false, false, false, false, true, false, false, false] rfl rfl rfl rfl (two_of HT_.out (by kernel_rfl)) (by decide) (by decide) (fun K hK => ?_) (fun K hK => ?_)
      · skip
        refine goes_ Try.func19 (by kernel_rfl) rfl #[.string (⟨#[120]⟩ : ByteArray)] (by rfl) rfl rfl (by (try simp only [List.map_toArray, List.map_cons, List.map_nil]); first | done | rfl) ?_
        with_reducible refine (vitrinelaw08_dat.calls (⟨#[120]⟩ : ByteArray) _ _ _ rfl).mono ?_
        rintro e w53 ⟨rfl, hb⟩
        refine ⟨_, rfl, ?_⟩
        have n0_ := Aside0.mk (HS.out.step hb)
        clear HS hb
        have HS := n0_
        clear n0_
        refine hK.out _ _ ⟨(HS.out.cell 1 rfl 0).trans rfl, (HS.out.cell 1 rfl 1).trans rfl⟩ (fun hHeld => ?_)
        clear hK K
        refine norm_ (a' := ?_) ?_ ?_
        rotate_left
        · show Act.put _ (some 36) _ = _
          simp only [Act.put, List.setIfInBounds_toArray, List.set_cons_zero, List.set_cons_succ, i64_w, i32_w]
          rfl
        refine two_ (i := 3) (j := 11) (Ni := some 38) (Nj := some 8) #[true, true, true, true, false, false, false, false, false, false, false, false, false, false, false] #[true, true, true, false, false, false, false, false, false, false, false, true, false, false, false] rfl rfl rfl rfl (two_of HT_.out (by kernel_rfl)) (by decide) (by decide) (fun K hK => ?_) (fun K hK => ?_)
        · skip
          refine goes_ Try.func19 (by kernel_rfl) rfl #[.string (⟨#[121]⟩ : ByteArray)] (by rfl) rfl rfl (by (try simp only [List.map_toArray, List.map_cons, List.map_nil]); first | done | rfl) ?_
          with_reducible refine (vitrinelaw08_dat.calls (⟨#[121]⟩ : ByteArray) _ _ _ rfl).mono ?_
          rintro e w54 ⟨rfl, hb⟩
          refine ⟨_, rfl, ?_⟩
          have n0_ := Aside0.mk (HS.out.step hb)
          clear HS hb
          have HS := n0_
          clear n0_
          refine hK.out _ _ ⟨(HS.out.cell 1 rfl 0).trans rfl, (HS.out.cell 1 rfl 1).trans rfl⟩ (fun hHeld => ?_)
          clear hK K
          refine norm_ (a' := ?_) ?_ ?_
          rotate_left
          · show Act.put _ (some 38) _ = _
            simp only [Act.put, List.setIfInBounds_toArray, List.set_cons_zero, List.set_cons_succ, i64_w, i32_w]
            rfl
          refine two_ (i := 4) (j := 11) (Ni := some 39) (Nj := some 8) #[true, true, true, true, true, false, false, false, false, false, false, false, false, false, false] #[true, true, true, true, false, false, false, false, false, false, false, true, false, false, false] rfl rfl rfl rfl (two_of HT_.out (by kernel_rfl)) (by decide) (by decide) (fun K hK => ?_) (fun K hK => ?_)
          · skip
            refine goes_ Try.func20 (by kernel_rfl) rfl #[] (by rfl) rfl rfl (by (try simp only [List.map_toArray, List.map_cons, List.map_nil]); first | done | rfl) ?_
            with_reducible refine (vitrinelaw08_ends.calls _ _ _ rfl).mono ?_
            rintro e w55 ⟨rfl, hb⟩
            refine ⟨_, rfl, ?_⟩
            have n0_ := Aside0.mk (HS.out.step hb)
            clear HS hb
            have HS := n0_
            clear n0_
            refine hK.out _ _ ⟨(HS.out.cell 1 rfl 0).trans rfl, (HS.out.cell 1 rfl 1).trans rfl⟩ (fun hHeld => ?_)
            clear hK K
            refine norm_ (a' := ?_) ?_ ?_
            rotate_left
            · show Act.put _ (some 39) _ = _
              simp only [Act.put, List.setIfInBounds_toArray, List.set_cons_zero, List.set_cons_succ, i64_w, i32_w]
              rfl
            refine two_ (i := 5) (j := 11) (Ni := some 40) (Nj := some 8) #[true, true, true, true, true, true, false, false, false, false, false, false, false, false, false] #[true, true, true, true, true, false, false, false, false, false, false, true, false, false, false] rfl rfl rfl rfl (two_of HT_.out (by kernel_rfl)) (by decide) (by decide) (fun K hK => ?_) (fun K hK => ?_)
            · skip
              refine Kd.R_lit_step k30 _ 30 ?hg (N := 40) ?hd (xs := [(⟨(⟨#[73, 72, 68, 82]⟩ : ByteArray), awH⟩ : S30), (⟨(⟨#[73, 68, 65, 84]⟩ : ByteArray), (⟨#[120]⟩ : ByteArray)⟩ : S30), (⟨(⟨#[116, 69, 88, 116]⟩ : ByteArray), (⟨#[]⟩ : ByteArray)⟩ : S30), (⟨(⟨#[73, 68, 65, 84]⟩ : ByteArray), (⟨#[121]⟩ : ByteArray)⟩ : S30), (⟨(⟨#[73, 69, 78, 68]⟩ : ByteArray), (⟨#[]⟩ : ByteArray)⟩ : S30)]) (inner := [.string (⟨#[73, 72, 68, 82]⟩ : ByteArray), .string awH, .string (⟨#[73, 68, 65, 84]⟩ : ByteArray), .string (⟨#[120]⟩ : ByteArray), .string (⟨#[116, 69, 88, 116]⟩ : ByteArray), .string (⟨#[]⟩ : ByteArray), .string (⟨#[73, 68, 65, 84]⟩ : ByteArray), .string (⟨#[121]⟩ : ByteArray), .string (⟨#[73, 69, 78, 68]⟩ : ByteArray), .string (⟨#[]⟩ : ByteArray)]) (ok := fun _ => True) (okp := fun _ => True) ?hr ?hp (fun _ hk => hk) trivial (Below.refl _ _) (Nat.le_refl _) (by simp) ?_; (case hd => rfl); (case hg => rfl); (case hr => first | (go_simp; done) | (go_simp; rfl)); (case hp => exact (Reps.c2 (k30_mkM _ _ _ (⟨(⟨#[73, 72, 68, 82]⟩ : ByteArray), awH⟩ : S30)) (Reps.c2 (k30_mkM _ _ _ (⟨(⟨#[73, 68, 65, 84]⟩ : ByteArray), (⟨#[120]⟩ : ByteArray)⟩ : S30)) (Reps.c2 (k30_mkM _ _ _ (⟨(⟨#[116, 69, 88, 116]⟩ : ByteArray), (⟨#[]⟩ : ByteArray)⟩ : S30)) (Reps.c2 (k30_mkM _ _ _ (⟨(⟨#[73, 68, 65, 84]⟩ : ByteArray), (⟨#[121]⟩ : ByteArray)⟩ : S30)) (Reps.c2 (k30_mkM _ _ _ (⟨(⟨#[73, 69, 78, 68]⟩ : ByteArray), (⟨#[]⟩ : ByteArray)⟩ : S30)) (Reps.none _ _)))))))
              intro v56 w57 ho_ hb hg_ hnew_
              have HO := Aside0.mk ho_
              clear hg_ hnew_ ho_
              have n0_ := Aside0.mk (HS.out.step hb)
              clear HS hb
              have HS := n0_
              clear n0_
              refine hK.out _ _ ⟨(HS.out.cell 1 rfl 0).trans rfl, (HS.out.cell 1 rfl 1).trans rfl⟩ (fun hHeld => ?_)
              clear hK K
              refine norm_ (a' := ?_) ?_ ?_
              rotate_left
              · show Act.put _ (some 40) _ = _
                simp only [Act.put, List.setIfInBounds_toArray, List.set_cons_zero, List.set_cons_succ, i64_w, i32_w]
                rfl
              obtain ⟨Ao, co, rfl⟩ := Kd.R_slice HO.out
              refine two_ (i := 6) (j := 11) (Ni := some 41) (Nj := some 8) #[true, true, true, true, true, true, true, false, false, false, false, false, false, false, false] #[true, true, true, true, true, true, false, false, false, false, false, true, false, false, false] rfl rfl rfl rfl (two_of HT_.out (by kernel_rfl)) (by decide) (by decide) (fun K hK => ?_) (fun K hK => ?_)
              · skip
                refine goes_ Try.func17 (by kernel_rfl) rfl #[.slice Ao ([(⟨(⟨#[73, 72, 68, 82]⟩ : ByteArray), awH⟩ : S30), (⟨(⟨#[73, 68, 65, 84]⟩ : ByteArray), (⟨#[120]⟩ : ByteArray)⟩ : S30), (⟨(⟨#[116, 69, 88, 116]⟩ : ByteArray), (⟨#[]⟩ : ByteArray)⟩ : S30), (⟨(⟨#[73, 68, 65, 84]⟩ : ByteArray), (⟨#[121]⟩ : ByteArray)⟩ : S30), (⟨(⟨#[73, 69, 78, 68]⟩ : ByteArray), (⟨#[]⟩ : ByteArray)⟩ : S30)] : List S30).length co] (by rfl) rfl rfl (by (try simp only [List.map_toArray, List.map_cons, List.map_nil]); first | done | rfl) ?_
                with_reducible refine (head_Read.calls 20 _ _ [(⟨(⟨#[73, 72, 68, 82]⟩ : ByteArray), awH⟩ : S30), (⟨(⟨#[73, 68, 65, 84]⟩ : ByteArray), (⟨#[120]⟩ : ByteArray)⟩ : S30), (⟨(⟨#[116, 69, 88, 116]⟩ : ByteArray), (⟨#[]⟩ : ByteArray)⟩ : S30), (⟨(⟨#[73, 68, 65, 84]⟩ : ByteArray), (⟨#[121]⟩ : ByteArray)⟩ : S30), (⟨(⟨#[73, 69, 78, 68]⟩ : ByteArray), (⟨#[]⟩ : ByteArray)⟩ : S30)] 0 0 0 0 0 (⟨#[]⟩ : ByteArray) (⟨#[]⟩ : ByteArray) false (⟨#[]⟩ : ByteArray) 23 _ (Kd.R_reads' HO.out).2.2 (Kd.R_reads' HO.out).2.1 aw_r2).mono ?_
                rintro e w58 ⟨rfl, hb⟩
                refine ⟨_, rfl, ?_⟩
                clear HO
                have n0_ := Aside0.mk (HS.out.step hb)
                clear HS hb
                have HS := n0_
                clear n0_
                refine hK.out _ _ ⟨(HS.out.cell 1 rfl 0).trans rfl, (HS.out.cell 1 rfl 1).trans rfl⟩ (fun hHeld => ?_)
                clear hK K
                refine norm_ (a' := ?_) ?_ ?_
                rotate_left
                · show Act.put _ (some 41) _ = _
                  simp only [Act.put, List.setIfInBounds_toArray, List.set_cons_zero, List.set_cons_succ, i64_w, i32_w]
                  rfl
                refine pure_ (i := 7) (N := some 34) (v := ?_) (a' := ?_) #[true, true, true, true, true, true, true, true, false, false, false, false, false, false, false] rfl rfl (any_of HT_.out (by kernel_rfl)) (fun _ _ _ h => h) (Or.inl ⟨by rfl, ?_⟩) ?_ ?_
                rotate_left
                · intro w'
                  go_simp
                  with_reducible rfl
                rotate_left
                · simp only [Act.put, List.setIfInBounds_toArray, List.set_cons_zero, List.set_cons_succ, i64_w, i32_w]
                  rfl
                refine pure_ (i := 8) (N := some 42) (v := ?_) (a' := ?_) #[true, true, true, true, true, true, true, true, true, false, false, false, false, false, false] rfl rfl (any_of HT_.out (by kernel_rfl)) (fun _ _ _ h => h) (Or.inl ⟨by rfl, ?_⟩) ?_ ?_
                rotate_left
                · intro w'
                  go_simp
                  with_reducible rfl
                rotate_left
                · simp only [Act.put, List.setIfInBounds_toArray, List.set_cons_zero, List.set_cons_succ, i64_w, i32_w]
                  rfl
                refine pure_ (i := 9) (N := some 43) (v := ?_) (a' := ?_) #[true, true, true, true, true, true, true, true, true, true, false, false, false, false, false] rfl rfl (any_of HT_.out (by kernel_rfl)) (fun _ _ _ h => h) (Or.inl ⟨by rfl, ?_⟩) ?_ ?_
                rotate_left
                · intro w'
                  go_simp
                  with_reducible rfl
                rotate_left
                · simp only [Act.put, List.setIfInBounds_toArray, List.set_cons_zero, List.set_cons_succ, i64_w, i32_w]
                  rfl
                refine pure_ (i := 10) (N := some 44) (v := ?_) (a' := ?_) #[true, true, true, true, true, true, true, true, true, true, true, false, false, false, false] rfl rfl (any_of HT_.out (by kernel_rfl)) (fun _ _ _ h => h) (Or.inl ⟨by rfl, ?_⟩) ?_ ?_
                rotate_left
                · intro w'
                  go_simp
                  with_reducible rfl
                rotate_left
                · simp only [Act.put, List.setIfInBounds_toArray, List.set_cons_zero, List.set_cons_succ, i64_w, i32_w]
                  rfl
                refine one_ (i := 11) (N := some 8) #[true, true, true, true, true, true, true, true, true, true, true, true, false, false, false] rfl rfl (one_of HT_.out (by kernel_rfl)) (by decide) (fun K hK => ?_)
                refine box_step (by rfl) (N := 8) rfl (cs := #[.int .i64 0, .int .i64 0, .int .i64 0, .int .i64 0, .int .i64 0, .string (⟨#[]⟩ : ByteArray), .string (⟨#[]⟩ : ByteArray), .bool false]) (t := 36) (by first | (go_simp; done) | (go_simp; rfl)) ?_
                intro g8 hg w59 hbox hb
                have n0_ := Aside0.mk (HS.out.box hb hg hbox)
                clear HS hb hg hbox
                have HS := n0_
                clear n0_
                refine hK.out _ _ ⟨(HS.out.cell 2 rfl 0).trans rfl, (HS.out.cell 2 rfl 1).trans rfl⟩ (fun hHeld => ?_)
                clear hK K
                refine norm_ (a' := ?_) ?_ ?_
                rotate_left
                · show Act.put _ (some 8) _ = _
                  simp only [Act.put, List.setIfInBounds_toArray, List.set_cons_zero, List.set_cons_succ, i64_w, i32_w]
                  rfl
                exact norm_ (by first | (simp only [putAll, Act.put, List.setIfInBounds_toArray, List.set_cons_zero, List.set_cons_succ]; done) | (simp only [putAll, Act.put, List.setIfInBounds_toArray, List.set_cons_zero, List.set_cons_succ]; rfl)) (hJ (_, g8) _ ⟨hHeld, HS.out⟩)
              · skip
                refine box_step (by rfl) (N := 8) rfl (cs := #[.int .i64 0, .int .i64 0, .int .i64 0, .int .i64 0, .int .i64 0, .string (⟨#[]⟩ : ByteArray), .string (⟨#[]⟩ : ByteArray), .bool false]) (t := 36) (by first | (go_simp; done) | (go_simp; rfl)) ?_
                intro g8 hg w60 hbox hb
                have n0_ := Aside0.mk (HS.out.box hb hg hbox); have n1_ := Aside0.mk (Kd.R_below HO.out hb)
                clear HS hb hg hbox HO
                have HS := n0_; have HO := n1_
                clear n0_ n1_
                refine hK.out _ _ ⟨(HS.out.cell 2 rfl 0).trans rfl, (HS.out.cell 2 rfl 1).trans rfl⟩ (fun hHeld => ?_)
                clear hK K
                refine norm_ (a' := ?_) ?_ ?_
                rotate_left
                · show Act.put _ (some 8) _ = _
                  simp only [Act.put, List.setIfInBounds_toArray, List.set_cons_zero, List.set_cons_succ, i64_w, i32_w]
                  rfl
                refine one_ (i := 6) (N := some 41) #[true, true, true, true, true, true, true, false, false, false, false, true, false, false, false] rfl rfl (one_of HT_.out (by kernel_rfl)) (by decide) (fun K hK => ?_)
                refine goes_ Try.func17 (by kernel_rfl) rfl #[.slice Ao ([(⟨(⟨#[73, 72, 68, 82]⟩ : ByteArray), awH⟩ : S30), (⟨(⟨#[73, 68, 65, 84]⟩ : ByteArray), (⟨#[120]⟩ : ByteArray)⟩ : S30), (⟨(⟨#[116, 69, 88, 116]⟩ : ByteArray), (⟨#[]⟩ : ByteArray)⟩ : S30), (⟨(⟨#[73, 68, 65, 84]⟩ : ByteArray), (⟨#[121]⟩ : ByteArray)⟩ : S30), (⟨(⟨#[73, 69, 78, 68]⟩ : ByteArray), (⟨#[]⟩ : ByteArray)⟩ : S30)] : List S30).length co] (by rfl) rfl rfl (by (try simp only [List.map_toArray, List.map_cons, List.map_nil]); first | done | rfl) ?_
                with_reducible refine (head_Read.calls 20 _ _ [(⟨(⟨#[73, 72, 68, 82]⟩ : ByteArray), awH⟩ : S30), (⟨(⟨#[73, 68, 65, 84]⟩ : ByteArray), (⟨#[120]⟩ : ByteArray)⟩ : S30), (⟨(⟨#[116, 69, 88, 116]⟩ : ByteArray), (⟨#[]⟩ : ByteArray)⟩ : S30), (⟨(⟨#[73, 68, 65, 84]⟩ : ByteArray), (⟨#[121]⟩ : ByteArray)⟩ : S30), (⟨(⟨#[73, 69, 78, 68]⟩ : ByteArray), (⟨#[]⟩ : ByteArray)⟩ : S30)] 0 0 0 0 0 (⟨#[]⟩ : ByteArray) (⟨#[]⟩ : ByteArray) false (⟨#[]⟩ : ByteArray) 23 _ (Kd.R_reads' HO.out).2.2 (Kd.R_reads' HO.out).2.1 aw_r2).mono ?_
                rintro e w61 ⟨rfl, hb⟩
                refine ⟨_, rfl, ?_⟩
                clear HO
                have n0_ := Aside0.mk (HS.out.step hb)
                clear HS hb
                have HS := n0_
                clear n0_
                refine hK.out _ _ ⟨(HS.out.cell 2 rfl 0).trans rfl, (HS.out.cell 2 rfl 1).trans rfl⟩ (fun hHeld => ?_)
                clear hK K
                refine norm_ (a' := ?_) ?_ ?_
                rotate_left
                · show Act.put _ (some 41) _ = _
                  simp only [Act.put, List.setIfInBounds_toArray, List.set_cons_zero, List.set_cons_succ, i64_w, i32_w]
                  rfl
                exact norm_ (by first | (simp only [putAll, Act.put, List.setIfInBounds_toArray, List.set_cons_zero, List.set_cons_succ]; done) | (simp only [putAll, Act.put, List.setIfInBounds_toArray, List.set_cons_zero, List.set_cons_succ]; rfl)) (hK5 (_, g8) _ ⟨hHeld, HS.out⟩)
            · skip
              refine box_step (by rfl) (N := 8) rfl (cs := #[.int .i64 0, .int .i64 0, .int .i64 0, .int .i64 0, .int .i64 0, .string (⟨#[]⟩ : ByteArray), .string (⟨#[]⟩ : ByteArray), .bool false]) (t := 36) (by first | (go_simp; done) | (go_simp; rfl)) ?_
              intro g8 hg w62 hbox hb
              have n0_ := Aside0.mk (HS.out.box hb hg hbox)
              clear HS hb hg hbox
              have HS := n0_
              clear n0_
              refine hK.out _ _ ⟨(HS.out.cell 2 rfl 0).trans rfl, (HS.out.cell 2 rfl 1).trans rfl⟩ (fun hHeld => ?_)
              clear hK K
              refine norm_ (a' := ?_) ?_ ?_
              rotate_left
              · show Act.put _ (some 8) _ = _
                simp only [Act.put, List.setIfInBounds_toArray, List.set_cons_zero, List.set_cons_succ, i64_w, i32_w]
                rfl
              refine one_ (i := 5) (N := some 40) #[true, true, true, true, true, true, false, false, false, false, false, true, false, false, false] rfl rfl (one_of HT_.out (by kernel_rfl)) (by decide) (fun K hK => ?_)
              refine Kd.R_lit_step k30 _ 30 ?hg (N := 40) ?hd (xs := [(⟨(⟨#[73, 72, 68, 82]⟩ : ByteArray), awH⟩ : S30), (⟨(⟨#[73, 68, 65, 84]⟩ : ByteArray), (⟨#[120]⟩ : ByteArray)⟩ : S30), (⟨(⟨#[116, 69, 88, 116]⟩ : ByteArray), (⟨#[]⟩ : ByteArray)⟩ : S30), (⟨(⟨#[73, 68, 65, 84]⟩ : ByteArray), (⟨#[121]⟩ : ByteArray)⟩ : S30), (⟨(⟨#[73, 69, 78, 68]⟩ : ByteArray), (⟨#[]⟩ : ByteArray)⟩ : S30)]) (inner := [.string (⟨#[73, 72, 68, 82]⟩ : ByteArray), .string awH, .string (⟨#[73, 68, 65, 84]⟩ : ByteArray), .string (⟨#[120]⟩ : ByteArray), .string (⟨#[116, 69, 88, 116]⟩ : ByteArray), .string (⟨#[]⟩ : ByteArray), .string (⟨#[73, 68, 65, 84]⟩ : ByteArray), .string (⟨#[121]⟩ : ByteArray), .string (⟨#[73, 69, 78, 68]⟩ : ByteArray), .string (⟨#[]⟩ : ByteArray)]) (ok := fun _ => True) (okp := fun _ => True) ?hr ?hp (fun _ hk => hk) trivial (Below.refl _ _) (Nat.le_refl _) (by simp) ?_; (case hd => rfl); (case hg => rfl); (case hr => first | (go_simp; done) | (go_simp; rfl)); (case hp => exact (Reps.c2 (k30_mkM _ _ _ (⟨(⟨#[73, 72, 68, 82]⟩ : ByteArray), awH⟩ : S30)) (Reps.c2 (k30_mkM _ _ _ (⟨(⟨#[73, 68, 65, 84]⟩ : ByteArray), (⟨#[120]⟩ : ByteArray)⟩ : S30)) (Reps.c2 (k30_mkM _ _ _ (⟨(⟨#[116, 69, 88, 116]⟩ : ByteArray), (⟨#[]⟩ : ByteArray)⟩ : S30)) (Reps.c2 (k30_mkM _ _ _ (⟨(⟨#[73, 68, 65, 84]⟩ : ByteArray), (⟨#[121]⟩ : ByteArray)⟩ : S30)) (Reps.c2 (k30_mkM _ _ _ (⟨(⟨#[73, 69, 78, 68]⟩ : ByteArray), (⟨#[]⟩ : ByteArray)⟩ : S30)) (Reps.none _ _)))))))
              intro v63 w64 ho_ hb hg_ hnew_
              have HO := Aside0.mk ho_
              clear hg_ hnew_ ho_
              have n0_ := Aside0.mk (HS.out.step hb)
              clear HS hb
              have HS := n0_
              clear n0_
              refine hK.out _ _ ⟨(HS.out.cell 2 rfl 0).trans rfl, (HS.out.cell 2 rfl 1).trans rfl⟩ (fun hHeld => ?_)
              clear hK K
              refine norm_ (a' := ?_) ?_ ?_
              rotate_left
              · show Act.put _ (some 40) _ = _
                simp only [Act.put, List.setIfInBounds_toArray, List.set_cons_zero, List.set_cons_succ, i64_w, i32_w]
                rfl
              obtain ⟨Ao, co, rfl⟩ := Kd.R_slice HO.out
              refine one_ (i := 6) (N := some 41) #[true, true, true, true, true, true, true, false, false, false, false, true, false, false, false] rfl rfl (one_of HT_.out (by kernel_rfl)) (by decide) (fun K hK => ?_)
              refine goes_ Try.func17 (by kernel_rfl) rfl #[.slice Ao ([(⟨(⟨#[73, 72, 68, 82]⟩ : ByteArray), awH⟩ : S30), (⟨(⟨#[73, 68, 65, 84]⟩ : ByteArray), (⟨#[120]⟩ : ByteArray)⟩ : S30), (⟨(⟨#[116, 69, 88, 116]⟩ : ByteArray), (⟨#[]⟩ : ByteArray)⟩ : S30), (⟨(⟨#[73, 68, 65, 84]⟩ : ByteArray), (⟨#[121]⟩ : ByteArray)⟩ : S30), (⟨(⟨#[73, 69, 78, 68]⟩ : ByteArray), (⟨#[]⟩ : ByteArray)⟩ : S30)] : List S30).length co] (by rfl) rfl rfl (by (try simp only [List.map_toArray, List.map_cons, List.map_nil]); first | done | rfl) ?_
              with_reducible refine (head_Read.calls 20 _ _ [(⟨(⟨#[73, 72, 68, 82]⟩ : ByteArray), awH⟩ : S30), (⟨(⟨#[73, 68, 65, 84]⟩ : ByteArray), (⟨#[120]⟩ : ByteArray)⟩ : S30), (⟨(⟨#[116, 69, 88, 116]⟩ : ByteArray), (⟨#[]⟩ : ByteArray)⟩ : S30), (⟨(⟨#[73, 68, 65, 84]⟩ : ByteArray), (⟨#[121]⟩ : ByteArray)⟩ : S30), (⟨(⟨#[73, 69, 78, 68]⟩ : ByteArray), (⟨#[]⟩ : ByteArray)⟩ : S30)] 0 0 0 0 0 (⟨#[]⟩ : ByteArray) (⟨#[]⟩ : ByteArray) false (⟨#[]⟩ : ByteArray) 23 _ (Kd.R_reads' HO.out).2.2 (Kd.R_reads' HO.out).2.1 aw_r2).mono ?_
              rintro e w65 ⟨rfl, hb⟩
              refine ⟨_, rfl, ?_⟩
              clear HO
              have n0_ := Aside0.mk (HS.out.step hb)
              clear HS hb
              have HS := n0_
              clear n0_
              refine hK.out _ _ ⟨(HS.out.cell 2 rfl 0).trans rfl, (HS.out.cell 2 rfl 1).trans rfl⟩ (fun hHeld => ?_)
              clear hK K
              refine norm_ (a' := ?_) ?_ ?_
              rotate_left
              · show Act.put _ (some 41) _ = _
                simp only [Act.put, List.setIfInBounds_toArray, List.set_cons_zero, List.set_cons_succ, i64_w, i32_w]
                rfl
              exact norm_ (by first | (simp only [putAll, Act.put, List.setIfInBounds_toArray, List.set_cons_zero, List.set_cons_succ]; done) | (simp only [putAll, Act.put, List.setIfInBounds_toArray, List.set_cons_zero, List.set_cons_succ]; rfl)) (hK5 (_, g8) _ ⟨hHeld, HS.out⟩)
          · skip
            refine box_step (by rfl) (N := 8) rfl (cs := #[.int .i64 0, .int .i64 0, .int .i64 0, .int .i64 0, .int .i64 0, .string (⟨#[]⟩ : ByteArray), .string (⟨#[]⟩ : ByteArray), .bool false]) (t := 36) (by first | (go_simp; done) | (go_simp; rfl)) ?_
            intro g8 hg w66 hbox hb
            have n0_ := Aside0.mk (HS.out.box hb hg hbox)
            clear HS hb hg hbox
            have HS := n0_
            clear n0_
            refine hK.out _ _ ⟨(HS.out.cell 2 rfl 0).trans rfl, (HS.out.cell 2 rfl 1).trans rfl⟩ (fun hHeld => ?_)
            clear hK K
            refine norm_ (a' := ?_) ?_ ?_
            rotate_left
            · show Act.put _ (some 8) _ = _
              simp only [Act.put, List.setIfInBounds_toArray, List.set_cons_zero, List.set_cons_succ, i64_w, i32_w]
              rfl
            refine one_ (i := 4) (N := some 39) #[true, true, true, true, true, false, false, false, false, false, false, true, false, false, false] rfl rfl (one_of HT_.out (by kernel_rfl)) (by decide) (fun K hK => ?_)
            refine goes_ Try.func20 (by kernel_rfl) rfl #[] (by rfl) rfl rfl (by (try simp only [List.map_toArray, List.map_cons, List.map_nil]); first | done | rfl) ?_
            with_reducible refine (vitrinelaw08_ends.calls _ _ _ rfl).mono ?_
            rintro e w67 ⟨rfl, hb⟩
            refine ⟨_, rfl, ?_⟩
            have n0_ := Aside0.mk (HS.out.step hb)
            clear HS hb
            have HS := n0_
            clear n0_
            refine hK.out _ _ ⟨(HS.out.cell 2 rfl 0).trans rfl, (HS.out.cell 2 rfl 1).trans rfl⟩ (fun hHeld => ?_)
            clear hK K
            refine norm_ (a' := ?_) ?_ ?_
            rotate_left
            · show Act.put _ (some 39) _ = _
              simp only [Act.put, List.setIfInBounds_toArray, List.set_cons_zero, List.set_cons_succ, i64_w, i32_w]
              rfl
            refine one_ (i := 5) (N := some 40) #[true, true, true, true, true, true, false, false, false, false, false, true, false, false, false] rfl rfl (one_of HT_.out (by kernel_rfl)) (by decide) (fun K hK => ?_)
            refine Kd.R_lit_step k30 _ 30 ?hg (N := 40) ?hd (xs := [(⟨(⟨#[73, 72, 68, 82]⟩ : ByteArray), awH⟩ : S30), (⟨(⟨#[73, 68, 65, 84]⟩ : ByteArray), (⟨#[120]⟩ : ByteArray)⟩ : S30), (⟨(⟨#[116, 69, 88, 116]⟩ : ByteArray), (⟨#[]⟩ : ByteArray)⟩ : S30), (⟨(⟨#[73, 68, 65, 84]⟩ : ByteArray), (⟨#[121]⟩ : ByteArray)⟩ : S30), (⟨(⟨#[73, 69, 78, 68]⟩ : ByteArray), (⟨#[]⟩ : ByteArray)⟩ : S30)]) (inner := [.string (⟨#[73, 72, 68, 82]⟩ : ByteArray), .string awH, .string (⟨#[73, 68, 65, 84]⟩ : ByteArray), .string (⟨#[120]⟩ : ByteArray), .string (⟨#[116, 69, 88, 116]⟩ : ByteArray), .string (⟨#[]⟩ : ByteArray), .string (⟨#[73, 68, 65, 84]⟩ : ByteArray), .string (⟨#[121]⟩ : ByteArray), .string (⟨#[73, 69, 78, 68]⟩ : ByteArray), .string (⟨#[]⟩ : ByteArray)]) (ok := fun _ => True) (okp := fun _ => True) ?hr ?hp (fun _ hk => hk) trivial (Below.refl _ _) (Nat.le_refl _) (by simp) ?_; (case hd => rfl); (case hg => rfl); (case hr => first | (go_simp; done) | (go_simp; rfl)); (case hp => exact (Reps.c2 (k30_mkM _ _ _ (⟨(⟨#[73, 72, 68, 82]⟩ : ByteArray), awH⟩ : S30)) (Reps.c2 (k30_mkM _ _ _ (⟨(⟨#[73, 68, 65, 84]⟩ : ByteArray), (⟨#[120]⟩ : ByteArray)⟩ : S30)) (Reps.c2 (k30_mkM _ _ _ (⟨(⟨#[116, 69, 88, 116]⟩ : ByteArray), (⟨#[]⟩ : ByteArray)⟩ : S30)) (Reps.c2 (k30_mkM _ _ _ (⟨(⟨#[73, 68, 65, 84]⟩ : ByteArray), (⟨#[121]⟩ : ByteArray)⟩ : S30)) (Reps.c2 (k30_mkM _ _ _ (⟨(⟨#[73, 69, 78, 68]⟩ : ByteArray), (⟨#[]⟩ : ByteArray)⟩ : S30)) (Reps.none _ _)))))))
            intro v68 w69 ho_ hb hg_ hnew_
            have HO := Aside0.mk ho_
            clear hg_ hnew_ ho_
            have n0_ := Aside0.mk (HS.out.step hb)
            clear HS hb
            have HS := n0_
            clear n0_
            refine hK.out _ _ ⟨(HS.out.cell 2 rfl 0).trans rfl, (HS.out.cell 2 rfl 1).trans rfl⟩ (fun hHeld => ?_)
            clear hK K
            refine norm_ (a' := ?_) ?_ ?_
            rotate_left
            · show Act.put _ (some 40) _ = _
              simp only [Act.put, List.setIfInBounds_toArray, List.set_cons_zero, List.set_cons_succ, i64_w, i32_w]
              rfl
            obtain ⟨Ao, co, rfl⟩ := Kd.R_slice HO.out
            refine one_ (i := 6) (N := some 41) #[true, true, true, true, true, true, true, false, false, false, false, true, false, false, false] rfl rfl (one_of HT_.out (by kernel_rfl)) (by decide) (fun K hK => ?_)
            refine goes_ Try.func17 (by kernel_rfl) rfl #[.slice Ao ([(⟨(⟨#[73, 72, 68, 82]⟩ : ByteArray), awH⟩ : S30), (⟨(⟨#[73, 68, 65, 84]⟩ : ByteArray), (⟨#[120]⟩ : ByteArray)⟩ : S30), (⟨(⟨#[116, 69, 88, 116]⟩ : ByteArray), (⟨#[]⟩ : ByteArray)⟩ : S30), (⟨(⟨#[73, 68, 65, 84]⟩ : ByteArray), (⟨#[121]⟩ : ByteArray)⟩ : S30), (⟨(⟨#[73, 69, 78, 68]⟩ : ByteArray), (⟨#[]⟩ : ByteArray)⟩ : S30)] : List S30).length co] (by rfl) rfl rfl (by (try simp only [List.map_toArray, List.map_cons, List.map_nil]); first | done | rfl) ?_
            with_reducible refine (head_Read.calls 20 _ _ [(⟨(⟨#[73, 72, 68, 82]⟩ : ByteArray), awH⟩ : S30), (⟨(⟨#[73, 68, 65, 84]⟩ : ByteArray), (⟨#[120]⟩ : ByteArray)⟩ : S30), (⟨(⟨#[116, 69, 88, 116]⟩ : ByteArray), (⟨#[]⟩ : ByteArray)⟩ : S30), (⟨(⟨#[73, 68, 65, 84]⟩ : ByteArray), (⟨#[121]⟩ : ByteArray)⟩ : S30), (⟨(⟨#[73, 69, 78, 68]⟩ : ByteArray), (⟨#[]⟩ : ByteArray)⟩ : S30)] 0 0 0 0 0 (⟨#[]⟩ : ByteArray) (⟨#[]⟩ : ByteArray) false (⟨#[]⟩ : ByteArray) 23 _ (Kd.R_reads' HO.out).2.2 (Kd.R_reads' HO.out).2.1 aw_r2).mono ?_
            rintro e w70 ⟨rfl, hb⟩
            refine ⟨_, rfl, ?_⟩
            clear HO
            have n0_ := Aside0.mk (HS.out.step hb)
            clear HS hb
            have HS := n0_
            clear n0_
            refine hK.out _ _ ⟨(HS.out.cell 2 rfl 0).trans rfl, (HS.out.cell 2 rfl 1).trans rfl⟩ (fun hHeld => ?_)
            clear hK K
            refine norm_ (a' := ?_) ?_ ?_
            rotate_left
            · show Act.put _ (some 41) _ = _
              simp only [Act.put, List.setIfInBounds_toArray, List.set_cons_zero, List.set_cons_succ, i64_w, i32_w]
              rfl
            exact norm_ (by first | (simp only [putAll, Act.put, List.setIfInBounds_toArray, List.set_cons_zero, List.set_cons_succ]; done) | (simp only [putAll, Act.put, List.setIfInBounds_toArray, List.set_cons_zero, List.set_cons_succ]; rfl)) (hK5 (_, g8) _ ⟨hHeld, HS.out⟩)
        · skip
          refine box_step (by rfl) (N := 8) rfl (cs := #[.int .i64 0, .int .i64 0, .int .i64 0, .int .i64 0, .int .i64 0, .string (⟨#[]⟩ : ByteArray), .string (⟨#[]⟩ : ByteArray), .bool false]) (t := 36) (by first | (go_simp; done) | (go_simp; rfl)) ?_
          intro g8 hg w71 hbox hb
          have n0_ := Aside0.mk (HS.out.box hb hg hbox)
          clear HS hb hg hbox
          have HS := n0_
          clear n0_
          refine hK.out _ _ ⟨(HS.out.cell 2 rfl 0).trans rfl, (HS.out.cell 2 rfl 1).trans rfl⟩ (fun hHeld => ?_)
          clear hK K
          refine norm_ (a' := ?_) ?_ ?_
          rotate_left
          · show Act.put _ (some 8) _ = _
            simp only [Act.put, List.setIfInBounds_toArray, List.set_cons_zero, List.set_cons_succ, i64_w, i32_w]
            rfl
          refine one_ (i := 3) (N := some 38) #[true, true, true, true, false, false, false, false, false, false, false, true, false, false, false] rfl rfl (one_of HT_.out (by kernel_rfl)) (by decide) (fun K hK => ?_)
          refine goes_ Try.func19 (by kernel_rfl) rfl #[.string (⟨#[121]⟩ : ByteArray)] (by rfl) rfl rfl (by (try simp only [List.map_toArray, List.map_cons, List.map_nil]); first | done | rfl) ?_
          with_reducible refine (vitrinelaw08_dat.calls (⟨#[121]⟩ : ByteArray) _ _ _ rfl).mono ?_
          rintro e w72 ⟨rfl, hb⟩
          refine ⟨_, rfl, ?_⟩
          have n0_ := Aside0.mk (HS.out.step hb)
          clear HS hb
          have HS := n0_
          clear n0_
          refine hK.out _ _ ⟨(HS.out.cell 2 rfl 0).trans rfl, (HS.out.cell 2 rfl 1).trans rfl⟩ (fun hHeld => ?_)
          clear hK K
          refine norm_ (a' := ?_) ?_ ?_
          rotate_left
          · show Act.put _ (some 38) _ = _
            simp only [Act.put, List.setIfInBounds_toArray, List.set_cons_zero, List.set_cons_succ, i64_w, i32_w]
            rfl
          refine one_ (i := 4) (N := some 39) #[true, true, true, true, true, false, false, false, false, false, false, true, false, false, false] rfl rfl (one_of HT_.out (by kernel_rfl)) (by decide) (fun K hK => ?_)
          refine goes_ Try.func20 (by kernel_rfl) rfl #[] (by rfl) rfl rfl (by (try simp only [List.map_toArray, List.map_cons, List.map_nil]); first | done | rfl) ?_
          with_reducible refine (vitrinelaw08_ends.calls _ _ _ rfl).mono ?_
          rintro e w73 ⟨rfl, hb⟩
          refine ⟨_, rfl, ?_⟩
          have n0_ := Aside0.mk (HS.out.step hb)
          clear HS hb
          have HS := n0_
          clear n0_
          refine hK.out _ _ ⟨(HS.out.cell 2 rfl 0).trans rfl, (HS.out.cell 2 rfl 1).trans rfl⟩ (fun hHeld => ?_)
          clear hK K
          refine norm_ (a' := ?_) ?_ ?_
          rotate_left
          · show Act.put _ (some 39) _ = _
            simp only [Act.put, List.setIfInBounds_toArray, List.set_cons_zero, List.set_cons_succ, i64_w, i32_w]
            rfl
          refine one_ (i := 5) (N := some 40) #[true, true, true, true, true, true, false, false, false, false, false, true, false, false, false] rfl rfl (one_of HT_.out (by kernel_rfl)) (by decide) (fun K hK => ?_)
          refine Kd.R_lit_step k30 _ 30 ?hg (N := 40) ?hd (xs := [(⟨(⟨#[73, 72, 68, 82]⟩ : ByteArray), awH⟩ : S30), (⟨(⟨#[73, 68, 65, 84]⟩ : ByteArray), (⟨#[120]⟩ : ByteArray)⟩ : S30), (⟨(⟨#[116, 69, 88, 116]⟩ : ByteArray), (⟨#[]⟩ : ByteArray)⟩ : S30), (⟨(⟨#[73, 68, 65, 84]⟩ : ByteArray), (⟨#[121]⟩ : ByteArray)⟩ : S30), (⟨(⟨#[73, 69, 78, 68]⟩ : ByteArray), (⟨#[]⟩ : ByteArray)⟩ : S30)]) (inner := [.string (⟨#[73, 72, 68, 82]⟩ : ByteArray), .string awH, .string (⟨#[73, 68, 65, 84]⟩ : ByteArray), .string (⟨#[120]⟩ : ByteArray), .string (⟨#[116, 69, 88, 116]⟩ : ByteArray), .string (⟨#[]⟩ : ByteArray), .string (⟨#[73, 68, 65, 84]⟩ : ByteArray), .string (⟨#[121]⟩ : ByteArray), .string (⟨#[73, 69, 78, 68]⟩ : ByteArray), .string (⟨#[]⟩ : ByteArray)]) (ok := fun _ => True) (okp := fun _ => True) ?hr ?hp (fun _ hk => hk) trivial (Below.refl _ _) (Nat.le_refl _) (by simp) ?_; (case hd => rfl); (case hg => rfl); (case hr => first | (go_simp; done) | (go_simp; rfl)); (case hp => exact (Reps.c2 (k30_mkM _ _ _ (⟨(⟨#[73, 72, 68, 82]⟩ : ByteArray), awH⟩ : S30)) (Reps.c2 (k30_mkM _ _ _ (⟨(⟨#[73, 68, 65, 84]⟩ : ByteArray), (⟨#[120]⟩ : ByteArray)⟩ : S30)) (Reps.c2 (k30_mkM _ _ _ (⟨(⟨#[116, 69, 88, 116]⟩ : ByteArray), (⟨#[]⟩ : ByteArray)⟩ : S30)) (Reps.c2 (k30_mkM _ _ _ (⟨(⟨#[73, 68, 65, 84]⟩ : ByteArray), (⟨#[121]⟩ : ByteArray)⟩ : S30)) (Reps.c2 (k30_mkM _ _ _ (⟨(⟨#[73, 69, 78, 68]⟩ : ByteArray), (⟨#[]⟩ : ByteArray)⟩ : S30)) (Reps.none _ _)))))))
          intro v74 w75 ho_ hb hg_ hnew_
          have HO := Aside0.mk ho_
          clear hg_ hnew_ ho_
          have n0_ := Aside0.mk (HS.out.step hb)
          clear HS hb
          have HS := n0_
          clear n0_
          refine hK.out _ _ ⟨(HS.out.cell 2 rfl 0).trans rfl, (HS.out.cell 2 rfl 1).trans rfl⟩ (fun hHeld => ?_)
          clear hK K
          refine norm_ (a' := ?_) ?_ ?_
          rotate_left
          · show Act.put _ (some 40) _ = _
            simp only [Act.put, List.setIfInBounds_toArray, List.set_cons_zero, List.set_cons_succ, i64_w, i32_w]
            rfl
          obtain ⟨Ao, co, rfl⟩ := Kd.R_slice HO.out
          refine one_ (i := 6) (N := some 41) #[true, true, true, true, true, true, true, false, false, false, false, true, false, false, false] rfl rfl (one_of HT_.out (by kernel_rfl)) (by decide) (fun K hK => ?_)
          refine goes_ Try.func17 (by kernel_rfl) rfl #[.slice Ao ([(⟨(⟨#[73, 72, 68, 82]⟩ : ByteArray), awH⟩ : S30), (⟨(⟨#[73, 68, 65, 84]⟩ : ByteArray), (⟨#[120]⟩ : ByteArray)⟩ : S30), (⟨(⟨#[116, 69, 88, 116]⟩ : ByteArray), (⟨#[]⟩ : ByteArray)⟩ : S30), (⟨(⟨#[73, 68, 65, 84]⟩ : ByteArray), (⟨#[121]⟩ : ByteArray)⟩ : S30), (⟨(⟨#[73, 69, 78, 68]⟩ : ByteArray), (⟨#[]⟩ : ByteArray)⟩ : S30)] : List S30).length co] (by rfl) rfl rfl (by (try simp only [List.map_toArray, List.map_cons, List.map_nil]); first | done | rfl) ?_
          with_reducible refine (head_Read.calls 20 _ _ [(⟨(⟨#[73, 72, 68, 82]⟩ : ByteArray), awH⟩ : S30), (⟨(⟨#[73, 68, 65, 84]⟩ : ByteArray), (⟨#[120]⟩ : ByteArray)⟩ : S30), (⟨(⟨#[116, 69, 88, 116]⟩ : ByteArray), (⟨#[]⟩ : ByteArray)⟩ : S30), (⟨(⟨#[73, 68, 65, 84]⟩ : ByteArray), (⟨#[121]⟩ : ByteArray)⟩ : S30), (⟨(⟨#[73, 69, 78, 68]⟩ : ByteArray), (⟨#[]⟩ : ByteArray)⟩ : S30)] 0 0 0 0 0 (⟨#[]⟩ : ByteArray) (⟨#[]⟩ : ByteArray) false (⟨#[]⟩ : ByteArray) 23 _ (Kd.R_reads' HO.out).2.2 (Kd.R_reads' HO.out).2.1 aw_r2).mono ?_
          rintro e w76 ⟨rfl, hb⟩
          refine ⟨_, rfl, ?_⟩
          clear HO
          have n0_ := Aside0.mk (HS.out.step hb)
          clear HS hb
          have HS := n0_
          clear n0_
          refine hK.out _ _ ⟨(HS.out.cell 2 rfl 0).trans rfl, (HS.out.cell 2 rfl 1).trans rfl⟩ (fun hHeld => ?_)
          clear hK K
          refine norm_ (a' := ?_) ?_ ?_
          rotate_left
          · show Act.put _ (some 41) _ = _
            simp only [Act.put, List.setIfInBounds_toArray, List.set_cons_zero, List.set_cons_succ, i64_w, i32_w]
            rfl
          exact norm_ (by first | (simp only [putAll, Act.put, List.setIfInBounds_toArray, List.set_cons_zero, List.set_cons_succ]; done) | (simp only [putAll, Act.put, List.setIfInBounds_toArray, List.set_cons_zero, List.set_cons_succ]; rfl)) (hK5 (_, g8) _ ⟨hHeld, HS.out⟩)
      · skip
        refine box_step (by rfl) (N := 8) rfl (cs := #[.int .i64 0, .int .i64 0, .int .i64 0, .int .i64 0, .int .i64 0, .string (⟨#[]⟩ : ByteArray), .string (⟨#[]⟩ : ByteArray), .bool false]) (t := 36) (by first | (go_simp; done) | (go_simp; rfl)) ?_
        intro g8 hg w77 hbox hb
        have n0_ := Aside0.mk (HS.out.box hb hg hbox)
        clear HS hb hg hbox
        have HS := n0_
        clear n0_
        refine hK.out _ _ ⟨(HS.out.cell 2 rfl 0).trans rfl, (HS.out.cell 2 rfl 1).trans rfl⟩ (fun hHeld => ?_)
        clear hK K
        refine norm_ (a' := ?_) ?_ ?_
        rotate_left
        · show Act.put _ (some 8) _ = _
          simp only [Act.put, List.setIfInBounds_toArray, List.set_cons_zero, List.set_cons_succ, i64_w, i32_w]
          rfl
        refine one_ (i := 1) (N := some 36) #[true, true, true, false, false, false, false, false, false, false, false, true, false, false, false] rfl rfl (one_of HT_.out (by kernel_rfl)) (by decide) (fun K hK => ?_)
        refine goes_ Try.func19 (by kernel_rfl) rfl #[.string (⟨#[120]⟩ : ByteArray)] (by rfl) rfl rfl (by (try simp only [List.map_toArray, List.map_cons, List.map_nil]); first | done | rfl) ?_
        with_reducible refine (vitrinelaw08_dat.calls (⟨#[120]⟩ : ByteArray) _ _ _ rfl).mono ?_
        rintro e w78 ⟨rfl, hb⟩
        refine ⟨_, rfl, ?_⟩
        have n0_ := Aside0.mk (HS.out.step hb)
        clear HS hb
        have HS := n0_
        clear n0_
        refine hK.out _ _ ⟨(HS.out.cell 2 rfl 0).trans rfl, (HS.out.cell 2 rfl 1).trans rfl⟩ (fun hHeld => ?_)
        clear hK K
        refine norm_ (a' := ?_) ?_ ?_
        rotate_left
        · show Act.put _ (some 36) _ = _
          simp only [Act.put, List.setIfInBounds_toArray, List.set_cons_zero, List.set_cons_succ, i64_w, i32_w]
          rfl
        refine one_ (i := 3) (N := some 38) #[true, true, true, true, false, false, false, false, false, false, false, true, false, false, false] rfl rfl (one_of HT_.out (by kernel_rfl)) (by decide) (fun K hK => ?_)
        refine goes_ Try.func19 (by kernel_rfl) rfl #[.string (⟨#[121]⟩ : ByteArray)] (by rfl) rfl rfl (by (try simp only [List.map_toArray, List.map_cons, List.map_nil]); first | done | rfl) ?_
        with_reducible refine (vitrinelaw08_dat.calls (⟨#[121]⟩ : ByteArray) _ _ _ rfl).mono ?_
        rintro e w79 ⟨rfl, hb⟩
        refine ⟨_, rfl, ?_⟩
        have n0_ := Aside0.mk (HS.out.step hb)
        clear HS hb
        have HS := n0_
        clear n0_
        refine hK.out _ _ ⟨(HS.out.cell 2 rfl 0).trans rfl, (HS.out.cell 2 rfl 1).trans rfl⟩ (fun hHeld => ?_)
        clear hK K
        refine norm_ (a' := ?_) ?_ ?_
        rotate_left
        · show Act.put _ (some 38) _ = _
          simp only [Act.put, List.setIfInBounds_toArray, List.set_cons_zero, List.set_cons_succ, i64_w, i32_w]
          rfl
        refine one_ (i := 4) (N := some 39) #[true, true, true, true, true, false, false, false, false, false, false, true, false, false, false] rfl rfl (one_of HT_.out (by kernel_rfl)) (by decide) (fun K hK => ?_)
        refine goes_ Try.func20 (by kernel_rfl) rfl #[] (by rfl) rfl rfl (by (try simp only [List.map_toArray, List.map_cons, List.map_nil]); first | done | rfl) ?_
        with_reducible refine (vitrinelaw08_ends.calls _ _ _ rfl).mono ?_
        rintro e w80 ⟨rfl, hb⟩
        refine ⟨_, rfl, ?_⟩
        have n0_ := Aside0.mk (HS.out.step hb)
        clear HS hb
        have HS := n0_
        clear n0_
        refine hK.out _ _ ⟨(HS.out.cell 2 rfl 0).trans rfl, (HS.out.cell 2 rfl 1).trans rfl⟩ (fun hHeld => ?_)
        clear hK K
        refine norm_ (a' := ?_) ?_ ?_
        rotate_left
        · show Act.put _ (some 39) _ = _
          simp only [Act.put, List.setIfInBounds_toArray, List.set_cons_zero, List.set_cons_succ, i64_w, i32_w]
          rfl
        refine one_ (i := 5) (N := some 40) #[true, true, true, true, true, true, false, false, false, false, false, true, false, false, false] rfl rfl (one_of HT_.out (by kernel_rfl)) (by decide) (fun K hK => ?_)
        refine Kd.R_lit_step k30 _ 30 ?hg (N := 40) ?hd (xs := [(⟨(⟨#[73, 72, 68, 82]⟩ : ByteArray), awH⟩ : S30), (⟨(⟨#[73, 68, 65, 84]⟩ : ByteArray), (⟨#[120]⟩ : ByteArray)⟩ : S30), (⟨(⟨#[116, 69, 88, 116]⟩ : ByteArray), (⟨#[]⟩ : ByteArray)⟩ : S30), (⟨(⟨#[73, 68, 65, 84]⟩ : ByteArray), (⟨#[121]⟩ : ByteArray)⟩ : S30), (⟨(⟨#[73, 69, 78, 68]⟩ : ByteArray), (⟨#[]⟩ : ByteArray)⟩ : S30)]) (inner := [.string (⟨#[73, 72, 68, 82]⟩ : ByteArray), .string awH, .string (⟨#[73, 68, 65, 84]⟩ : ByteArray), .string (⟨#[120]⟩ : ByteArray), .string (⟨#[116, 69, 88, 116]⟩ : ByteArray), .string (⟨#[]⟩ : ByteArray), .string (⟨#[73, 68, 65, 84]⟩ : ByteArray), .string (⟨#[121]⟩ : ByteArray), .string (⟨#[73, 69, 78, 68]⟩ : ByteArray), .string (⟨#[]⟩ : ByteArray)]) (ok := fun _ => True) (okp := fun _ => True) ?hr ?hp (fun _ hk => hk) trivial (Below.refl _ _) (Nat.le_refl _) (by simp) ?_; (case hd => rfl); (case hg => rfl); (case hr => first | (go_simp; done) | (go_simp; rfl)); (case hp => exact (Reps.c2 (k30_mkM _ _ _ (⟨(⟨#[73, 72, 68, 82]⟩ : ByteArray), awH⟩ : S30)) (Reps.c2 (k30_mkM _ _ _ (⟨(⟨#[73, 68, 65, 84]⟩ : ByteArray), (⟨#[120]⟩ : ByteArray)⟩ : S30)) (Reps.c2 (k30_mkM _ _ _ (⟨(⟨#[116, 69, 88, 116]⟩ : ByteArray), (⟨#[]⟩ : ByteArray)⟩ : S30)) (Reps.c2 (k30_mkM _ _ _ (⟨(⟨#[73, 68, 65, 84]⟩ : ByteArray), (⟨#[121]⟩ : ByteArray)⟩ : S30)) (Reps.c2 (k30_mkM _ _ _ (⟨(⟨#[73, 69, 78, 68]⟩ : ByteArray), (⟨#[]⟩ : ByteArray)⟩ : S30)) (Reps.none _ _)))))))
        intro v81 w82 ho_ hb hg_ hnew_
        have HO := Aside0.mk ho_
        clear hg_ hnew_ ho_
        have n0_ := Aside0.mk (HS.out.step hb)
        clear HS hb
        have HS := n0_
        clear n0_
        refine hK.out _ _ ⟨(HS.out.cell 2 rfl 0).trans rfl, (HS.out.cell 2 rfl 1).trans rfl⟩ (fun hHeld => ?_)
        clear hK K
        refine norm_ (a' := ?_) ?_ ?_
        rotate_left
        · show Act.put _ (some 40) _ = _
          simp only [Act.put, List.setIfInBounds_toArray, List.set_cons_zero, List.set_cons_succ, i64_w, i32_w]
          rfl
        obtain ⟨Ao, co, rfl⟩ := Kd.R_slice HO.out
        refine one_ (i := 6) (N := some 41) #[true, true, true, true, true, true, true, false, false, false, false, true, false, false, false] rfl rfl (one_of HT_.out (by kernel_rfl)) (by decide) (fun K hK => ?_)
        refine goes_ Try.func17 (by kernel_rfl) rfl #[.slice Ao ([(⟨(⟨#[73, 72, 68, 82]⟩ : ByteArray), awH⟩ : S30), (⟨(⟨#[73, 68, 65, 84]⟩ : ByteArray), (⟨#[120]⟩ : ByteArray)⟩ : S30), (⟨(⟨#[116, 69, 88, 116]⟩ : ByteArray), (⟨#[]⟩ : ByteArray)⟩ : S30), (⟨(⟨#[73, 68, 65, 84]⟩ : ByteArray), (⟨#[121]⟩ : ByteArray)⟩ : S30), (⟨(⟨#[73, 69, 78, 68]⟩ : ByteArray), (⟨#[]⟩ : ByteArray)⟩ : S30)] : List S30).length co] (by rfl) rfl rfl (by (try simp only [List.map_toArray, List.map_cons, List.map_nil]); first | done | rfl) ?_
        with_reducible refine (head_Read.calls 20 _ _ [(⟨(⟨#[73, 72, 68, 82]⟩ : ByteArray), awH⟩ : S30), (⟨(⟨#[73, 68, 65, 84]⟩ : ByteArray), (⟨#[120]⟩ : ByteArray)⟩ : S30), (⟨(⟨#[116, 69, 88, 116]⟩ : ByteArray), (⟨#[]⟩ : ByteArray)⟩ : S30), (⟨(⟨#[73, 68, 65, 84]⟩ : ByteArray), (⟨#[121]⟩ : ByteArray)⟩ : S30), (⟨(⟨#[73, 69, 78, 68]⟩ : ByteArray), (⟨#[]⟩ : ByteArray)⟩ : S30)] 0 0 0 0 0 (⟨#[]⟩ : ByteArray) (⟨#[]⟩ : ByteArray) false (⟨#[]⟩ : ByteArray) 23 _ (Kd.R_reads' HO.out).2.2 (Kd.R_reads' HO.out).2.1 aw_r2).mono ?_
        rintro e w83 ⟨rfl, hb⟩
        refine ⟨_, rfl, ?_⟩
        clear HO
        have n0_ := Aside0.mk (HS.out.step hb)
        clear HS hb
        have HS := n0_
        clear n0_
        refine hK.out _ _ ⟨(HS.out.cell 2 rfl 0).trans rfl, (HS.out.cell 2 rfl 1).trans rfl⟩ (fun hHeld => ?_)
        clear hK K
        refine norm_ (a' := ?_) ?_ ?_
        rotate_left
        · show Act.put _ (some 41) _ = _
          simp only [Act.put, List.setIfInBounds_toArray, List.set_cons_zero, List.set_cons_succ, i64_w, i32_w]
          rfl
        exact norm_ (by first | (simp only [putAll, Act.put, List.setIfInBounds_toArray, List.set_cons_zero, List.set_cons_succ]; done) | (simp only [putAll, Act.put, List.setIfInBounds_toArray, List.set_cons_zero, List.set_cons_succ]; rfl)) (hK5 (_, g8) _ ⟨hHeld, HS.out⟩)
    · rintro ⟨v_, g8⟩ wj ⟨hHeld, hS_⟩
      have n0_ : Aside0 (Sv w [(g8, #[.int .i64 0, .int .i64 0, .int .i64 0, .int .i64 0, .int .i64 0, .string (⟨#[]⟩ : ByteArray), .string (⟨#[]⟩ : ByteArray), .bool false], 36), (g2, #[.int .i64 1, .int .i64 1, .int .i64 8, .int .i64 0, .int .i64 0, .string (⟨#[]⟩ : ByteArray), .string (⟨#[]⟩ : ByteArray), .bool false], 36), (gc, #[.string (⟨#[73, 72, 68, 82]⟩ : ByteArray), .string awH], 30)] wj) := ⟨hS_⟩
      clear HS hS_
      have HS := n0_
      clear n0_
      refine norm_ (a' := ?_) ?_ ?_
      rotate_left
      · simp only [putAll, Act.put, List.setIfInBounds_toArray, List.set_cons_zero, List.set_cons_succ]
        rfl
      refine pure_ (i := 7) (N := some 34) (v := ?_) (a' := ?_) #[true, true, true, true, true, true, true, true, false, false, false, true, false, false, false] rfl rfl (any_of HT_.out (by kernel_rfl)) (fun _ _ _ h => h) (Or.inl ⟨by rfl, ?_⟩) ?_ ?_
      rotate_left
      · intro w'
        go_simp
        with_reducible rfl
      rotate_left
      · simp only [Act.put, List.setIfInBounds_toArray, List.set_cons_zero, List.set_cons_succ, i64_w, i32_w]
        rfl
      refine pure_ (i := 8) (N := some 42) (v := ?_) (a' := ?_) #[true, true, true, true, true, true, true, true, true, false, false, true, false, false, false] rfl rfl (any_of HT_.out (by kernel_rfl)) (fun _ _ _ h => h) (Or.inl ⟨by rfl, ?_⟩) ?_ ?_
      rotate_left
      · intro w'
        go_simp
        with_reducible rfl
      rotate_left
      · simp only [Act.put, List.setIfInBounds_toArray, List.set_cons_zero, List.set_cons_succ, i64_w, i32_w]
        rfl
      refine pure_ (i := 9) (N := some 43) (v := ?_) (a' := ?_) #[true, true, true, true, true, true, true, true, true, true, false, true, false, false, false] rfl rfl (any_of HT_.out (by kernel_rfl)) (fun _ _ _ h => h) (Or.inl ⟨by rfl, ?_⟩) ?_ ?_
      rotate_left
      · intro w'
        go_simp
        with_reducible rfl
      rotate_left
      · simp only [Act.put, List.setIfInBounds_toArray, List.set_cons_zero, List.set_cons_succ, i64_w, i32_w]
        rfl
      refine pure_ (i := 10) (N := some 44) (v := ?_) (a' := ?_) #[true, true, true, true, true, true, true, true, true, true, true, true, false, false, false] rfl rfl (any_of HT_.out (by kernel_rfl)) (fun _ _ _ h => h) (Or.inl ⟨by rfl, ?_⟩) ?_ ?_
      rotate_left
      · intro w'
        go_simp
        with_reducible rfl
      rotate_left
      · simp only [Act.put, List.setIfInBounds_toArray, List.set_cons_zero, List.set_cons_succ, i64_w, i32_w]
        rfl
      exact norm_ (by first | (simp only [putAll, Act.put, List.setIfInBounds_toArray, List.set_cons_zero, List.set_cons_succ]; done) | (simp only [putAll, Act.put, List.setIfInBounds_toArray, List.set_cons_zero, List.set_cons_succ]; rfl)) (hJ (v_, g8) _ ⟨hHeld, HS.out⟩)
  rintro ⟨v_, g8⟩ wj ⟨hHeld, hS_⟩
  have n0_ : Aside0 (Sv w [(g8, #[.int .i64 0, .int .i64 0, .int .i64 0, .int .i64 0, .int .i64 0, .string (⟨#[]⟩ : ByteArray), .string (⟨#[]⟩ : ByteArray), .bool false], 36), (g2, #[.int .i64 1, .int .i64 1, .int .i64 8, .int .i64 0, .int .i64 0, .string (⟨#[]⟩ : ByteArray), .string (⟨#[]⟩ : ByteArray), .bool false], 36), (gc, #[.string (⟨#[73, 72, 68, 82]⟩ : ByteArray), .string awH], 30)] wj) := ⟨hS_⟩
  clear HS hS_
  have HS := n0_
  clear n0_
  refine norm_ (a' := ?_) ?_ ?_
  rotate_left
  · simp only [putAll, Act.put, List.setIfInBounds_toArray, List.set_cons_zero, List.set_cons_succ]
    rfl
  refine one_ (i := 12) (N := none) #[true, true, true, true, true, true, true, true, true, true, true, true, true, false, false] rfl rfl (one_of HT_.out (by kernel_rfl)) (by decide) (fun K hK => ?_)
  have y0 := (HS.out.cell 0 rfl 0).trans rfl; have k0 := HS.out.fz 0 rfl 0
  have y1 := (HS.out.cell 0 rfl 1).trans rfl; have k1 := HS.out.fz 0 rfl 1
  have y2 := (HS.out.cell 0 rfl 2).trans rfl; have k2 := HS.out.fz 0 rfl 2
  have y3 := (HS.out.cell 0 rfl 3).trans rfl; have k3 := HS.out.fz 0 rfl 3
  have y4 := (HS.out.cell 0 rfl 4).trans rfl; have k4 := HS.out.fz 0 rfl 4
  have y5 := (HS.out.cell 0 rfl 5).trans rfl; have k5 := HS.out.fz 0 rfl 5
  have y6 := (HS.out.cell 0 rfl 6).trans rfl; have k6 := HS.out.fz 0 rfl 6
  have y7 := (HS.out.cell 0 rfl 7).trans rfl; have k7 := HS.out.fz 0 rfl 7
  refine skip_ (w1 := ?_) (by rfl) rfl ?_ ?_
  rotate_left
  · go_simp
    rfl
  have n0_ : Aside0 (Sv w [(g8, #[.int .i64 0, .int .i64 0, .int .i64 0, .int .i64 0, .int .i64 0, .string (⟨#[]⟩ : ByteArray), .string (⟨#[]⟩ : ByteArray), .bool false], 36), (g2, #[.int .i64 1, .int .i64 1, .int .i64 8, .int .i64 0, .int .i64 0, .string (⟨#[]⟩ : ByteArray), .string (⟨#[]⟩ : ByteArray), .bool false], 36), (gc, #[.string (⟨#[73, 72, 68, 82]⟩ : ByteArray), .string awH], 30)] (World.setCell (World.setCell (World.setCell (World.setCell (World.setCell (World.setCell (World.setCell (World.setCell wj ⟨g8, 0, none⟩ (.int .i64 0)) ⟨g8, 1, none⟩ (.int .i64 0)) ⟨g8, 2, none⟩ (.int .i64 0)) ⟨g8, 3, none⟩ (.int .i64 0)) ⟨g8, 4, none⟩ (.int .i64 0)) ⟨g8, 5, none⟩ (.string (⟨#[]⟩ : ByteArray))) ⟨g8, 6, none⟩ (.string (⟨#[]⟩ : ByteArray))) ⟨g8, 7, none⟩ (.bool false))) := ⟨(Sv.set (Sv.set (Sv.set (Sv.set (Sv.set (Sv.set (Sv.set (Sv.set HS.out 0 rfl 0 (.int .i64 0)) 0 rfl 1 (.int .i64 0)) 0 rfl 2 (.int .i64 0)) 0 rfl 3 (.int .i64 0)) 0 rfl 4 (.int .i64 0)) 0 rfl 5 (.string (⟨#[]⟩ : ByteArray))) 0 rfl 6 (.string (⟨#[]⟩ : ByteArray))) 0 rfl 7 (.bool false))⟩
  clear HS y0 k0 y1 k1 y2 k2 y3 k3 y4 k4 y5 k5 y6 k6 y7 k7
  have HS := n0_
  clear n0_
  generalize (World.setCell (World.setCell (World.setCell (World.setCell (World.setCell (World.setCell (World.setCell (World.setCell wj ⟨g8, 0, none⟩ (.int .i64 0)) ⟨g8, 1, none⟩ (.int .i64 0)) ⟨g8, 2, none⟩ (.int .i64 0)) ⟨g8, 3, none⟩ (.int .i64 0)) ⟨g8, 4, none⟩ (.int .i64 0)) ⟨g8, 5, none⟩ (.string (⟨#[]⟩ : ByteArray))) ⟨g8, 6, none⟩ (.string (⟨#[]⟩ : ByteArray))) ⟨g8, 7, none⟩ (.bool false)) = w84 at HS ⊢
  refine hK.out _ _ ⟨(HS.out.cell 2 rfl 0).trans rfl, (HS.out.cell 2 rfl 1).trans rfl⟩ (fun hHeld => ?_)
  clear hK K
  refine pure_ (i := 13) (N := some 9) (v := ?_) (a' := ?_) #[true, true, true, true, true, true, true, true, true, true, true, true, true, true, false] rfl rfl (any_of HT_.out (by kernel_rfl)) (fun _ _ _ h => h) (Or.inl ⟨by rfl, ?_⟩) ?_ ?_
  rotate_left
  · intro w'
    go_simp
    with_reducible rfl
  rotate_left
  · simp only [Act.put, List.setIfInBounds_toArray, List.set_cons_zero, List.set_cons_succ, i64_w, i32_w]
    rfl
  refine pure_ (i := 14) (N := some 10) (v := ?_) (a' := ?_) #[true, true, true, true, true, true, true, true, true, true, true, true, true, true, true] rfl rfl (any_of HT_.out (by kernel_rfl)) (fun _ _ _ h => h) (Or.inl ⟨by rfl, ?_⟩) ?_ ?_
  rotate_left
  · intro w'
    go_simp
    with_reducible rfl
  rotate_left
  · simp only [Act.put, List.setIfInBounds_toArray, List.set_cons_zero, List.set_cons_succ, i64_w, i32_w]
    rfl
  refine done_ (done_of HT_.out (by kernel_rfl)) ?_
  clear HT_ HW_ hHeld
  try go_wp2
  have n0_ := Aside0.mk HS.out.tail
  clear HS
  have HS := n0_
  clear n0_
  have n0_ := Aside0.mk HS.out.drew
  clear HS
  have HS := n0_
  clear n0_
  refine start_ (n := 14) (S := fun w' => w'.cell? ⟨gc, 0, none⟩ = some (.string (⟨#[73, 72, 68, 82]⟩ : ByteArray)) ∧ w'.cell? ⟨gc, 1, none⟩ = some (.string awH)) (ds := []) #[false, false, false, false, false, false, false, false, false, false, false, false, false, false] (by kernel_rfl) rfl rfl ⟨(HS.out.cell 1 rfl 0).trans rfl, (HS.out.cell 1 rfl 1).trans rfl⟩ (fun hHeld => ?_)
  refine with_tabW vitrinelaw08_awake.tab5 vitrinelaw08_awake.bits5 (fun HT_ HW_ => ?_)
  generalize World.drew _ = w85 at HS hHeld ⊢
  refine take_ (i := 0) (N := some 46) (v := ?_) (a' := ?_) #[true, false, false, false, false, false, false, false, false, false, false, false, false, false] rfl rfl (take_ofW HT_.out HW_.out (by kernel_rfl)) (fun _ _ _ h => h) (Or.inl ⟨by rfl, ?_⟩) hHeld ?_ ?_
  rotate_left
  · rintro w' ⟨s0, s1⟩
    go_simp
    with_reducible rfl
  rotate_left
  · simp only [Act.put, List.setIfInBounds_toArray, List.set_cons_zero, List.set_cons_succ, i64_w, i32_w]
    rfl
  refine pure_ (i := 1) (N := some 47) (v := ?_) (a' := ?_) #[true, true, false, false, false, false, false, false, false, false, false, false, false, false] rfl rfl (any_of HT_.out (by kernel_rfl)) (fun _ _ _ h => h) (Or.inl ⟨by rfl, ?_⟩) ?_ ?_
  rotate_left
  · intro w'
    go_simp
    with_reducible rfl
  rotate_left
  · simp only [Act.put, List.setIfInBounds_toArray, List.set_cons_zero, List.set_cons_succ, i64_w, i32_w]
    rfl
  refine join_ (σ := Value × Nat) 3 #[true, true, true, true, true, true, true, true, true, true, true, false, false, false] (fun s_ => [(48, .agg #[.string (⟨#[73, 68, 65, 84]⟩ : ByteArray), .string (⟨#[120]⟩ : ByteArray)]), (49, .agg #[.string (⟨#[73, 69, 78, 68]⟩ : ByteArray), .string (⟨#[]⟩ : ByteArray)]), (50, s_.1), (51, .tuple #[.agg #[.int .i64 0, .int .i64 0, .int .i64 0, .int .i64 0, .int .i64 0, .string (⟨#[]⟩ : ByteArray), .string (⟨#[]⟩ : ByteArray), .bool false], .string (⟨#[]⟩ : ByteArray), .int .i64 27]), (11, .pointer (some ⟨s_.2, 0, none⟩)), (45, .tuple #[.agg #[.int .i64 0, .int .i64 0, .int .i64 0, .int .i64 0, .int .i64 0, .string (⟨#[]⟩ : ByteArray), .string (⟨#[]⟩ : ByteArray), .bool false], .string (⟨#[]⟩ : ByteArray), .int .i64 27]), (52, .agg #[.int .i64 0, .int .i64 0, .int .i64 0, .int .i64 0, .int .i64 0, .string (⟨#[]⟩ : ByteArray), .string (⟨#[]⟩ : ByteArray), .bool false]), (53, .string (⟨#[]⟩ : ByteArray)), (54, .int .i64 27)]) (fun s_ w' => (w'.cell? ⟨gc, 0, none⟩ = some (.string (⟨#[73, 72, 68, 82]⟩ : ByteArray)) ∧ w'.cell? ⟨gc, 1, none⟩ = some (.string awH)) ∧ Sv w [(s_.2, #[.int .i64 0, .int .i64 0, .int .i64 0, .int .i64 0, .int .i64 0, .string (⟨#[]⟩ : ByteArray), .string (⟨#[]⟩ : ByteArray), .bool false], 36), (g2, #[.int .i64 1, .int .i64 1, .int .i64 8, .int .i64 0, .int .i64 0, .string (⟨#[]⟩ : ByteArray), .string (⟨#[]⟩ : ByteArray), .bool false], 36), (gc, #[.string (⟨#[73, 72, 68, 82]⟩ : ByteArray), .string awH], 30)] w') ?_ ?_
  rotate_left
  · intro hJ
    refine join_ (σ := Value × Nat) 7 #[true, true, true, true, true, true, false, false, false, false, true, false, false, false] (fun s_ => [(48, .agg #[.string (⟨#[73, 68, 65, 84]⟩ : ByteArray), .string (⟨#[120]⟩ : ByteArray)]), (49, .agg #[.string (⟨#[73, 69, 78, 68]⟩ : ByteArray), .string (⟨#[]⟩ : ByteArray)]), (50, s_.1), (51, .tuple #[.agg #[.int .i64 0, .int .i64 0, .int .i64 0, .int .i64 0, .int .i64 0, .string (⟨#[]⟩ : ByteArray), .string (⟨#[]⟩ : ByteArray), .bool false], .string (⟨#[]⟩ : ByteArray), .int .i64 27]), (11, .pointer (some ⟨s_.2, 0, none⟩))]) (fun s_ w' => (w'.cell? ⟨gc, 0, none⟩ = some (.string (⟨#[73, 72, 68, 82]⟩ : ByteArray)) ∧ w'.cell? ⟨gc, 1, none⟩ = some (.string awH)) ∧ Sv w [(s_.2, #[.int .i64 0, .int .i64 0, .int .i64 0, .int .i64 0, .int .i64 0, .string (⟨#[]⟩ : ByteArray), .string (⟨#[]⟩ : ByteArray), .bool false], 36), (g2, #[.int .i64 1, .int .i64 1, .int .i64 8, .int .i64 0, .int .i64 0, .string (⟨#[]⟩ : ByteArray), .string (⟨#[]⟩ : ByteArray), .bool false], 36), (gc, #[.string (⟨#[73, 72, 68, 82]⟩ : ByteArray), .string awH], 30)] w') ?_ ?_
    rotate_left
    · intro hK5
      refine two_ (i := 2) (j := 10) (Ni := some 48) (Nj := some 11) #[true, true, true, false, false, false, false, false, false, false, false, false, false, false] #[true, true, false, false, false, false, false, false, false, false, true, false, false, false] rfl rfl rfl rfl (two_of HT_.out (by kernel_rfl)) (by decide) (by decide) (fun K hK => ?_) (fun K hK => ?_)
      · skip
        refine goes_ Try.func19 (by kernel_rfl) rfl #[.string (⟨#[120]⟩ : ByteArray)] (by rfl) rfl rfl (by (try simp only [List.map_toArray, List.map_cons, List.map_nil]); first | done | rfl) ?_
        with_reducible refine (vitrinelaw08_dat.calls (⟨#[120]⟩ : ByteArray) _ _ _ rfl).mono ?_
        rintro e w86 ⟨rfl, hb⟩
        refine ⟨_, rfl, ?_⟩
        have n0_ := Aside0.mk (HS.out.step hb)
        clear HS hb
        have HS := n0_
        clear n0_
        refine hK.out _ _ ⟨(HS.out.cell 1 rfl 0).trans rfl, (HS.out.cell 1 rfl 1).trans rfl⟩ (fun hHeld => ?_)
        clear hK K
        refine norm_ (a' := ?_) ?_ ?_
        rotate_left
        · show Act.put _ (some 48) _ = _
          simp only [Act.put, List.setIfInBounds_toArray, List.set_cons_zero, List.set_cons_succ, i64_w, i32_w]
          rfl
        refine two_ (i := 3) (j := 10) (Ni := some 49) (Nj := some 11) #[true, true, true, true, false, false, false, false, false, false, false, false, false, false] #[true, true, true, false, false, false, false, false, false, false, true, false, false, false] rfl rfl rfl rfl (two_of HT_.out (by kernel_rfl)) (by decide) (by decide) (fun K hK => ?_) (fun K hK => ?_)
        · skip
          refine goes_ Try.func20 (by kernel_rfl) rfl #[] (by rfl) rfl rfl (by (try simp only [List.map_toArray, List.map_cons, List.map_nil]); first | done | rfl) ?_
          with_reducible refine (vitrinelaw08_ends.calls _ _ _ rfl).mono ?_
          rintro e w87 ⟨rfl, hb⟩
          refine ⟨_, rfl, ?_⟩
          have n0_ := Aside0.mk (HS.out.step hb)
          clear HS hb
          have HS := n0_
          clear n0_
          refine hK.out _ _ ⟨(HS.out.cell 1 rfl 0).trans rfl, (HS.out.cell 1 rfl 1).trans rfl⟩ (fun hHeld => ?_)
          clear hK K
          refine norm_ (a' := ?_) ?_ ?_
          rotate_left
          · show Act.put _ (some 49) _ = _
            simp only [Act.put, List.setIfInBounds_toArray, List.set_cons_zero, List.set_cons_succ, i64_w, i32_w]
            rfl
          refine two_ (i := 4) (j := 10) (Ni := some 50) (Nj := some 11) #[true, true, true, true, true, false, false, false, false, false, false, false, false, false] #[true, true, true, true, false, false, false, false, false, false, true, false, false, false] rfl rfl rfl rfl (two_of HT_.out (by kernel_rfl)) (by decide) (by decide) (fun K hK => ?_) (fun K hK => ?_)
          · skip
            refine Kd.R_lit_step k30 _ 30 ?hg (N := 50) ?hd (xs := [(⟨(⟨#[73, 72, 68, 82]⟩ : ByteArray), awH⟩ : S30), (⟨(⟨#[65, 66, 67, 68]⟩ : ByteArray), (⟨#[]⟩ : ByteArray)⟩ : S30), (⟨(⟨#[73, 68, 65, 84]⟩ : ByteArray), (⟨#[120]⟩ : ByteArray)⟩ : S30), (⟨(⟨#[73, 69, 78, 68]⟩ : ByteArray), (⟨#[]⟩ : ByteArray)⟩ : S30)]) (inner := [.string (⟨#[73, 72, 68, 82]⟩ : ByteArray), .string awH, .string (⟨#[65, 66, 67, 68]⟩ : ByteArray), .string (⟨#[]⟩ : ByteArray), .string (⟨#[73, 68, 65, 84]⟩ : ByteArray), .string (⟨#[120]⟩ : ByteArray), .string (⟨#[73, 69, 78, 68]⟩ : ByteArray), .string (⟨#[]⟩ : ByteArray)]) (ok := fun _ => True) (okp := fun _ => True) ?hr ?hp (fun _ hk => hk) trivial (Below.refl _ _) (Nat.le_refl _) (by simp) ?_; (case hd => rfl); (case hg => rfl); (case hr => first | (go_simp; done) | (go_simp; rfl)); (case hp => exact (Reps.c2 (k30_mkM _ _ _ (⟨(⟨#[73, 72, 68, 82]⟩ : ByteArray), awH⟩ : S30)) (Reps.c2 (k30_mkM _ _ _ (⟨(⟨#[65, 66, 67, 68]⟩ : ByteArray), (⟨#[]⟩ : ByteArray)⟩ : S30)) (Reps.c2 (k30_mkM _ _ _ (⟨(⟨#[73, 68, 65, 84]⟩ : ByteArray), (⟨#[120]⟩ : ByteArray)⟩ : S30)) (Reps.c2 (k30_mkM _ _ _ (⟨(⟨#[73, 69, 78, 68]⟩ : ByteArray), (⟨#[]⟩ : ByteArray)⟩ : S30)) (Reps.none _ _))))))
            intro v88 w89 ho_ hb hg_ hnew_
            have HO := Aside0.mk ho_
            clear hg_ hnew_ ho_
            have n0_ := Aside0.mk (HS.out.step hb)
            clear HS hb
            have HS := n0_
            clear n0_
            refine hK.out _ _ ⟨(HS.out.cell 1 rfl 0).trans rfl, (HS.out.cell 1 rfl 1).trans rfl⟩ (fun hHeld => ?_)
            clear hK K
            refine norm_ (a' := ?_) ?_ ?_
            rotate_left
            · show Act.put _ (some 50) _ = _
              simp only [Act.put, List.setIfInBounds_toArray, List.set_cons_zero, List.set_cons_succ, i64_w, i32_w]
              rfl
            obtain ⟨Ao, co, rfl⟩ := Kd.R_slice HO.out
            refine two_ (i := 5) (j := 10) (Ni := some 51) (Nj := some 11) #[true, true, true, true, true, true, false, false, false, false, false, false, false, false] #[true, true, true, true, true, false, false, false, false, false, true, false, false, false] rfl rfl rfl rfl (two_of HT_.out (by kernel_rfl)) (by decide) (by decide) (fun K hK => ?_) (fun K hK => ?_)
            · skip
              refine goes_ Try.func17 (by kernel_rfl) rfl #[.slice Ao ([(⟨(⟨#[73, 72, 68, 82]⟩ : ByteArray), awH⟩ : S30), (⟨(⟨#[65, 66, 67, 68]⟩ : ByteArray), (⟨#[]⟩ : ByteArray)⟩ : S30), (⟨(⟨#[73, 68, 65, 84]⟩ : ByteArray), (⟨#[120]⟩ : ByteArray)⟩ : S30), (⟨(⟨#[73, 69, 78, 68]⟩ : ByteArray), (⟨#[]⟩ : ByteArray)⟩ : S30)] : List S30).length co] (by rfl) rfl rfl (by (try simp only [List.map_toArray, List.map_cons, List.map_nil]); first | done | rfl) ?_
              with_reducible refine (head_Read.calls 20 _ _ [(⟨(⟨#[73, 72, 68, 82]⟩ : ByteArray), awH⟩ : S30), (⟨(⟨#[65, 66, 67, 68]⟩ : ByteArray), (⟨#[]⟩ : ByteArray)⟩ : S30), (⟨(⟨#[73, 68, 65, 84]⟩ : ByteArray), (⟨#[120]⟩ : ByteArray)⟩ : S30), (⟨(⟨#[73, 69, 78, 68]⟩ : ByteArray), (⟨#[]⟩ : ByteArray)⟩ : S30)] 0 0 0 0 0 (⟨#[]⟩ : ByteArray) (⟨#[]⟩ : ByteArray) false (⟨#[]⟩ : ByteArray) 27 _ (Kd.R_reads' HO.out).2.2 (Kd.R_reads' HO.out).2.1 aw_r3).mono ?_
              rintro e w90 ⟨rfl, hb⟩
              refine ⟨_, rfl, ?_⟩
              clear HO
              have n0_ := Aside0.mk (HS.out.step hb)
              clear HS hb
              have HS := n0_
              clear n0_
              refine hK.out _ _ ⟨(HS.out.cell 1 rfl 0).trans rfl, (HS.out.cell 1 rfl 1).trans rfl⟩ (fun hHeld => ?_)
              clear hK K
              refine norm_ (a' := ?_) ?_ ?_
              rotate_left
              · show Act.put _ (some 51) _ = _
                simp only [Act.put, List.setIfInBounds_toArray, List.set_cons_zero, List.set_cons_succ, i64_w, i32_w]
                rfl
              refine pure_ (i := 6) (N := some 45) (v := ?_) (a' := ?_) #[true, true, true, true, true, true, true, false, false, false, false, false, false, false] rfl rfl (any_of HT_.out (by kernel_rfl)) (fun _ _ _ h => h) (Or.inl ⟨by rfl, ?_⟩) ?_ ?_
              rotate_left
              · intro w'
                go_simp
                with_reducible rfl
              rotate_left
              · simp only [Act.put, List.setIfInBounds_toArray, List.set_cons_zero, List.set_cons_succ, i64_w, i32_w]
                rfl
              refine pure_ (i := 7) (N := some 52) (v := ?_) (a' := ?_) #[true, true, true, true, true, true, true, true, false, false, false, false, false, false] rfl rfl (any_of HT_.out (by kernel_rfl)) (fun _ _ _ h => h) (Or.inl ⟨by rfl, ?_⟩) ?_ ?_
              rotate_left
              · intro w'
                go_simp
                with_reducible rfl
              rotate_left
              · simp only [Act.put, List.setIfInBounds_toArray, List.set_cons_zero, List.set_cons_succ, i64_w, i32_w]
                rfl
              refine pure_ (i := 8) (N := some 53) (v := ?_) (a' := ?_) #[true, true, true, true, true, true, true, true, true, false, false, false, false, false] rfl rfl (any_of HT_.out (by kernel_rfl)) (fun _ _ _ h => h) (Or.inl ⟨by rfl, ?_⟩) ?_ ?_
              rotate_left
              · intro w'
                go_simp
                with_reducible rfl
              rotate_left
              · simp only [Act.put, List.setIfInBounds_toArray, List.set_cons_zero, List.set_cons_succ, i64_w, i32_w]
                rfl
              refine pure_ (i := 9) (N := some 54) (v := ?_) (a' := ?_) #[true, true, true, true, true, true, true, true, true, true, false, false, false, false] rfl rfl (any_of HT_.out (by kernel_rfl)) (fun _ _ _ h => h) (Or.inl ⟨by rfl, ?_⟩) ?_ ?_
              rotate_left
              · intro w'
                go_simp
                with_reducible rfl
              rotate_left
              · simp only [Act.put, List.setIfInBounds_toArray, List.set_cons_zero, List.set_cons_succ, i64_w, i32_w]
                rfl
              refine one_ (i := 10) (N := some 11) #[true, true, true, true, true, true, true, true, true, true, true, false, false, false] rfl rfl (one_of HT_.out (by kernel_rfl)) (by decide) (fun K hK => ?_)
              refine box_step (by rfl) (N := 11) rfl (cs := #[.int .i64 0, .int .i64 0, .int .i64 0, .int .i64 0, .int .i64 0, .string (⟨#[]⟩ : ByteArray), .string (⟨#[]⟩ : ByteArray), .bool false]) (t := 36) (by first | (go_simp; done) | (go_simp; rfl)) ?_
              intro g11 hg w91 hbox hb
              have n0_ := Aside0.mk (HS.out.box hb hg hbox)
              clear HS hb hg hbox
              have HS := n0_
              clear n0_
              refine hK.out _ _ ⟨(HS.out.cell 2 rfl 0).trans rfl, (HS.out.cell 2 rfl 1).trans rfl⟩ (fun hHeld => ?_)
              clear hK K
              refine norm_ (a' := ?_) ?_ ?_
              rotate_left
              · show Act.put _ (some 11) _ = _
                simp only [Act.put, List.setIfInBounds_toArray, List.set_cons_zero, List.set_cons_succ, i64_w, i32_w]
                rfl
              exact norm_ (by first | (simp only [putAll, Act.put, List.setIfInBounds_toArray, List.set_cons_zero, List.set_cons_succ]; done) | (simp only [putAll, Act.put, List.setIfInBounds_toArray, List.set_cons_zero, List.set_cons_succ]; rfl)) (hJ (_, g11) _ ⟨hHeld, HS.out⟩)
            · skip
              refine box_step (by rfl) (N := 11) rfl (cs := #[.int .i64 0, .int .i64 0, .int .i64 0, .int .i64 0, .int .i64 0, .string (⟨#[]⟩ : ByteArray), .string (⟨#[]⟩ : ByteArray), .bool false]) (t := 36) (by first | (go_simp; done) | (go_simp; rfl)) ?_
              intro g11 hg w92 hbox hb
              have n0_ := Aside0.mk (HS.out.box hb hg hbox); have n1_ := Aside0.mk (Kd.R_below HO.out hb)
              clear HS hb hg hbox HO
              have HS := n0_; have HO := n1_
              clear n0_ n1_
              refine hK.out _ _ ⟨(HS.out.cell 2 rfl 0).trans rfl, (HS.out.cell 2 rfl 1).trans rfl⟩ (fun hHeld => ?_)
              clear hK K
              refine norm_ (a' := ?_) ?_ ?_
              rotate_left
              · show Act.put _ (some 11) _ = _
                simp only [Act.put, List.setIfInBounds_toArray, List.set_cons_zero, List.set_cons_succ, i64_w, i32_w]
                rfl
              refine one_ (i := 5) (N := some 51) #[true, true, true, true, true, true, false, false, false, false, true, false, false, false] rfl rfl (one_of HT_.out (by kernel_rfl)) (by decide) (fun K hK => ?_)
              refine goes_ Try.func17 (by kernel_rfl) rfl #[.slice Ao ([(⟨(⟨#[73, 72, 68, 82]⟩ : ByteArray), awH⟩ : S30), (⟨(⟨#[65, 66, 67, 68]⟩ : ByteArray), (⟨#[]⟩ : ByteArray)⟩ : S30), (⟨(⟨#[73, 68, 65, 84]⟩ : ByteArray), (⟨#[120]⟩ : ByteArray)⟩ : S30), (⟨(⟨#[73, 69, 78, 68]⟩ : ByteArray), (⟨#[]⟩ : ByteArray)⟩ : S30)] : List S30).length co] (by rfl) rfl rfl (by (try simp only [List.map_toArray, List.map_cons, List.map_nil]); first | done | rfl) ?_
              with_reducible refine (head_Read.calls 20 _ _ [(⟨(⟨#[73, 72, 68, 82]⟩ : ByteArray), awH⟩ : S30), (⟨(⟨#[65, 66, 67, 68]⟩ : ByteArray), (⟨#[]⟩ : ByteArray)⟩ : S30), (⟨(⟨#[73, 68, 65, 84]⟩ : ByteArray), (⟨#[120]⟩ : ByteArray)⟩ : S30), (⟨(⟨#[73, 69, 78, 68]⟩ : ByteArray), (⟨#[]⟩ : ByteArray)⟩ : S30)] 0 0 0 0 0 (⟨#[]⟩ : ByteArray) (⟨#[]⟩ : ByteArray) false (⟨#[]⟩ : ByteArray) 27 _ (Kd.R_reads' HO.out).2.2 (Kd.R_reads' HO.out).2.1 aw_r3).mono ?_
              rintro e w93 ⟨rfl, hb⟩
              refine ⟨_, rfl, ?_⟩
              clear HO
              have n0_ := Aside0.mk (HS.out.step hb)
              clear HS hb
              have HS := n0_
              clear n0_
              refine hK.out _ _ ⟨(HS.out.cell 2 rfl 0).trans rfl, (HS.out.cell 2 rfl 1).trans rfl⟩ (fun hHeld => ?_)
              clear hK K
              refine norm_ (a' := ?_) ?_ ?_
              rotate_left
              · show Act.put _ (some 51) _ = _
                simp only [Act.put, List.setIfInBounds_toArray, List.set_cons_zero, List.set_cons_succ, i64_w, i32_w]
                rfl
              exact norm_ (by first | (simp only [putAll, Act.put, List.setIfInBounds_toArray, List.set_cons_zero, List.set_cons_succ]; done) | (simp only [putAll, Act.put, List.setIfInBounds_toArray, List.set_cons_zero, List.set_cons_succ]; rfl)) (hK5 (_, g11) _ ⟨hHeld, HS.out⟩)
          · skip
            refine box_step (by rfl) (N := 11) rfl (cs := #[.int .i64 0, .int .i64 0, .int .i64 0, .int .i64 0, .int .i64 0, .string (⟨#[]⟩ : ByteArray), .string (⟨#[]⟩ : ByteArray), .bool false]) (t := 36) (by first | (go_simp; done) | (go_simp; rfl)) ?_
            intro g11 hg w94 hbox hb
            have n0_ := Aside0.mk (HS.out.box hb hg hbox)
            clear HS hb hg hbox
            have HS := n0_
            clear n0_
            refine hK.out _ _ ⟨(HS.out.cell 2 rfl 0).trans rfl, (HS.out.cell 2 rfl 1).trans rfl⟩ (fun hHeld => ?_)
            clear hK K
            refine norm_ (a' := ?_) ?_ ?_
            rotate_left
            · show Act.put _ (some 11) _ = _
              simp only [Act.put, List.setIfInBounds_toArray, List.set_cons_zero, List.set_cons_succ, i64_w, i32_w]
              rfl
            refine one_ (i := 4) (N := some 50) #[true, true, true, true, true, false, false, false, false, false, true, false, false, false] rfl rfl (one_of HT_.out (by kernel_rfl)) (by decide) (fun K hK => ?_)
            refine Kd.R_lit_step k30 _ 30 ?hg (N := 50) ?hd (xs := [(⟨(⟨#[73, 72, 68, 82]⟩ : ByteArray), awH⟩ : S30), (⟨(⟨#[65, 66, 67, 68]⟩ : ByteArray), (⟨#[]⟩ : ByteArray)⟩ : S30), (⟨(⟨#[73, 68, 65, 84]⟩ : ByteArray), (⟨#[120]⟩ : ByteArray)⟩ : S30), (⟨(⟨#[73, 69, 78, 68]⟩ : ByteArray), (⟨#[]⟩ : ByteArray)⟩ : S30)]) (inner := [.string (⟨#[73, 72, 68, 82]⟩ : ByteArray), .string awH, .string (⟨#[65, 66, 67, 68]⟩ : ByteArray), .string (⟨#[]⟩ : ByteArray), .string (⟨#[73, 68, 65, 84]⟩ : ByteArray), .string (⟨#[120]⟩ : ByteArray), .string (⟨#[73, 69, 78, 68]⟩ : ByteArray), .string (⟨#[]⟩ : ByteArray)]) (ok := fun _ => True) (okp := fun _ => True) ?hr ?hp (fun _ hk => hk) trivial (Below.refl _ _) (Nat.le_refl _) (by simp) ?_; (case hd => rfl); (case hg => rfl); (case hr => first | (go_simp; done) | (go_simp; rfl)); (case hp => exact (Reps.c2 (k30_mkM _ _ _ (⟨(⟨#[73, 72, 68, 82]⟩ : ByteArray), awH⟩ : S30)) (Reps.c2 (k30_mkM _ _ _ (⟨(⟨#[65, 66, 67, 68]⟩ : ByteArray), (⟨#[]⟩ : ByteArray)⟩ : S30)) (Reps.c2 (k30_mkM _ _ _ (⟨(⟨#[73, 68, 65, 84]⟩ : ByteArray), (⟨#[120]⟩ : ByteArray)⟩ : S30)) (Reps.c2 (k30_mkM _ _ _ (⟨(⟨#[73, 69, 78, 68]⟩ : ByteArray), (⟨#[]⟩ : ByteArray)⟩ : S30)) (Reps.none _ _))))))
            intro v95 w96 ho_ hb hg_ hnew_
            have HO := Aside0.mk ho_
            clear hg_ hnew_ ho_
            have n0_ := Aside0.mk (HS.out.step hb)
            clear HS hb
            have HS := n0_
            clear n0_
            refine hK.out _ _ ⟨(HS.out.cell 2 rfl 0).trans rfl, (HS.out.cell 2 rfl 1).trans rfl⟩ (fun hHeld => ?_)
            clear hK K
            refine norm_ (a' := ?_) ?_ ?_
            rotate_left
            · show Act.put _ (some 50) _ = _
              simp only [Act.put, List.setIfInBounds_toArray, List.set_cons_zero, List.set_cons_succ, i64_w, i32_w]
              rfl
            obtain ⟨Ao, co, rfl⟩ := Kd.R_slice HO.out
            refine one_ (i := 5) (N := some 51) #[true, true, true, true, true, true, false, false, false, false, true, false, false, false] rfl rfl (one_of HT_.out (by kernel_rfl)) (by decide) (fun K hK => ?_)
            refine goes_ Try.func17 (by kernel_rfl) rfl #[.slice Ao ([(⟨(⟨#[73, 72, 68, 82]⟩ : ByteArray), awH⟩ : S30), (⟨(⟨#[65, 66, 67, 68]⟩ : ByteArray), (⟨#[]⟩ : ByteArray)⟩ : S30), (⟨(⟨#[73, 68, 65, 84]⟩ : ByteArray), (⟨#[120]⟩ : ByteArray)⟩ : S30), (⟨(⟨#[73, 69, 78, 68]⟩ : ByteArray), (⟨#[]⟩ : ByteArray)⟩ : S30)] : List S30).length co] (by rfl) rfl rfl (by (try simp only [List.map_toArray, List.map_cons, List.map_nil]); first | done | rfl) ?_
            with_reducible refine (head_Read.calls 20 _ _ [(⟨(⟨#[73, 72, 68, 82]⟩ : ByteArray), awH⟩ : S30), (⟨(⟨#[65, 66, 67, 68]⟩ : ByteArray), (⟨#[]⟩ : ByteArray)⟩ : S30), (⟨(⟨#[73, 68, 65, 84]⟩ : ByteArray), (⟨#[120]⟩ : ByteArray)⟩ : S30), (⟨(⟨#[73, 69, 78, 68]⟩ : ByteArray), (⟨#[]⟩ : ByteArray)⟩ : S30)] 0 0 0 0 0 (⟨#[]⟩ : ByteArray) (⟨#[]⟩ : ByteArray) false (⟨#[]⟩ : ByteArray) 27 _ (Kd.R_reads' HO.out).2.2 (Kd.R_reads' HO.out).2.1 aw_r3).mono ?_
            rintro e w97 ⟨rfl, hb⟩
            refine ⟨_, rfl, ?_⟩
            clear HO
            have n0_ := Aside0.mk (HS.out.step hb)
            clear HS hb
            have HS := n0_
            clear n0_
            refine hK.out _ _ ⟨(HS.out.cell 2 rfl 0).trans rfl, (HS.out.cell 2 rfl 1).trans rfl⟩ (fun hHeld => ?_)
            clear hK K
            refine norm_ (a' := ?_) ?_ ?_
            rotate_left
            · show Act.put _ (some 51) _ = _
              simp only [Act.put, List.setIfInBounds_toArray, List.set_cons_zero, List.set_cons_succ, i64_w, i32_w]
              rfl
            exact norm_ (by first | (simp only [putAll, Act.put, List.setIfInBounds_toArray, List.set_cons_zero, List.set_cons_succ]; done) | (simp only [putAll, Act.put, List.setIfInBounds_toArray, List.set_cons_zero, List.set_cons_succ]; rfl)) (hK5 (_, g11) _ ⟨hHeld, HS.out⟩)
        · skip
          refine box_step (by rfl) (N := 11) rfl (cs := #[.int .i64 0, .int .i64 0, .int .i64 0, .int .i64 0, .int .i64 0, .string (⟨#[]⟩ : ByteArray), .string (⟨#[]⟩ : ByteArray), .bool false]) (t := 36) (by first | (go_simp; done) | (go_simp; rfl)) ?_
          intro g11 hg w98 hbox hb
          have n0_ := Aside0.mk (HS.out.box hb hg hbox)
          clear HS hb hg hbox
          have HS := n0_
          clear n0_
          refine hK.out _ _ ⟨(HS.out.cell 2 rfl 0).trans rfl, (HS.out.cell 2 rfl 1).trans rfl⟩ (fun hHeld => ?_)
          clear hK K
          refine norm_ (a' := ?_) ?_ ?_
          rotate_left
          · show Act.put _ (some 11) _ = _
            simp only [Act.put, List.setIfInBounds_toArray, List.set_cons_zero, List.set_cons_succ, i64_w, i32_w]
            rfl
          refine one_ (i := 3) (N := some 49) #[true, true, true, true, false, false, false, false, false, false, true, false, false, false] rfl rfl (one_of HT_.out (by kernel_rfl)) (by decide) (fun K hK => ?_)
          refine goes_ Try.func20 (by kernel_rfl) rfl #[] (by rfl) rfl rfl (by (try simp only [List.map_toArray, List.map_cons, List.map_nil]); first | done | rfl) ?_
          with_reducible refine (vitrinelaw08_ends.calls _ _ _ rfl).mono ?_
          rintro e w99 ⟨rfl, hb⟩
          refine ⟨_, rfl, ?_⟩
          have n0_ := Aside0.mk (HS.out.step hb)
          clear HS hb
          have HS := n0_
          clear n0_
          refine hK.out _ _ ⟨(HS.out.cell 2 rfl 0).trans rfl, (HS.out.cell 2 rfl 1).trans rfl⟩ (fun hHeld => ?_)
          clear hK K
          refine norm_ (a' := ?_) ?_ ?_
          rotate_left
          · show Act.put _ (some 49) _ = _
            simp only [Act.put, List.setIfInBounds_toArray, List.set_cons_zero, List.set_cons_succ, i64_w, i32_w]
            rfl
          refine one_ (i := 4) (N := some 50) #[true, true, true, true, true, false, false, false, false, false, true, false, false, false] rfl rfl (one_of HT_.out (by kernel_rfl)) (by decide) (fun K hK => ?_)
          refine Kd.R_lit_step k30 _ 30 ?hg (N := 50) ?hd (xs := [(⟨(⟨#[73, 72, 68, 82]⟩ : ByteArray), awH⟩ : S30), (⟨(⟨#[65, 66, 67, 68]⟩ : ByteArray), (⟨#[]⟩ : ByteArray)⟩ : S30), (⟨(⟨#[73, 68, 65, 84]⟩ : ByteArray), (⟨#[120]⟩ : ByteArray)⟩ : S30), (⟨(⟨#[73, 69, 78, 68]⟩ : ByteArray), (⟨#[]⟩ : ByteArray)⟩ : S30)]) (inner := [.string (⟨#[73, 72, 68, 82]⟩ : ByteArray), .string awH, .string (⟨#[65, 66, 67, 68]⟩ : ByteArray), .string (⟨#[]⟩ : ByteArray), .string (⟨#[73, 68, 65, 84]⟩ : ByteArray), .string (⟨#[120]⟩ : ByteArray), .string (⟨#[73, 69, 78, 68]⟩ : ByteArray), .string (⟨#[]⟩ : ByteArray)]) (ok := fun _ => True) (okp := fun _ => True) ?hr ?hp (fun _ hk => hk) trivial (Below.refl _ _) (Nat.le_refl _) (by simp) ?_; (case hd => rfl); (case hg => rfl); (case hr => first | (go_simp; done) | (go_simp; rfl)); (case hp => exact (Reps.c2 (k30_mkM _ _ _ (⟨(⟨#[73, 72, 68, 82]⟩ : ByteArray), awH⟩ : S30)) (Reps.c2 (k30_mkM _ _ _ (⟨(⟨#[65, 66, 67, 68]⟩ : ByteArray), (⟨#[]⟩ : ByteArray)⟩ : S30)) (Reps.c2 (k30_mkM _ _ _ (⟨(⟨#[73, 68, 65, 84]⟩ : ByteArray), (⟨#[120]⟩ : ByteArray)⟩ : S30)) (Reps.c2 (k30_mkM _ _ _ (⟨(⟨#[73, 69, 78, 68]⟩ : ByteArray), (⟨#[]⟩ : ByteArray)⟩ : S30)) (Reps.none _ _))))))
          intro v100 w101 ho_ hb hg_ hnew_
          have HO := Aside0.mk ho_
          clear hg_ hnew_ ho_
          have n0_ := Aside0.mk (HS.out.step hb)
          clear HS hb
          have HS := n0_
          clear n0_
          refine hK.out _ _ ⟨(HS.out.cell 2 rfl 0).trans rfl, (HS.out.cell 2 rfl 1).trans rfl⟩ (fun hHeld => ?_)
          clear hK K
          refine norm_ (a' := ?_) ?_ ?_
          rotate_left
          · show Act.put _ (some 50) _ = _
            simp only [Act.put, List.setIfInBounds_toArray, List.set_cons_zero, List.set_cons_succ, i64_w, i32_w]
            rfl
          obtain ⟨Ao, co, rfl⟩ := Kd.R_slice HO.out
          refine one_ (i := 5) (N := some 51) #[true, true, true, true, true, true, false, false, false, false, true, false, false, false] rfl rfl (one_of HT_.out (by kernel_rfl)) (by decide) (fun K hK => ?_)
          refine goes_ Try.func17 (by kernel_rfl) rfl #[.slice Ao ([(⟨(⟨#[73, 72, 68, 82]⟩ : ByteArray), awH⟩ : S30), (⟨(⟨#[65, 66, 67, 68]⟩ : ByteArray), (⟨#[]⟩ : ByteArray)⟩ : S30), (⟨(⟨#[73, 68, 65, 84]⟩ : ByteArray), (⟨#[120]⟩ : ByteArray)⟩ : S30), (⟨(⟨#[73, 69, 78, 68]⟩ : ByteArray), (⟨#[]⟩ : ByteArray)⟩ : S30)] : List S30).length co] (by rfl) rfl rfl (by (try simp only [List.map_toArray, List.map_cons, List.map_nil]); first | done | rfl) ?_
          with_reducible refine (head_Read.calls 20 _ _ [(⟨(⟨#[73, 72, 68, 82]⟩ : ByteArray), awH⟩ : S30), (⟨(⟨#[65, 66, 67, 68]⟩ : ByteArray), (⟨#[]⟩ : ByteArray)⟩ : S30), (⟨(⟨#[73, 68, 65, 84]⟩ : ByteArray), (⟨#[120]⟩ : ByteArray)⟩ : S30), (⟨(⟨#[73, 69, 78, 68]⟩ : ByteArray), (⟨#[]⟩ : ByteArray)⟩ : S30)] 0 0 0 0 0 (⟨#[]⟩ : ByteArray) (⟨#[]⟩ : ByteArray) false (⟨#[]⟩ : ByteArray) 27 _ (Kd.R_reads' HO.out).2.2 (Kd.R_reads' HO.out).2.1 aw_r3).mono ?_
          rintro e w102 ⟨rfl, hb⟩
          refine ⟨_, rfl, ?_⟩
          clear HO
          have n0_ := Aside0.mk (HS.out.step hb)
          clear HS hb
          have HS := n0_
          clear n0_
          refine hK.out _ _ ⟨(HS.out.cell 2 rfl 0).trans rfl, (HS.out.cell 2 rfl 1).trans rfl⟩ (fun hHeld => ?_)
          clear hK K
          refine norm_ (a' := ?_) ?_ ?_
          rotate_left
          · show Act.put _ (some 51) _ = _
            simp only [Act.put, List.setIfInBounds_toArray, List.set_cons_zero, List.set_cons_succ, i64_w, i32_w]
            rfl
          exact norm_ (by first | (simp only [putAll, Act.put, List.setIfInBounds_toArray, List.set_cons_zero, List.set_cons_succ]; done) | (simp only [putAll, Act.put, List.setIfInBounds_toArray, List.set_cons_zero, List.set_cons_succ]; rfl)) (hK5 (_, g11) _ ⟨hHeld, HS.out⟩)
      · skip
        refine box_step (by rfl) (N := 11) rfl (cs := #[.int .i64 0, .int .i64 0, .int .i64 0, .int .i64 0, .int .i64 0, .string (⟨#[]⟩ : ByteArray), .string (⟨#[]⟩ : ByteArray), .bool false]) (t := 36) (by first | (go_simp; done) | (go_simp; rfl)) ?_
        intro g11 hg w103 hbox hb
        have n0_ := Aside0.mk (HS.out.box hb hg hbox)
        clear HS hb hg hbox
        have HS := n0_
        clear n0_
        refine hK.out _ _ ⟨(HS.out.cell 2 rfl 0).trans rfl, (HS.out.cell 2 rfl 1).trans rfl⟩ (fun hHeld => ?_)
        clear hK K
        refine norm_ (a' := ?_) ?_ ?_
        rotate_left
        · show Act.put _ (some 11) _ = _
          simp only [Act.put, List.setIfInBounds_toArray, List.set_cons_zero, List.set_cons_succ, i64_w, i32_w]
          rfl
        refine one_ (i := 2) (N := some 48) #[true, true, true, false, false, false, false, false, false, false, true, false, false, false] rfl rfl (one_of HT_.out (by kernel_rfl)) (by decide) (fun K hK => ?_)
        refine goes_ Try.func19 (by kernel_rfl) rfl #[.string (⟨#[120]⟩ : ByteArray)] (by rfl) rfl rfl (by (try simp only [List.map_toArray, List.map_cons, List.map_nil]); first | done | rfl) ?_
        with_reducible refine (vitrinelaw08_dat.calls (⟨#[120]⟩ : ByteArray) _ _ _ rfl).mono ?_
        rintro e w104 ⟨rfl, hb⟩
        refine ⟨_, rfl, ?_⟩
        have n0_ := Aside0.mk (HS.out.step hb)
        clear HS hb
        have HS := n0_
        clear n0_
        refine hK.out _ _ ⟨(HS.out.cell 2 rfl 0).trans rfl, (HS.out.cell 2 rfl 1).trans rfl⟩ (fun hHeld => ?_)
        clear hK K
        refine norm_ (a' := ?_) ?_ ?_
        rotate_left
        · show Act.put _ (some 48) _ = _
          simp only [Act.put, List.setIfInBounds_toArray, List.set_cons_zero, List.set_cons_succ, i64_w, i32_w]
          rfl
        refine one_ (i := 3) (N := some 49) #[true, true, true, true, false, false, false, false, false, false, true, false, false, false] rfl rfl (one_of HT_.out (by kernel_rfl)) (by decide) (fun K hK => ?_)
        refine goes_ Try.func20 (by kernel_rfl) rfl #[] (by rfl) rfl rfl (by (try simp only [List.map_toArray, List.map_cons, List.map_nil]); first | done | rfl) ?_
        with_reducible refine (vitrinelaw08_ends.calls _ _ _ rfl).mono ?_
        rintro e w105 ⟨rfl, hb⟩
        refine ⟨_, rfl, ?_⟩
        have n0_ := Aside0.mk (HS.out.step hb)
        clear HS hb
        have HS := n0_
        clear n0_
        refine hK.out _ _ ⟨(HS.out.cell 2 rfl 0).trans rfl, (HS.out.cell 2 rfl 1).trans rfl⟩ (fun hHeld => ?_)
        clear hK K
        refine norm_ (a' := ?_) ?_ ?_
        rotate_left
        · show Act.put _ (some 49) _ = _
          simp only [Act.put, List.setIfInBounds_toArray, List.set_cons_zero, List.set_cons_succ, i64_w, i32_w]
          rfl
        refine one_ (i := 4) (N := some 50) #[true, true, true, true, true, false, false, false, false, false, true, false, false, false] rfl rfl (one_of HT_.out (by kernel_rfl)) (by decide) (fun K hK => ?_)
        refine Kd.R_lit_step k30 _ 30 ?hg (N := 50) ?hd (xs := [(⟨(⟨#[73, 72, 68, 82]⟩ : ByteArray), awH⟩ : S30), (⟨(⟨#[65, 66, 67, 68]⟩ : ByteArray), (⟨#[]⟩ : ByteArray)⟩ : S30), (⟨(⟨#[73, 68, 65, 84]⟩ : ByteArray), (⟨#[120]⟩ : ByteArray)⟩ : S30), (⟨(⟨#[73, 69, 78, 68]⟩ : ByteArray), (⟨#[]⟩ : ByteArray)⟩ : S30)]) (inner := [.string (⟨#[73, 72, 68, 82]⟩ : ByteArray), .string awH, .string (⟨#[65, 66, 67, 68]⟩ : ByteArray), .string (⟨#[]⟩ : ByteArray), .string (⟨#[73, 68, 65, 84]⟩ : ByteArray), .string (⟨#[120]⟩ : ByteArray), .string (⟨#[73, 69, 78, 68]⟩ : ByteArray), .string (⟨#[]⟩ : ByteArray)]) (ok := fun _ => True) (okp := fun _ => True) ?hr ?hp (fun _ hk => hk) trivial (Below.refl _ _) (Nat.le_refl _) (by simp) ?_; (case hd => rfl); (case hg => rfl); (case hr => first | (go_simp; done) | (go_simp; rfl)); (case hp => exact (Reps.c2 (k30_mkM _ _ _ (⟨(⟨#[73, 72, 68, 82]⟩ : ByteArray), awH⟩ : S30)) (Reps.c2 (k30_mkM _ _ _ (⟨(⟨#[65, 66, 67, 68]⟩ : ByteArray), (⟨#[]⟩ : ByteArray)⟩ : S30)) (Reps.c2 (k30_mkM _ _ _ (⟨(⟨#[73, 68, 65, 84]⟩ : ByteArray), (⟨#[120]⟩ : ByteArray)⟩ : S30)) (Reps.c2 (k30_mkM _ _ _ (⟨(⟨#[73, 69, 78, 68]⟩ : ByteArray), (⟨#[]⟩ : ByteArray)⟩ : S30)) (Reps.none _ _))))))
        intro v106 w107 ho_ hb hg_ hnew_
        have HO := Aside0.mk ho_
        clear hg_ hnew_ ho_
        have n0_ := Aside0.mk (HS.out.step hb)
        clear HS hb
        have HS := n0_
        clear n0_
        refine hK.out _ _ ⟨(HS.out.cell 2 rfl 0).trans rfl, (HS.out.cell 2 rfl 1).trans rfl⟩ (fun hHeld => ?_)
        clear hK K
        refine norm_ (a' := ?_) ?_ ?_
        rotate_left
        · show Act.put _ (some 50) _ = _
          simp only [Act.put, List.setIfInBounds_toArray, List.set_cons_zero, List.set_cons_succ, i64_w, i32_w]
          rfl
        obtain ⟨Ao, co, rfl⟩ := Kd.R_slice HO.out
        refine one_ (i := 5) (N := some 51) #[true, true, true, true, true, true, false, false, false, false, true, false, false, false] rfl rfl (one_of HT_.out (by kernel_rfl)) (by decide) (fun K hK => ?_)
        refine goes_ Try.func17 (by kernel_rfl) rfl #[.slice Ao ([(⟨(⟨#[73, 72, 68, 82]⟩ : ByteArray), awH⟩ : S30), (⟨(⟨#[65, 66, 67, 68]⟩ : ByteArray), (⟨#[]⟩ : ByteArray)⟩ : S30), (⟨(⟨#[73, 68, 65, 84]⟩ : ByteArray), (⟨#[120]⟩ : ByteArray)⟩ : S30), (⟨(⟨#[73, 69, 78, 68]⟩ : ByteArray), (⟨#[]⟩ : ByteArray)⟩ : S30)] : List S30).length co] (by rfl) rfl rfl (by (try simp only [List.map_toArray, List.map_cons, List.map_nil]); first | done | rfl) ?_
        with_reducible refine (head_Read.calls 20 _ _ [(⟨(⟨#[73, 72, 68, 82]⟩ : ByteArray), awH⟩ : S30), (⟨(⟨#[65, 66, 67, 68]⟩ : ByteArray), (⟨#[]⟩ : ByteArray)⟩ : S30), (⟨(⟨#[73, 68, 65, 84]⟩ : ByteArray), (⟨#[120]⟩ : ByteArray)⟩ : S30), (⟨(⟨#[73, 69, 78, 68]⟩ : ByteArray), (⟨#[]⟩ : ByteArray)⟩ : S30)] 0 0 0 0 0 (⟨#[]⟩ : ByteArray) (⟨#[]⟩ : ByteArray) false (⟨#[]⟩ : ByteArray) 27 _ (Kd.R_reads' HO.out).2.2 (Kd.R_reads' HO.out).2.1 aw_r3).mono ?_
        rintro e w108 ⟨rfl, hb⟩
        refine ⟨_, rfl, ?_⟩
        clear HO
        have n0_ := Aside0.mk (HS.out.step hb)
        clear HS hb
        have HS := n0_
        clear n0_
        refine hK.out _ _ ⟨(HS.out.cell 2 rfl 0).trans rfl, (HS.out.cell 2 rfl 1).trans rfl⟩ (fun hHeld => ?_)
        clear hK K
        refine norm_ (a' := ?_) ?_ ?_
        rotate_left
        · show Act.put _ (some 51) _ = _
          simp only [Act.put, List.setIfInBounds_toArray, List.set_cons_zero, List.set_cons_succ, i64_w, i32_w]
          rfl
        exact norm_ (by first | (simp only [putAll, Act.put, List.setIfInBounds_toArray, List.set_cons_zero, List.set_cons_succ]; done) | (simp only [putAll, Act.put, List.setIfInBounds_toArray, List.set_cons_zero, List.set_cons_succ]; rfl)) (hK5 (_, g11) _ ⟨hHeld, HS.out⟩)
    · rintro ⟨v_, g11⟩ wj ⟨hHeld, hS_⟩
      have n0_ : Aside0 (Sv w [(g11, #[.int .i64 0, .int .i64 0, .int .i64 0, .int .i64 0, .int .i64 0, .string (⟨#[]⟩ : ByteArray), .string (⟨#[]⟩ : ByteArray), .bool false], 36), (g2, #[.int .i64 1, .int .i64 1, .int .i64 8, .int .i64 0, .int .i64 0, .string (⟨#[]⟩ : ByteArray), .string (⟨#[]⟩ : ByteArray), .bool false], 36), (gc, #[.string (⟨#[73, 72, 68, 82]⟩ : ByteArray), .string awH], 30)] wj) := ⟨hS_⟩
      clear HS hS_
      have HS := n0_
      clear n0_
      refine norm_ (a' := ?_) ?_ ?_
      rotate_left
      · simp only [putAll, Act.put, List.setIfInBounds_toArray, List.set_cons_zero, List.set_cons_succ]
        rfl
      refine pure_ (i := 6) (N := some 45) (v := ?_) (a' := ?_) #[true, true, true, true, true, true, true, false, false, false, true, false, false, false] rfl rfl (any_of HT_.out (by kernel_rfl)) (fun _ _ _ h => h) (Or.inl ⟨by rfl, ?_⟩) ?_ ?_
      rotate_left
      · intro w'
        go_simp
        with_reducible rfl
      rotate_left
      · simp only [Act.put, List.setIfInBounds_toArray, List.set_cons_zero, List.set_cons_succ, i64_w, i32_w]
        rfl
      refine pure_ (i := 7) (N := some 52) (v := ?_) (a' := ?_) #[true, true, true, true, true, true, true, true, false, false, true, false, false, false] rfl rfl (any_of HT_.out (by kernel_rfl)) (fun _ _ _ h => h) (Or.inl ⟨by rfl, ?_⟩) ?_ ?_
      rotate_left
      · intro w'
        go_simp
        with_reducible rfl
      rotate_left
      · simp only [Act.put, List.setIfInBounds_toArray, List.set_cons_zero, List.set_cons_succ, i64_w, i32_w]
        rfl
      refine pure_ (i := 8) (N := some 53) (v := ?_) (a' := ?_) #[true, true, true, true, true, true, true, true, true, false, true, false, false, false] rfl rfl (any_of HT_.out (by kernel_rfl)) (fun _ _ _ h => h) (Or.inl ⟨by rfl, ?_⟩) ?_ ?_
      rotate_left
      · intro w'
        go_simp
        with_reducible rfl
      rotate_left
      · simp only [Act.put, List.setIfInBounds_toArray, List.set_cons_zero, List.set_cons_succ, i64_w, i32_w]
        rfl
      refine pure_ (i := 9) (N := some 54) (v := ?_) (a' := ?_) #[true, true, true, true, true, true, true, true, true, true, true, false, false, false] rfl rfl (any_of HT_.out (by kernel_rfl)) (fun _ _ _ h => h) (Or.inl ⟨by rfl, ?_⟩) ?_ ?_
      rotate_left
      · intro w'
        go_simp
        with_reducible rfl
      rotate_left
      · simp only [Act.put, List.setIfInBounds_toArray, List.set_cons_zero, List.set_cons_succ, i64_w, i32_w]
        rfl
      exact norm_ (by first | (simp only [putAll, Act.put, List.setIfInBounds_toArray, List.set_cons_zero, List.set_cons_succ]; done) | (simp only [putAll, Act.put, List.setIfInBounds_toArray, List.set_cons_zero, List.set_cons_succ]; rfl)) (hJ (v_, g11) _ ⟨hHeld, HS.out⟩)
  rintro ⟨v_, g11⟩ wj ⟨hHeld, hS_⟩
  have n0_ : Aside0 (Sv w [(g11, #[.int .i64 0, .int .i64 0, .int .i64 0, .int .i64 0, .int .i64 0, .string (⟨#[]⟩ : ByteArray), .string (⟨#[]⟩ : ByteArray), .bool false], 36), (g2, #[.int .i64 1, .int .i64 1, .int .i64 8, .int .i64 0, .int .i64 0, .string (⟨#[]⟩ : ByteArray), .string (⟨#[]⟩ : ByteArray), .bool false], 36), (gc, #[.string (⟨#[73, 72, 68, 82]⟩ : ByteArray), .string awH], 30)] wj) := ⟨hS_⟩
  clear HS hS_
  have HS := n0_
  clear n0_
  refine norm_ (a' := ?_) ?_ ?_
  rotate_left
  · simp only [putAll, Act.put, List.setIfInBounds_toArray, List.set_cons_zero, List.set_cons_succ]
    rfl
  refine one_ (i := 11) (N := none) #[true, true, true, true, true, true, true, true, true, true, true, true, false, false] rfl rfl (one_of HT_.out (by kernel_rfl)) (by decide) (fun K hK => ?_)
  have y0 := (HS.out.cell 0 rfl 0).trans rfl; have k0 := HS.out.fz 0 rfl 0
  have y1 := (HS.out.cell 0 rfl 1).trans rfl; have k1 := HS.out.fz 0 rfl 1
  have y2 := (HS.out.cell 0 rfl 2).trans rfl; have k2 := HS.out.fz 0 rfl 2
  have y3 := (HS.out.cell 0 rfl 3).trans rfl; have k3 := HS.out.fz 0 rfl 3
  have y4 := (HS.out.cell 0 rfl 4).trans rfl; have k4 := HS.out.fz 0 rfl 4
  have y5 := (HS.out.cell 0 rfl 5).trans rfl; have k5 := HS.out.fz 0 rfl 5
  have y6 := (HS.out.cell 0 rfl 6).trans rfl; have k6 := HS.out.fz 0 rfl 6
  have y7 := (HS.out.cell 0 rfl 7).trans rfl; have k7 := HS.out.fz 0 rfl 7
  refine skip_ (w1 := ?_) (by rfl) rfl ?_ ?_
  rotate_left
  · go_simp
    rfl
  have n0_ : Aside0 (Sv w [(g11, #[.int .i64 0, .int .i64 0, .int .i64 0, .int .i64 0, .int .i64 0, .string (⟨#[]⟩ : ByteArray), .string (⟨#[]⟩ : ByteArray), .bool false], 36), (g2, #[.int .i64 1, .int .i64 1, .int .i64 8, .int .i64 0, .int .i64 0, .string (⟨#[]⟩ : ByteArray), .string (⟨#[]⟩ : ByteArray), .bool false], 36), (gc, #[.string (⟨#[73, 72, 68, 82]⟩ : ByteArray), .string awH], 30)] (World.setCell (World.setCell (World.setCell (World.setCell (World.setCell (World.setCell (World.setCell (World.setCell wj ⟨g11, 0, none⟩ (.int .i64 0)) ⟨g11, 1, none⟩ (.int .i64 0)) ⟨g11, 2, none⟩ (.int .i64 0)) ⟨g11, 3, none⟩ (.int .i64 0)) ⟨g11, 4, none⟩ (.int .i64 0)) ⟨g11, 5, none⟩ (.string (⟨#[]⟩ : ByteArray))) ⟨g11, 6, none⟩ (.string (⟨#[]⟩ : ByteArray))) ⟨g11, 7, none⟩ (.bool false))) := ⟨(Sv.set (Sv.set (Sv.set (Sv.set (Sv.set (Sv.set (Sv.set (Sv.set HS.out 0 rfl 0 (.int .i64 0)) 0 rfl 1 (.int .i64 0)) 0 rfl 2 (.int .i64 0)) 0 rfl 3 (.int .i64 0)) 0 rfl 4 (.int .i64 0)) 0 rfl 5 (.string (⟨#[]⟩ : ByteArray))) 0 rfl 6 (.string (⟨#[]⟩ : ByteArray))) 0 rfl 7 (.bool false))⟩
  clear HS y0 k0 y1 k1 y2 k2 y3 k3 y4 k4 y5 k5 y6 k6 y7 k7
  have HS := n0_
  clear n0_
  generalize (World.setCell (World.setCell (World.setCell (World.setCell (World.setCell (World.setCell (World.setCell (World.setCell wj ⟨g11, 0, none⟩ (.int .i64 0)) ⟨g11, 1, none⟩ (.int .i64 0)) ⟨g11, 2, none⟩ (.int .i64 0)) ⟨g11, 3, none⟩ (.int .i64 0)) ⟨g11, 4, none⟩ (.int .i64 0)) ⟨g11, 5, none⟩ (.string (⟨#[]⟩ : ByteArray))) ⟨g11, 6, none⟩ (.string (⟨#[]⟩ : ByteArray))) ⟨g11, 7, none⟩ (.bool false)) = w109 at HS ⊢
  refine hK.out _ _ ⟨(HS.out.cell 2 rfl 0).trans rfl, (HS.out.cell 2 rfl 1).trans rfl⟩ (fun hHeld => ?_)
  clear hK K
  refine pure_ (i := 12) (N := some 12) (v := ?_) (a' := ?_) #[true, true, true, true, true, true, true, true, true, true, true, true, true, false] rfl rfl (any_of HT_.out (by kernel_rfl)) (fun _ _ _ h => h) (Or.inl ⟨by rfl, ?_⟩) ?_ ?_
  rotate_left
  · intro w'
    go_simp
    with_reducible rfl
  rotate_left
  · simp only [Act.put, List.setIfInBounds_toArray, List.set_cons_zero, List.set_cons_succ, i64_w, i32_w]
    rfl
  refine pure_ (i := 13) (N := some 13) (v := ?_) (a' := ?_) #[true, true, true, true, true, true, true, true, true, true, true, true, true, true] rfl rfl (any_of HT_.out (by kernel_rfl)) (fun _ _ _ h => h) (Or.inl ⟨by rfl, ?_⟩) ?_ ?_
  rotate_left
  · intro w'
    go_simp
    with_reducible rfl
  rotate_left
  · simp only [Act.put, List.setIfInBounds_toArray, List.set_cons_zero, List.set_cons_succ, i64_w, i32_w]
    rfl
  refine done_ (done_of HT_.out (by kernel_rfl)) ?_
  clear HT_ HW_ hHeld
  try go_wp2
  have n0_ := Aside0.mk HS.out.tail
  clear HS
  have HS := n0_
  clear n0_
  have n0_ := Aside0.mk HS.out.drew
  clear HS
  have HS := n0_
  clear n0_
  refine start_ (n := 35) (S := fun w' => w'.cell? ⟨g2, 0, none⟩ = some (.int .i64 1) ∧ w'.cell? ⟨g2, 1, none⟩ = some (.int .i64 1) ∧ w'.cell? ⟨g2, 2, none⟩ = some (.int .i64 8) ∧ w'.cell? ⟨g2, 3, none⟩ = some (.int .i64 0) ∧ w'.cell? ⟨g2, 4, none⟩ = some (.int .i64 0) ∧ w'.cell? ⟨g2, 5, none⟩ = some (.string (⟨#[]⟩ : ByteArray)) ∧ w'.cell? ⟨g2, 6, none⟩ = some (.string (⟨#[]⟩ : ByteArray)) ∧ w'.cell? ⟨g2, 7, none⟩ = some (.bool false)) (ds := []) #[false, false, false, false, false, false, false, false, false, false, false, false, false, false, false, false, false, false, false, false, false, false, false, false, false, false, false, false, false, false, false, false, false, false, false] (by kernel_rfl) rfl rfl ⟨(HS.out.cell 0 rfl 0).trans rfl, (HS.out.cell 0 rfl 1).trans rfl, (HS.out.cell 0 rfl 2).trans rfl, (HS.out.cell 0 rfl 3).trans rfl, (HS.out.cell 0 rfl 4).trans rfl, (HS.out.cell 0 rfl 5).trans rfl, (HS.out.cell 0 rfl 6).trans rfl, (HS.out.cell 0 rfl 7).trans rfl⟩ (fun hHeld => ?_)
  refine with_tabW vitrinelaw08_awake.tab6 vitrinelaw08_awake.bits6 (fun HT_ HW_ => ?_)
  generalize World.drew _ = wz at HS hHeld ⊢
  refine pure_ (i := 0) (N := some 55) (v := ?_) (a' := ?_) #[true, false, false, false, false, false, false, false, false, false, false, false, false, false, false, false, false, false, false, false, false, false, false, false, false, false, false, false, false, false, false, false, false, false, false] rfl rfl (any_of HT_.out (by kernel_rfl)) (fun _ _ _ h => h) (Or.inl ⟨by rfl, ?_⟩) ?_ ?_
  rotate_left
  · intro w'
    go_simp
    with_reducible rfl
  rotate_left
  · simp only [Act.put, List.setIfInBounds_toArray, List.set_cons_zero, List.set_cons_succ, i64_w, i32_w]
    rfl
  refine pure_ (i := 1) (N := some 56) (v := ?_) (a' := ?_) #[true, true, false, false, false, false, false, false, false, false, false, false, false, false, false, false, false, false, false, false, false, false, false, false, false, false, false, false, false, false, false, false, false, false, false] rfl rfl (any_of HT_.out (by kernel_rfl)) (fun _ _ _ h => h) (Or.inl ⟨by rfl, ?_⟩) ?_ ?_
  rotate_left
  · intro w'
    go_simp
    with_reducible rfl
  rotate_left
  · simp only [Act.put, List.setIfInBounds_toArray, List.set_cons_zero, List.set_cons_succ, i64_w, i32_w]
    rfl
  refine pure_ (i := 2) (N := some 57) (v := ?_) (a' := ?_) #[true, true, true, false, false, false, false, false, false, false, false, false, false, false, false, false, false, false, false, false, false, false, false, false, false, false, false, false, false, false, false, false, false, false, false] rfl rfl (any_of HT_.out (by kernel_rfl)) (fun _ _ _ h => h) (Or.inl ⟨by rfl, ?_⟩) ?_ ?_
  rotate_left
  · intro w'
    go_simp
    with_reducible rfl
  rotate_left
  · simp only [Act.put, List.setIfInBounds_toArray, List.set_cons_zero, List.set_cons_succ, i64_w, i32_w]
    rfl
  refine take_ (i := 3) (N := some 58) (v := ?_) (a' := ?_) #[true, true, true, true, false, false, false, false, false, false, false, false, false, false, false, false, false, false, false, false, false, false, false, false, false, false, false, false, false, false, false, false, false, false, false] rfl rfl (take_ofW HT_.out HW_.out (by kernel_rfl)) (fun _ _ _ h => h) (Or.inl ⟨by rfl, ?_⟩) hHeld ?_ ?_
  rotate_left
  · rintro w' ⟨s0, s1, s2, s3, s4, s5, s6, s7⟩
    go_simp
    with_reducible rfl
  rotate_left
  · simp only [Act.put, List.setIfInBounds_toArray, List.set_cons_zero, List.set_cons_succ, i64_w, i32_w]
    rfl
  refine one_ (i := 4) (N := some 59) #[true, true, true, true, true, false, false, false, false, false, false, false, false, false, false, false, false, false, false, false, false, false, false, false, false, false, false, false, false, false, false, false, false, false, false] rfl rfl (one_of HT_.out (by kernel_rfl)) (by decide) (fun K hK => ?_)
  refine goes_ Try.func25 (by kernel_rfl) rfl #[] (by rfl) rfl rfl (by (try simp only [List.map_toArray, List.map_cons, List.map_nil]); first | done | rfl) ?_
  with_reducible refine (vitrinelaw08_grey.calls _ _ _ _ _ _ rfl).mono ?_
  rintro e w110 ⟨rfl, hb⟩
  refine ⟨_, rfl, ?_⟩
  have n0_ := Aside0.mk (HS.out.step hb)
  clear HS hb
  have HS := n0_
  clear n0_
  refine hK.out _ _ ⟨(HS.out.cell 0 rfl 0).trans rfl, (HS.out.cell 0 rfl 1).trans rfl, (HS.out.cell 0 rfl 2).trans rfl, (HS.out.cell 0 rfl 3).trans rfl, (HS.out.cell 0 rfl 4).trans rfl, (HS.out.cell 0 rfl 5).trans rfl, (HS.out.cell 0 rfl 6).trans rfl, (HS.out.cell 0 rfl 7).trans rfl⟩ (fun hHeld => ?_)
  clear hK K
  refine norm_ (a' := ?_) ?_ ?_
  rotate_left
  · show Act.put _ (some 59) _ = _
    simp only [Act.put, List.setIfInBounds_toArray, List.set_cons_zero, List.set_cons_succ, i64_w, i32_w]
    rfl
  refine pure_ (i := 5) (N := some 60) (v := ?_) (a' := ?_) #[true, true, true, true, true, true, false, false, false, false, false, false, false, false, false, false, false, false, false, false, false, false, false, false, false, false, false, false, false, false, false, false, false, false, false] rfl rfl (any_of HT_.out (by kernel_rfl)) (fun _ _ _ h => h) (Or.inl ⟨by rfl, ?_⟩) ?_ ?_
  rotate_left
  · intro w'
    go_simp
    with_reducible rfl
  rotate_left
  · simp only [Act.put, List.setIfInBounds_toArray, List.set_cons_zero, List.set_cons_succ, i64_w, i32_w]
    rfl
  refine pure_ (i := 6) (N := some 61) (v := ?_) (a' := ?_) #[true, true, true, true, true, true, true, false, false, false, false, false, false, false, false, false, false, false, false, false, false, false, false, false, false, false, false, false, false, false, false, false, false, false, false] rfl rfl (any_of HT_.out (by kernel_rfl)) (fun _ _ _ h => h) (Or.inl ⟨by rfl, ?_⟩) ?_ ?_
  rotate_left
  · intro w'
    go_simp
    with_reducible rfl
  rotate_left
  · simp only [Act.put, List.setIfInBounds_toArray, List.set_cons_zero, List.set_cons_succ, i64_w, i32_w]
    rfl
  refine pure_ (i := 7) (N := some 62) (v := ?_) (a' := ?_) #[true, true, true, true, true, true, true, true, false, false, false, false, false, false, false, false, false, false, false, false, false, false, false, false, false, false, false, false, false, false, false, false, false, false, false] rfl rfl (any_of HT_.out (by kernel_rfl)) (fun _ _ _ h => h) (Or.inl ⟨by rfl, ?_⟩) ?_ ?_
  rotate_left
  · intro w'
    go_simp
    with_reducible rfl
  rotate_left
  · simp only [Act.put, List.setIfInBounds_toArray, List.set_cons_zero, List.set_cons_succ, i64_w, i32_w]
    rfl
  refine pure_ (i := 8) (N := some 63) (v := ?_) (a' := ?_) #[true, true, true, true, true, true, true, true, true, false, false, false, false, false, false, false, false, false, false, false, false, false, false, false, false, false, false, false, false, false, false, false, false, false, false] rfl rfl (any_of HT_.out (by kernel_rfl)) (fun _ _ _ h => h) (Or.inl ⟨by rfl, ?_⟩) ?_ ?_
  rotate_left
  · intro w'
    go_simp
    with_reducible rfl
  rotate_left
  · simp only [Act.put, List.setIfInBounds_toArray, List.set_cons_zero, List.set_cons_succ, i64_w, i32_w]
    rfl
  refine pure_ (i := 9) (N := some 64) (v := ?_) (a' := ?_) #[true, true, true, true, true, true, true, true, true, true, false, false, false, false, false, false, false, false, false, false, false, false, false, false, false, false, false, false, false, false, false, false, false, false, false] rfl rfl (any_of HT_.out (by kernel_rfl)) (fun _ _ _ h => h) (Or.inl ⟨by rfl, ?_⟩) ?_ ?_
  rotate_left
  · intro w'
    go_simp
    with_reducible rfl
  rotate_left
  · simp only [Act.put, List.setIfInBounds_toArray, List.set_cons_zero, List.set_cons_succ, i64_w, i32_w]
    rfl
  refine pure_ (i := 10) (N := some 65) (v := ?_) (a' := ?_) #[true, true, true, true, true, true, true, true, true, true, true, false, false, false, false, false, false, false, false, false, false, false, false, false, false, false, false, false, false, false, false, false, false, false, false] rfl rfl (any_of HT_.out (by kernel_rfl)) (fun _ _ _ h => h) (Or.inl ⟨by rfl, ?_⟩) ?_ ?_
  rotate_left
  · intro w'
    go_simp
    with_reducible rfl
  rotate_left
  · simp only [Act.put, List.setIfInBounds_toArray, List.set_cons_zero, List.set_cons_succ, i64_w, i32_w]
    rfl
  refine pure_ (i := 11) (N := some 66) (v := ?_) (a' := ?_) #[true, true, true, true, true, true, true, true, true, true, true, true, false, false, false, false, false, false, false, false, false, false, false, false, false, false, false, false, false, false, false, false, false, false, false] rfl rfl (any_of HT_.out (by kernel_rfl)) (fun _ _ _ h => h) (Or.inl ⟨by rfl, ?_⟩) ?_ ?_
  rotate_left
  · intro w'
    go_simp
    with_reducible rfl
  rotate_left
  · simp only [Act.put, List.setIfInBounds_toArray, List.set_cons_zero, List.set_cons_succ, i64_w, i32_w]
    rfl
  refine pure_ (i := 12) (N := some 67) (v := ?_) (a' := ?_) #[true, true, true, true, true, true, true, true, true, true, true, true, true, false, false, false, false, false, false, false, false, false, false, false, false, false, false, false, false, false, false, false, false, false, false] rfl rfl (any_of HT_.out (by kernel_rfl)) (fun _ _ _ h => h) (Or.inl ⟨by rfl, ?_⟩) ?_ ?_
  rotate_left
  · intro w'
    go_simp
    with_reducible rfl
  rotate_left
  · simp only [Act.put, List.setIfInBounds_toArray, List.set_cons_zero, List.set_cons_succ, i64_w, i32_w]
    rfl
  refine pure_ (i := 13) (N := some 68) (v := ?_) (a' := ?_) #[true, true, true, true, true, true, true, true, true, true, true, true, true, true, false, false, false, false, false, false, false, false, false, false, false, false, false, false, false, false, false, false, false, false, false] rfl rfl (any_of HT_.out (by kernel_rfl)) (fun _ _ _ h => h) (Or.inl ⟨by rfl, ?_⟩) ?_ ?_
  rotate_left
  · intro w'
    go_simp
    with_reducible rfl
  rotate_left
  · simp only [Act.put, List.setIfInBounds_toArray, List.set_cons_zero, List.set_cons_succ, i64_w, i32_w]
    rfl
  refine pure_ (i := 14) (N := some 69) (v := ?_) (a' := ?_) #[true, true, true, true, true, true, true, true, true, true, true, true, true, true, true, false, false, false, false, false, false, false, false, false, false, false, false, false, false, false, false, false, false, false, false] rfl rfl (any_of HT_.out (by kernel_rfl)) (fun _ _ _ h => h) (Or.inl ⟨by rfl, ?_⟩) ?_ ?_
  rotate_left
  · intro w'
    go_simp
    with_reducible rfl
  rotate_left
  · simp only [Act.put, List.setIfInBounds_toArray, List.set_cons_zero, List.set_cons_succ, i64_w, i32_w]
    rfl
  refine pure_ (i := 15) (N := some 70) (v := ?_) (a' := ?_) #[true, true, true, true, true, true, true, true, true, true, true, true, true, true, true, true, false, false, false, false, false, false, false, false, false, false, false, false, false, false, false, false, false, false, false] rfl rfl (any_of HT_.out (by kernel_rfl)) (fun _ _ _ h => h) (Or.inl ⟨by rfl, ?_⟩) ?_ ?_
  rotate_left
  · intro w'
    go_simp
    with_reducible rfl
  rotate_left
  · simp only [Act.put, List.setIfInBounds_toArray, List.set_cons_zero, List.set_cons_succ, i64_w, i32_w]
    rfl
  refine pure_ (i := 16) (N := some 71) (v := ?_) (a' := ?_) #[true, true, true, true, true, true, true, true, true, true, true, true, true, true, true, true, true, false, false, false, false, false, false, false, false, false, false, false, false, false, false, false, false, false, false] rfl rfl (any_of HT_.out (by kernel_rfl)) (fun _ _ _ h => h) (Or.inl ⟨by rfl, ?_⟩) ?_ ?_
  rotate_left
  · intro w'
    go_simp
    with_reducible rfl
  rotate_left
  · simp only [Act.put, List.setIfInBounds_toArray, List.set_cons_zero, List.set_cons_succ, i64_w, i32_w]
    rfl
  refine pure_ (i := 17) (N := some 72) (v := ?_) (a' := ?_) #[true, true, true, true, true, true, true, true, true, true, true, true, true, true, true, true, true, true, false, false, false, false, false, false, false, false, false, false, false, false, false, false, false, false, false] rfl rfl (any_of HT_.out (by kernel_rfl)) (fun _ _ _ h => h) (Or.inl ⟨by rfl, ?_⟩) ?_ ?_
  rotate_left
  · intro w'
    go_simp
    with_reducible rfl
  rotate_left
  · simp only [Act.put, List.setIfInBounds_toArray, List.set_cons_zero, List.set_cons_succ, i64_w, i32_w]
    rfl
  refine pure_ (i := 18) (N := some 73) (v := ?_) (a' := ?_) #[true, true, true, true, true, true, true, true, true, true, true, true, true, true, true, true, true, true, true, false, false, false, false, false, false, false, false, false, false, false, false, false, false, false, false] rfl rfl (any_of HT_.out (by kernel_rfl)) (fun _ _ _ h => h) (Or.inl ⟨by rfl, ?_⟩) ?_ ?_
  rotate_left
  · intro w'
    go_simp
    with_reducible rfl
  rotate_left
  · simp only [Act.put, List.setIfInBounds_toArray, List.set_cons_zero, List.set_cons_succ, i64_w, i32_w]
    rfl
  refine pure_ (i := 19) (N := some 74) (v := ?_) (a' := ?_) #[true, true, true, true, true, true, true, true, true, true, true, true, true, true, true, true, true, true, true, true, false, false, false, false, false, false, false, false, false, false, false, false, false, false, false] rfl rfl (any_of HT_.out (by kernel_rfl)) (fun _ _ _ h => h) (Or.inl ⟨by rfl, ?_⟩) ?_ ?_
  rotate_left
  · intro w'
    go_simp
    with_reducible rfl
  rotate_left
  · simp only [Act.put, List.setIfInBounds_toArray, List.set_cons_zero, List.set_cons_succ, i64_w, i32_w]
    rfl
  refine pure_ (i := 20) (N := some 75) (v := ?_) (a' := ?_) #[true, true, true, true, true, true, true, true, true, true, true, true, true, true, true, true, true, true, true, true, true, false, false, false, false, false, false, false, false, false, false, false, false, false, false] rfl rfl (any_of HT_.out (by kernel_rfl)) (fun _ _ _ h => h) (Or.inl ⟨by rfl, ?_⟩) ?_ ?_
  rotate_left
  · intro w'
    go_simp
    with_reducible rfl
  rotate_left
  · simp only [Act.put, List.setIfInBounds_toArray, List.set_cons_zero, List.set_cons_succ, i64_w, i32_w]
    rfl
  refine pure_ (i := 21) (N := some 76) (v := ?_) (a' := ?_) #[true, true, true, true, true, true, true, true, true, true, true, true, true, true, true, true, true, true, true, true, true, true, false, false, false, false, false, false, false, false, false, false, false, false, false] rfl rfl (any_of HT_.out (by kernel_rfl)) (fun _ _ _ h => h) (Or.inl ⟨by rfl, ?_⟩) ?_ ?_
  rotate_left
  · intro w'
    go_simp
    with_reducible rfl
  rotate_left
  · simp only [Act.put, List.setIfInBounds_toArray, List.set_cons_zero, List.set_cons_succ, i64_w, i32_w]
    rfl
  refine pure_ (i := 22) (N := some 77) (v := ?_) (a' := ?_) #[true, true, true, true, true, true, true, true, true, true, true, true, true, true, true, true, true, true, true, true, true, true, true, false, false, false, false, false, false, false, false, false, false, false, false] rfl rfl (any_of HT_.out (by kernel_rfl)) (fun _ _ _ h => h) (Or.inl ⟨by rfl, ?_⟩) ?_ ?_
  rotate_left
  · intro w'
    go_simp
    with_reducible rfl
  rotate_left
  · simp only [Act.put, List.setIfInBounds_toArray, List.set_cons_zero, List.set_cons_succ, i64_w, i32_w]
    rfl
  refine pure_ (i := 23) (N := some 78) (v := ?_) (a' := ?_) #[true, true, true, true, true, true, true, true, true, true, true, true, true, true, true, true, true, true, true, true, true, true, true, true, false, false, false, false, false, false, false, false, false, false, false] rfl rfl (any_of HT_.out (by kernel_rfl)) (fun _ _ _ h => h) (Or.inl ⟨by rfl, ?_⟩) ?_ ?_
  rotate_left
  · intro w'
    go_simp
    with_reducible rfl
  rotate_left
  · simp only [Act.put, List.setIfInBounds_toArray, List.set_cons_zero, List.set_cons_succ, i64_w, i32_w]
    rfl
  refine pure_ (i := 24) (N := some 79) (v := ?_) (a' := ?_) #[true, true, true, true, true, true, true, true, true, true, true, true, true, true, true, true, true, true, true, true, true, true, true, true, true, false, false, false, false, false, false, false, false, false, false] rfl rfl (any_of HT_.out (by kernel_rfl)) (fun _ _ _ h => h) (Or.inl ⟨by rfl, ?_⟩) ?_ ?_
  rotate_left
  · intro w'
    go_simp
    with_reducible rfl
  rotate_left
  · simp only [Act.put, List.setIfInBounds_toArray, List.set_cons_zero, List.set_cons_succ, i64_w, i32_w]
    rfl
  refine pure_ (i := 25) (N := some 80) (v := ?_) (a' := ?_) #[true, true, true, true, true, true, true, true, true, true, true, true, true, true, true, true, true, true, true, true, true, true, true, true, true, true, false, false, false, false, false, false, false, false, false] rfl rfl (any_of HT_.out (by kernel_rfl)) (fun _ _ _ h => h) (Or.inl ⟨by rfl, ?_⟩) ?_ ?_
  rotate_left
  · intro w'
    go_simp
    with_reducible rfl
  rotate_left
  · simp only [Act.put, List.setIfInBounds_toArray, List.set_cons_zero, List.set_cons_succ, i64_w, i32_w]
    rfl
  refine one_ (i := 26) (N := some 81) #[true, true, true, true, true, true, true, true, true, true, true, true, true, true, true, true, true, true, true, true, true, true, true, true, true, true, true, false, false, false, false, false, false, false, false] rfl rfl (one_of HT_.out (by kernel_rfl)) (by decide) (fun K hK => ?_)
  refine goes_ Try.func9 (by kernel_rfl) rfl #[.agg #[.int .i64 1, .int .i64 1, .int .i64 8, .int .i64 1, .int .i64 0]] (by rfl) rfl rfl (by (try simp only [List.map_toArray, List.map_cons, List.map_nil]); first | done | rfl) ?_
  with_reducible refine (head_Right.calls 20 1 1 8 1 0 _ _ aw_a).mono ?_
  rintro e w111 ⟨rfl, hb⟩
  refine ⟨_, rfl, ?_⟩
  have n0_ := Aside0.mk (HS.out.step hb)
  clear HS hb
  have HS := n0_
  clear n0_
  refine hK.out _ _ ⟨(HS.out.cell 0 rfl 0).trans rfl, (HS.out.cell 0 rfl 1).trans rfl, (HS.out.cell 0 rfl 2).trans rfl, (HS.out.cell 0 rfl 3).trans rfl, (HS.out.cell 0 rfl 4).trans rfl, (HS.out.cell 0 rfl 5).trans rfl, (HS.out.cell 0 rfl 6).trans rfl, (HS.out.cell 0 rfl 7).trans rfl⟩ (fun hHeld => ?_)
  clear hK K
  refine norm_ (a' := ?_) ?_ ?_
  rotate_left
  · show Act.put _ (some 81) _ = _
    simp only [Act.put, List.setIfInBounds_toArray, List.set_cons_zero, List.set_cons_succ, i64_w, i32_w]
    rfl
  refine pure_ (i := 27) (N := some 82) (v := ?_) (a' := ?_) #[true, true, true, true, true, true, true, true, true, true, true, true, true, true, true, true, true, true, true, true, true, true, true, true, true, true, true, true, false, false, false, false, false, false, false] rfl rfl (any_of HT_.out (by kernel_rfl)) (fun _ _ _ h => h) (Or.inl ⟨by rfl, ?_⟩) ?_ ?_
  rotate_left
  · intro w'
    go_simp
    with_reducible rfl
  rotate_left
  · simp only [Act.put, List.setIfInBounds_toArray, List.set_cons_zero, List.set_cons_succ, i64_w, i32_w]
    rfl
  refine pure_ (i := 28) (N := some 83) (v := ?_) (a' := ?_) #[true, true, true, true, true, true, true, true, true, true, true, true, true, true, true, true, true, true, true, true, true, true, true, true, true, true, true, true, true, false, false, false, false, false, false] rfl rfl (any_of HT_.out (by kernel_rfl)) (fun _ _ _ h => h) (Or.inl ⟨by rfl, ?_⟩) ?_ ?_
  rotate_left
  · intro w'
    go_simp
    with_reducible rfl
  rotate_left
  · simp only [Act.put, List.setIfInBounds_toArray, List.set_cons_zero, List.set_cons_succ, i64_w, i32_w]
    rfl
  refine pure_ (i := 29) (N := some 84) (v := ?_) (a' := ?_) #[true, true, true, true, true, true, true, true, true, true, true, true, true, true, true, true, true, true, true, true, true, true, true, true, true, true, true, true, true, true, false, false, false, false, false] rfl rfl (any_of HT_.out (by kernel_rfl)) (fun _ _ _ h => h) (Or.inl ⟨by rfl, ?_⟩) ?_ ?_
  rotate_left
  · intro w'
    go_simp
    with_reducible rfl
  rotate_left
  · simp only [Act.put, List.setIfInBounds_toArray, List.set_cons_zero, List.set_cons_succ, i64_w, i32_w]
    rfl
  refine pure_ (i := 30) (N := some 85) (v := ?_) (a' := ?_) #[true, true, true, true, true, true, true, true, true, true, true, true, true, true, true, true, true, true, true, true, true, true, true, true, true, true, true, true, true, true, true, false, false, false, false] rfl rfl (any_of HT_.out (by kernel_rfl)) (fun _ _ _ h => h) (Or.inl ⟨by rfl, ?_⟩) ?_ ?_
  rotate_left
  · intro w'
    go_simp
    with_reducible rfl
  rotate_left
  · simp only [Act.put, List.setIfInBounds_toArray, List.set_cons_zero, List.set_cons_succ, i64_w, i32_w]
    rfl
  refine one_ (i := 31) (N := some 86) #[true, true, true, true, true, true, true, true, true, true, true, true, true, true, true, true, true, true, true, true, true, true, true, true, true, true, true, true, true, true, true, true, false, false, false] rfl rfl (one_of HT_.out (by kernel_rfl)) (by decide) (fun K hK => ?_)
  refine goes_ Try.func9 (by kernel_rfl) rfl #[.agg #[.int .i64 1025, .int .i64 1, .int .i64 8, .int .i64 0, .int .i64 0]] (by rfl) rfl rfl (by (try simp only [List.map_toArray, List.map_cons, List.map_nil]); first | done | rfl) ?_
  with_reducible refine (head_Right.calls 20 1025 1 8 0 0 _ _ aw_b).mono ?_
  rintro e w112 ⟨rfl, hb⟩
  refine ⟨_, rfl, ?_⟩
  have n0_ := Aside0.mk (HS.out.step hb)
  clear HS hb
  have HS := n0_
  clear n0_
  refine hK.out _ _ ⟨(HS.out.cell 0 rfl 0).trans rfl, (HS.out.cell 0 rfl 1).trans rfl, (HS.out.cell 0 rfl 2).trans rfl, (HS.out.cell 0 rfl 3).trans rfl, (HS.out.cell 0 rfl 4).trans rfl, (HS.out.cell 0 rfl 5).trans rfl, (HS.out.cell 0 rfl 6).trans rfl, (HS.out.cell 0 rfl 7).trans rfl⟩ (fun hHeld => ?_)
  clear hK K
  refine norm_ (a' := ?_) ?_ ?_
  rotate_left
  · show Act.put _ (some 86) _ = _
    simp only [Act.put, List.setIfInBounds_toArray, List.set_cons_zero, List.set_cons_succ, i64_w, i32_w]
    rfl
  refine pure_ (i := 32) (N := some 87) (v := ?_) (a' := ?_) #[true, true, true, true, true, true, true, true, true, true, true, true, true, true, true, true, true, true, true, true, true, true, true, true, true, true, true, true, true, true, true, true, true, false, false] rfl rfl (any_of HT_.out (by kernel_rfl)) (fun _ _ _ h => h) (Or.inl ⟨by rfl, ?_⟩) ?_ ?_
  rotate_left
  · intro w'
    go_simp
    with_reducible rfl
  rotate_left
  · simp only [Act.put, List.setIfInBounds_toArray, List.set_cons_zero, List.set_cons_succ, i64_w, i32_w]
    rfl
  refine pure_ (i := 33) (N := some 88) (v := ?_) (a' := ?_) #[true, true, true, true, true, true, true, true, true, true, true, true, true, true, true, true, true, true, true, true, true, true, true, true, true, true, true, true, true, true, true, true, true, true, false] rfl rfl (any_of HT_.out (by kernel_rfl)) (fun _ _ _ h => h) (Or.inl ⟨by rfl, ?_⟩) ?_ ?_
  rotate_left
  · intro w'
    go_simp
    with_reducible rfl
  rotate_left
  · simp only [Act.put, List.setIfInBounds_toArray, List.set_cons_zero, List.set_cons_succ, i64_w, i32_w]
    rfl
  refine pure_ (i := 34) (N := some 0) (v := ?_) (a' := ?_) #[true, true, true, true, true, true, true, true, true, true, true, true, true, true, true, true, true, true, true, true, true, true, true, true, true, true, true, true, true, true, true, true, true, true, true] rfl rfl (any_of HT_.out (by kernel_rfl)) (fun _ _ _ h => h) (Or.inl ⟨by rfl, ?_⟩) ?_ ?_
  rotate_left
  · intro w'
    go_simp
    with_reducible rfl
  rotate_left
  · simp only [Act.put, List.setIfInBounds_toArray, List.set_cons_zero, List.set_cons_succ, i64_w, i32_w]
    rfl
  refine done_ (done_of HT_.out (by kernel_rfl)) ?_
  try go_wp2
  go_ret
  exact ⟨by first | rfl | (simp; done), HS.out.below⟩

end Go.Proofs.Ytbpnkgidlmjkkaa.PL08
