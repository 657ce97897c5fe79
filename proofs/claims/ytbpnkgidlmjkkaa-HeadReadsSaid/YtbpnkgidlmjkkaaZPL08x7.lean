/- Printed for this claim by a program of this session over the kit's print program: the Go functions as Lean functions, and proofs that the calls come to these answers. No conditions. -/
import Derived.Test.YtbpnkgidlmjkkaaZV
import Derived.LoopTactic
import Derived.StillTailTactics
import Derived.Lib.ConvBytes
import Derived.Test.YtbpnkgidlmjkkaaZPL08x0
import Derived.Test.YtbpnkgidlmjkkaaZPL08x6
namespace Go.Proofs.Ytbpnkgidlmjkkaa.PL08
open Go.RowKit Go.Proofs.YtbpnkgidlmjkkaaW.PrintWords Go.Proofs.YtbpnkgidlmjkkaaW.PrintLast Go.Proofs.YtbpnkgidlmjkkaaW.PrintMore
attribute [local go_sem] max2_int min2_int max_two min_two max_three min_three max_four min_four   -- for this text's walks alone
set_option linter.unusedVariables false
set_option linter.unusedSimpArgs false

/-! ### head_Lay: function 14 -/
open Go.Proofs.YtbpnkgidlmjkkaaV
def head_Lay.f (k : Nat) (a0_0 : Int) (a0_1 : Int) (a0_2 : Int) (a0_3 : Int) (a0_4 : Int) : Option (ByteArray × ByteArray) := (head_big.f a0_0).bind fun t137 => ((head_big.f a0_1).bind fun t140 => ((slices_Concat_byte_byte.f k (([t137, t140, (([(a0_2) % 256, (a0_3) % 256, 0, 0, (a0_4) % 256] : List Int))] : List (List Int)))).bind fun t149 => (some ((⟨#[73, 72, 68, 82]⟩ : ByteArray), strOfNums t149))))
theorem head_Lay.mono : ∀ a0 a1 a2 a3 a4 k, LeO (head_Lay.f k a0 a1 a2 a3 a4) (head_Lay.f (k + 1) a0 a1 a2 a3 a4) := by
  intro a0 a1 a2 a3 a4 k
  unfold head_Lay.f
  repeat' first
      | (with_reducible exact slices_Concat_byte_byte.mono _ _)
      | (with_reducible exact LeO.refl _)
      | (with_reducible refine LeO.bind ?_ (fun _ => ?_))
      | exact slices_Concat_byte_byte.mono _ _
      | refine LeO.bind ?_ (fun _ => ?_)
def head_Lay.T1 : Bool × List (List Nat × List Nat) := (true, [([], []), ([0], [0]), ([1], [1]), ([], []), ([3], [3]), ([4, 2], [4]), ([], []), ([6], [6]), ([7], [7]), ([], []), ([9], [9]), ([10], [10]), ([], []), ([12], [12]), ([13], [13]), ([8, 11, 14], [8, 11, 14]), ([2, 5, 15], [2, 5, 15]), ([16, 5], [16]), ([17, 17, 0, 1, 2, 3, 4, 5, 6, 7, 8, 9, 10, 11, 12, 13, 14, 15, 16, 17], [17])])
def head_Lay.B1 : List Nat := [0, 1, 3, 0, 8, 31, 0, 64, 192, 0, 512, 1536, 0, 4096, 12288, 32704, 65535, 131071, 262143]
theorem head_Lay.tab1 : rtab .any (opsOf Try.f14 1) = head_Lay.T1 := by kernel_rfl
theorem head_Lay.bits1 : waitsOk head_Lay.T1.2 head_Lay.B1 = true := by kernel_rfl
set_option maxHeartbeats 40000000 in
set_option maxRecDepth 100000 in
theorem head_Lay.calls (k : Nat) (a0_0 : Int) (a0_1 : Int) (a0_2 : Int) (a0_3 : Int) (a0_4 : Int) (r1 : ByteArray) (r2 : ByteArray) (w : World) (h : head_Lay.f k a0_0 a0_1 a0_2 a0_3 a0_4 = some (r1, r2)) :
    Calls Try.prog 14 #[.agg #[.int .i64 a0_0, .int .i64 a0_1, .int .i64 a0_2, .int .i64 a0_3, .int .i64 a0_4]] w fun e w' => e = .returned (.agg #[.string r1, .string r2]) ∧ Below w.heap.size w w' := by
  unfold head_Lay.f at h
  obtain ⟨t1, h1, h⟩ := Option.bind_eq_some_iff.1 h
  obtain ⟨t2, h2, h⟩ := Option.bind_eq_some_iff.1 h
  obtain ⟨t3, h3, h⟩ := Option.bind_eq_some_iff.1 h
  simp only [Option.some.injEq, Prod.mk.injEq] at h
  obtain ⟨rfl, rfl⟩ := h
  have A1 := Aside0.mk h1
  have A2 := Aside0.mk h2
  have A3 := Aside0.mk h3
  clear h1 h2 h3
  have HS := Aside0.mk (Sv.new w)
  go_enter Try.func14, Try.ntmps14
  go_wp2_with (first | ((with_reducible refine gate_dst (N := 1) rfl ?_); refine box_event ?hg (N := 1) ?hd (cs := #[.int .i64 a0_0, .int .i64 a0_1, .int .i64 a0_2, .int .i64 a0_3, .int .i64 a0_4]) (t := 23) ?hr ?_; (case hd => rfl); (case hg => rfl); (case hr => first | (go_simp; done) | (go_simp; rfl)); intro g1 hg w1 hbox hb; have n0_ := Aside0.mk (HS.out.box hb hg hbox); clear HS hb hg hbox; have HS := n0_; clear n0_) | ((with_reducible refine gate_dst (N := 2) rfl ?_); refine box_event ?hg (N := 2) ?hd (cs := #[.string (⟨#[]⟩ : ByteArray), .string (⟨#[]⟩ : ByteArray)]) (t := 30) ?hr ?_; (case hd => rfl); (case hg => rfl); (case hr => first | (go_simp; done) | (go_simp; rfl)); intro g2 hg w2 hbox hb; have n0_ := Aside0.mk (HS.out.box hb hg hbox); clear HS hb hg hbox; have HS := n0_; clear n0_))
  have n0_ := Aside0.mk HS.out.drew
  clear HS
  have HS := n0_
  clear n0_
  refine start_ (n := 19) (S := fun w' => w'.cell? ⟨g1, 0, none⟩ = some (.int .i64 a0_0) ∧ w'.cell? ⟨g1, 1, none⟩ = some (.int .i64 a0_1) ∧ w'.cell? ⟨g1, 2, none⟩ = some (.int .i64 a0_2) ∧ w'.cell? ⟨g1, 3, none⟩ = some (.int .i64 a0_3) ∧ w'.cell? ⟨g1, 4, none⟩ = some (.int .i64 a0_4)) (ds := []) #[false, false, false, false, false, false, false, false, false, false, false, false, false, false, false, false, false, false, false] (by kernel_rfl) rfl rfl ⟨(HS.out.cell 1 rfl 0).trans rfl, (HS.out.cell 1 rfl 1).trans rfl, (HS.out.cell 1 rfl 2).trans rfl, (HS.out.cell 1 rfl 3).trans rfl, (HS.out.cell 1 rfl 4).trans rfl⟩ (fun hHeld => ?_)
  refine with_tabW head_Lay.tab1 head_Lay.bits1 (fun HT_ HW_ => ?_)
  generalize World.drew _ = w3 at HS hHeld ⊢
  refine pure_ (i := 0) (N := some 4) (v := ?_) (a' := ?_) #[true, false, false, false, false, false, false, false, false, false, false, false, false, false, false, false, false, false, false] rfl rfl (any_of HT_.out (by kernel_rfl)) (fun _ _ _ h => h) (Or.inl ⟨by rfl, ?_⟩) ?_ ?_
  rotate_left
  · intro w'
    go_simp
    with_reducible rfl
  rotate_left
  · simp only [Act.put, List.setIfInBounds_toArray, List.set_cons_zero, List.set_cons_succ, i64_w, i32_w]
    rfl
  refine pure_ (i := 3) (N := some 7) (v := ?_) (a' := ?_) #[true, false, false, true, false, false, false, false, false, false, false, false, false, false, false, false, false, false, false] rfl rfl (any_of HT_.out (by kernel_rfl)) (fun _ _ _ h => h) (Or.inl ⟨by rfl, ?_⟩) ?_ ?_
  rotate_left
  · intro w'
    go_simp
    with_reducible rfl
  rotate_left
  · simp only [Act.put, List.setIfInBounds_toArray, List.set_cons_zero, List.set_cons_succ, i64_w, i32_w]
    rfl
  refine pure_ (i := 6) (N := some 10) (v := ?_) (a' := ?_) #[true, false, false, true, false, false, true, false, false, false, false, false, false, false, false, false, false, false, false] rfl rfl (any_of HT_.out (by kernel_rfl)) (fun _ _ _ h => h) (Or.inl ⟨by rfl, ?_⟩) ?_ ?_
  rotate_left
  · intro w'
    go_simp
    with_reducible rfl
  rotate_left
  · simp only [Act.put, List.setIfInBounds_toArray, List.set_cons_zero, List.set_cons_succ, i64_w, i32_w]
    rfl
  refine pure_ (i := 9) (N := some 13) (v := ?_) (a' := ?_) #[true, false, false, true, false, false, true, false, false, true, false, false, false, false, false, false, false, false, false] rfl rfl (any_of HT_.out (by kernel_rfl)) (fun _ _ _ h => h) (Or.inl ⟨by rfl, ?_⟩) ?_ ?_
  rotate_left
  · intro w'
    go_simp
    with_reducible rfl
  rotate_left
  · simp only [Act.put, List.setIfInBounds_toArray, List.set_cons_zero, List.set_cons_succ, i64_w, i32_w]
    rfl
  refine pure_ (i := 12) (N := some 16) (v := ?_) (a' := ?_) #[true, false, false, true, false, false, true, false, false, true, false, false, true, false, false, false, false, false, false] rfl rfl (any_of HT_.out (by kernel_rfl)) (fun _ _ _ h => h) (Or.inl ⟨by rfl, ?_⟩) ?_ ?_
  rotate_left
  · intro w'
    go_simp
    with_reducible rfl
  rotate_left
  · simp only [Act.put, List.setIfInBounds_toArray, List.set_cons_zero, List.set_cons_succ, i64_w, i32_w]
    rfl
  refine take_ (i := 1) (N := some 5) (v := ?_) (a' := ?_) #[true, true, false, true, false, false, true, false, false, true, false, false, true, false, false, false, false, false, false] rfl rfl (take_ofW HT_.out HW_.out (by kernel_rfl)) (fun _ _ _ h => h) (Or.inl ⟨by rfl, ?_⟩) hHeld ?_ ?_
  rotate_left
  · rintro w' ⟨s0, s1, s2, s3, s4⟩
    go_simp
    with_reducible rfl
  rotate_left
  · simp only [Act.put, List.setIfInBounds_toArray, List.set_cons_zero, List.set_cons_succ, i64_w, i32_w]
    rfl
  refine take_ (i := 4) (N := some 8) (v := ?_) (a' := ?_) #[true, true, false, true, true, false, true, false, false, true, false, false, true, false, false, false, false, false, false] rfl rfl (take_ofW HT_.out HW_.out (by kernel_rfl)) (fun _ _ _ h => h) (Or.inl ⟨by rfl, ?_⟩) hHeld ?_ ?_
  rotate_left
  · rintro w' ⟨s0, s1, s2, s3, s4⟩
    go_simp
    with_reducible rfl
  rotate_left
  · simp only [Act.put, List.setIfInBounds_toArray, List.set_cons_zero, List.set_cons_succ, i64_w, i32_w]
    rfl
  refine take_ (i := 7) (N := some 11) (v := ?_) (a' := ?_) #[true, true, false, true, true, false, true, true, false, true, false, false, true, false, false, false, false, false, false] rfl rfl (take_ofW HT_.out HW_.out (by kernel_rfl)) (fun _ _ _ h => h) (Or.inl ⟨by rfl, ?_⟩) hHeld ?_ ?_
  rotate_left
  · rintro w' ⟨s0, s1, s2, s3, s4⟩
    go_simp
    with_reducible rfl
  rotate_left
  · simp only [Act.put, List.setIfInBounds_toArray, List.set_cons_zero, List.set_cons_succ, i64_w, i32_w]
    rfl
  refine take_ (i := 10) (N := some 14) (v := ?_) (a' := ?_) #[true, true, false, true, true, false, true, true, false, true, true, false, true, false, false, false, false, false, false] rfl rfl (take_ofW HT_.out HW_.out (by kernel_rfl)) (fun _ _ _ h => h) (Or.inl ⟨by rfl, ?_⟩) hHeld ?_ ?_
  rotate_left
  · rintro w' ⟨s0, s1, s2, s3, s4⟩
    go_simp
    with_reducible rfl
  rotate_left
  · simp only [Act.put, List.setIfInBounds_toArray, List.set_cons_zero, List.set_cons_succ, i64_w, i32_w]
    rfl
  refine take_ (i := 13) (N := some 17) (v := ?_) (a' := ?_) #[true, true, false, true, true, false, true, true, false, true, true, false, true, true, false, false, false, false, false] rfl rfl (take_ofW HT_.out HW_.out (by kernel_rfl)) (fun _ _ _ h => h) (Or.inl ⟨by rfl, ?_⟩) hHeld ?_ ?_
  rotate_left
  · rintro w' ⟨s0, s1, s2, s3, s4⟩
    go_simp
    with_reducible rfl
  rotate_left
  · simp only [Act.put, List.setIfInBounds_toArray, List.set_cons_zero, List.set_cons_succ, i64_w, i32_w]
    rfl
  refine pure_ (i := 8) (N := some 12) (v := ?_) (a' := ?_) #[true, true, false, true, true, false, true, true, true, true, true, false, true, true, false, false, false, false, false] rfl rfl (any_of HT_.out (by kernel_rfl)) (fun _ _ _ h => h) (Or.inl ⟨by rfl, ?_⟩) ?_ ?_
  rotate_left
  · intro w'
    go_simp
    with_reducible rfl
  rotate_left
  · simp only [Act.put, List.setIfInBounds_toArray, List.set_cons_zero, List.set_cons_succ, i64_w, i32_w]
    rfl
  refine pure_ (i := 11) (N := some 15) (v := ?_) (a' := ?_) #[true, true, false, true, true, false, true, true, true, true, true, true, true, true, false, false, false, false, false] rfl rfl (any_of HT_.out (by kernel_rfl)) (fun _ _ _ h => h) (Or.inl ⟨by rfl, ?_⟩) ?_ ?_
  rotate_left
  · intro w'
    go_simp
    with_reducible rfl
  rotate_left
  · simp only [Act.put, List.setIfInBounds_toArray, List.set_cons_zero, List.set_cons_succ, i64_w, i32_w]
    rfl
  refine pure_ (i := 14) (N := some 18) (v := ?_) (a' := ?_) #[true, true, false, true, true, false, true, true, true, true, true, true, true, true, true, false, false, false, false] rfl rfl (any_of HT_.out (by kernel_rfl)) (fun _ _ _ h => h) (Or.inl ⟨by rfl, ?_⟩) ?_ ?_
  rotate_left
  · intro w'
    go_simp
    with_reducible rfl
  rotate_left
  · simp only [Act.put, List.setIfInBounds_toArray, List.set_cons_zero, List.set_cons_succ, i64_w, i32_w]
    rfl
  refine join_ (σ := Value × Value × Value) 3 #[true, true, true, true, true, true, true, true, true, true, true, true, true, true, true, true, false, false, false] (fun s_ => [(6, s_.1), (9, s_.2.1), (19, s_.2.2)]) (fun s_ w' => (w'.cell? ⟨g1, 0, none⟩ = some (.int .i64 a0_0) ∧ w'.cell? ⟨g1, 1, none⟩ = some (.int .i64 a0_1) ∧ w'.cell? ⟨g1, 2, none⟩ = some (.int .i64 a0_2) ∧ w'.cell? ⟨g1, 3, none⟩ = some (.int .i64 a0_3) ∧ w'.cell? ⟨g1, 4, none⟩ = some (.int .i64 a0_4)) ∧ Sv w [(g2, #[.string (⟨#[]⟩ : ByteArray), .string (⟨#[]⟩ : ByteArray)], 30), (g1, #[.int .i64 a0_0, .int .i64 a0_1, .int .i64 a0_2, .int .i64 a0_3, .int .i64 a0_4], 23)] w' ∧ Kd.R (Kd.int .u8) 5 w' w.heap.size (fun _ => True) s_.1 t1 ∧ Kd.R (Kd.int .u8) 5 w' w.heap.size (fun _ => True) s_.2.1 t2 ∧ Kd.R (Kd.int .u8) 5 w' w.heap.size (fun _ => True) s_.2.2 ([(a0_2) % 256, (a0_3) % 256, 0, 0, (a0_4) % 256] : List Int)) ?_ ?_
  rotate_left
  · intro hJ
    refine two_ (i := 2) (j := 15) (Ni := some 6) (Nj := some 19) #[true, true, true, true, true, false, true, true, true, true, true, true, true, true, true, false, false, false, false] #[true, true, false, true, true, false, true, true, true, true, true, true, true, true, true, true, false, false, false] rfl rfl rfl rfl (two_of HT_.out (by kernel_rfl)) (by decide) (by decide) (fun K hK => ?_) (fun K hK => ?_)
    · skip
      refine goes_ Try.func27 (by kernel_rfl) rfl #[.int .i64 a0_0] (by rfl) rfl rfl (by (try simp only [List.map_toArray, List.map_cons, List.map_nil]); first | done | rfl) ?_
      with_reducible refine (head_big.calls a0_0 t1 _ A1.out).mono ?_
      rintro e w1 ⟨p1, rfl, ho_, hb⟩
      refine ⟨_, rfl, ?_⟩
      have H1 := Aside0.mk (Kd.R_lower ho_ (below_size HS.out.below))
      clear ho_
      have n0_ := Aside0.mk (HS.out.step hb)
      clear HS hb
      have HS := n0_
      clear n0_
      refine hK.out _ _ ⟨(HS.out.cell 1 rfl 0).trans rfl, (HS.out.cell 1 rfl 1).trans rfl, (HS.out.cell 1 rfl 2).trans rfl, (HS.out.cell 1 rfl 3).trans rfl, (HS.out.cell 1 rfl 4).trans rfl⟩ (fun hHeld => ?_)
      clear hK K
      refine norm_ (a' := ?_) ?_ ?_
      rotate_left
      · show Act.put _ (some 6) _ = _
        simp only [Act.put, List.setIfInBounds_toArray, List.set_cons_zero, List.set_cons_succ, i64_w, i32_w]
        rfl
      refine two_ (i := 5) (j := 15) (Ni := some 9) (Nj := some 19) #[true, true, true, true, true, true, true, true, true, true, true, true, true, true, true, false, false, false, false] #[true, true, true, true, true, false, true, true, true, true, true, true, true, true, true, true, false, false, false] rfl rfl rfl rfl (two_of HT_.out (by kernel_rfl)) (by decide) (by decide) (fun K hK => ?_) (fun K hK => ?_)
      · skip
        refine goes_ Try.func27 (by kernel_rfl) rfl #[.int .i64 a0_1] (by rfl) rfl rfl (by (try simp only [List.map_toArray, List.map_cons, List.map_nil]); first | done | rfl) ?_
        with_reducible refine (head_big.calls a0_1 t2 _ A2.out).mono ?_
        rintro e w2 ⟨p2, rfl, ho_, hb⟩
        refine ⟨_, rfl, ?_⟩
        have H2 := Aside0.mk (Kd.R_lower ho_ (below_size HS.out.below))
        clear ho_
        have n0_ := Aside0.mk (HS.out.step hb); have n1_ := Aside0.mk (Kd.R_below H1.out hb)
        clear HS H1 hb
        have HS := n0_; have H1 := n1_
        clear n0_ n1_
        refine hK.out _ _ ⟨(HS.out.cell 1 rfl 0).trans rfl, (HS.out.cell 1 rfl 1).trans rfl, (HS.out.cell 1 rfl 2).trans rfl, (HS.out.cell 1 rfl 3).trans rfl, (HS.out.cell 1 rfl 4).trans rfl⟩ (fun hHeld => ?_)
        clear hK K
        refine norm_ (a' := ?_) ?_ ?_
        rotate_left
        · show Act.put _ (some 9) _ = _
          simp only [Act.put, List.setIfInBounds_toArray, List.set_cons_zero, List.set_cons_succ, i64_w, i32_w]
          rfl
        refine one_ (i := 15) (N := some 19) #[true, true, true, true, true, true, true, true, true, true, true, true, true, true, true, true, false, false, false] rfl rfl (one_of HT_.out (by kernel_rfl)) (by decide) (fun K hK => ?_)
        refine Kd.R_lit_step (Kd.int .u8) _ 5 ?hg (N := 19) ?hd (xs := ([(a0_2) % 256, (a0_3) % 256, 0, 0, (a0_4) % 256] : List Int)) (inner := [.int .u8 ((a0_2) % 256), .int .u8 ((a0_3) % 256), .int .u8 0, .int .u8 0, .int .u8 ((a0_4) % 256)]) (ok := fun _ => True) (okp := fun _ => True) ?hr ?hp (fun _ hk => hk) trivial (Below.refl _ _) (Nat.le_refl _) (by simp) ?_; (case hd => rfl); (case hg => rfl); (case hr => first | (go_simp; done) | (go_simp; rfl)); (case hp => exact (Reps.one (show Kd.M (Kd.int .u8) _ _ _ ((a0_2) % 256) [.int .u8 ((a0_2) % 256)] from rfl) (Reps.one (show Kd.M (Kd.int .u8) _ _ _ ((a0_3) % 256) [.int .u8 ((a0_3) % 256)] from rfl) (Reps.one (show Kd.M (Kd.int .u8) _ _ _ 0 [.int .u8 0] from rfl) (Reps.one (show Kd.M (Kd.int .u8) _ _ _ 0 [.int .u8 0] from rfl) (Reps.one (show Kd.M (Kd.int .u8) _ _ _ ((a0_4) % 256) [.int .u8 ((a0_4) % 256)] from rfl) (Reps.none _ _)))))))
        intro p3 w3 ho_ hb hg_ hnew_
        clear hg_ hnew_
        have H3 := Aside0.mk (Kd.R_lower ho_ (below_size HS.out.below))
        clear ho_
        have n0_ := Aside0.mk (HS.out.step hb); have n1_ := Aside0.mk (Kd.R_below H1.out hb); have n2_ := Aside0.mk (Kd.R_below H2.out hb)
        clear HS H1 H2 hb
        have HS := n0_; have H1 := n1_; have H2 := n2_
        clear n0_ n1_ n2_
        refine hK.out _ _ ⟨(HS.out.cell 1 rfl 0).trans rfl, (HS.out.cell 1 rfl 1).trans rfl, (HS.out.cell 1 rfl 2).trans rfl, (HS.out.cell 1 rfl 3).trans rfl, (HS.out.cell 1 rfl 4).trans rfl⟩ (fun hHeld => ?_)
        clear hK K
        refine norm_ (a' := ?_) ?_ ?_
        rotate_left
        · show Act.put _ (some 19) _ = _
          simp only [Act.put, List.setIfInBounds_toArray, List.set_cons_zero, List.set_cons_succ, i64_w, i32_w]
          rfl
        exact norm_ (by first | (simp only [putAll, Act.put, List.setIfInBounds_toArray, List.set_cons_zero, List.set_cons_succ]; done) | (simp only [putAll, Act.put, List.setIfInBounds_toArray, List.set_cons_zero, List.set_cons_succ]; rfl)) (hJ (p1, p2, p3) _ ⟨hHeld, HS.out, H1.out, H2.out, H3.out⟩)
      · skip
        refine Kd.R_lit_step (Kd.int .u8) _ 5 ?hg (N := 19) ?hd (xs := ([(a0_2) % 256, (a0_3) % 256, 0, 0, (a0_4) % 256] : List Int)) (inner := [.int .u8 ((a0_2) % 256), .int .u8 ((a0_3) % 256), .int .u8 0, .int .u8 0, .int .u8 ((a0_4) % 256)]) (ok := fun _ => True) (okp := fun _ => True) ?hr ?hp (fun _ hk => hk) trivial (Below.refl _ _) (Nat.le_refl _) (by simp) ?_; (case hd => rfl); (case hg => rfl); (case hr => first | (go_simp; done) | (go_simp; rfl)); (case hp => exact (Reps.one (show Kd.M (Kd.int .u8) _ _ _ ((a0_2) % 256) [.int .u8 ((a0_2) % 256)] from rfl) (Reps.one (show Kd.M (Kd.int .u8) _ _ _ ((a0_3) % 256) [.int .u8 ((a0_3) % 256)] from rfl) (Reps.one (show Kd.M (Kd.int .u8) _ _ _ 0 [.int .u8 0] from rfl) (Reps.one (show Kd.M (Kd.int .u8) _ _ _ 0 [.int .u8 0] from rfl) (Reps.one (show Kd.M (Kd.int .u8) _ _ _ ((a0_4) % 256) [.int .u8 ((a0_4) % 256)] from rfl) (Reps.none _ _)))))))
        intro p3 w4 ho_ hb hg_ hnew_
        clear hg_ hnew_
        have H3 := Aside0.mk (Kd.R_lower ho_ (below_size HS.out.below))
        clear ho_
        have n0_ := Aside0.mk (HS.out.step hb); have n1_ := Aside0.mk (Kd.R_below H1.out hb)
        clear HS H1 hb
        have HS := n0_; have H1 := n1_
        clear n0_ n1_
        refine hK.out _ _ ⟨(HS.out.cell 1 rfl 0).trans rfl, (HS.out.cell 1 rfl 1).trans rfl, (HS.out.cell 1 rfl 2).trans rfl, (HS.out.cell 1 rfl 3).trans rfl, (HS.out.cell 1 rfl 4).trans rfl⟩ (fun hHeld => ?_)
        clear hK K
        refine norm_ (a' := ?_) ?_ ?_
        rotate_left
        · show Act.put _ (some 19) _ = _
          simp only [Act.put, List.setIfInBounds_toArray, List.set_cons_zero, List.set_cons_succ, i64_w, i32_w]
          rfl
        refine one_ (i := 5) (N := some 9) #[true, true, true, true, true, true, true, true, true, true, true, true, true, true, true, true, false, false, false] rfl rfl (one_of HT_.out (by kernel_rfl)) (by decide) (fun K hK => ?_)
        refine goes_ Try.func27 (by kernel_rfl) rfl #[.int .i64 a0_1] (by rfl) rfl rfl (by (try simp only [List.map_toArray, List.map_cons, List.map_nil]); first | done | rfl) ?_
        with_reducible refine (head_big.calls a0_1 t2 _ A2.out).mono ?_
        rintro e w5 ⟨p2, rfl, ho_, hb⟩
        refine ⟨_, rfl, ?_⟩
        have H2 := Aside0.mk (Kd.R_lower ho_ (below_size HS.out.below))
        clear ho_
        have n0_ := Aside0.mk (HS.out.step hb); have n1_ := Aside0.mk (Kd.R_below H1.out hb); have n2_ := Aside0.mk (Kd.R_below H3.out hb)
        clear HS H1 H3 hb
        have HS := n0_; have H1 := n1_; have H3 := n2_
        clear n0_ n1_ n2_
        refine hK.out _ _ ⟨(HS.out.cell 1 rfl 0).trans rfl, (HS.out.cell 1 rfl 1).trans rfl, (HS.out.cell 1 rfl 2).trans rfl, (HS.out.cell 1 rfl 3).trans rfl, (HS.out.cell 1 rfl 4).trans rfl⟩ (fun hHeld => ?_)
        clear hK K
        refine norm_ (a' := ?_) ?_ ?_
        rotate_left
        · show Act.put _ (some 9) _ = _
          simp only [Act.put, List.setIfInBounds_toArray, List.set_cons_zero, List.set_cons_succ, i64_w, i32_w]
          rfl
        exact norm_ (by first | (simp only [putAll, Act.put, List.setIfInBounds_toArray, List.set_cons_zero, List.set_cons_succ]; done) | (simp only [putAll, Act.put, List.setIfInBounds_toArray, List.set_cons_zero, List.set_cons_succ]; rfl)) (hJ (p1, p2, p3) _ ⟨hHeld, HS.out, H1.out, H2.out, H3.out⟩)
    · skip
      refine Kd.R_lit_step (Kd.int .u8) _ 5 ?hg (N := 19) ?hd (xs := ([(a0_2) % 256, (a0_3) % 256, 0, 0, (a0_4) % 256] : List Int)) (inner := [.int .u8 ((a0_2) % 256), .int .u8 ((a0_3) % 256), .int .u8 0, .int .u8 0, .int .u8 ((a0_4) % 256)]) (ok := fun _ => True) (okp := fun _ => True) ?hr ?hp (fun _ hk => hk) trivial (Below.refl _ _) (Nat.le_refl _) (by simp) ?_; (case hd => rfl); (case hg => rfl); (case hr => first | (go_simp; done) | (go_simp; rfl)); (case hp => exact (Reps.one (show Kd.M (Kd.int .u8) _ _ _ ((a0_2) % 256) [.int .u8 ((a0_2) % 256)] from rfl) (Reps.one (show Kd.M (Kd.int .u8) _ _ _ ((a0_3) % 256) [.int .u8 ((a0_3) % 256)] from rfl) (Reps.one (show Kd.M (Kd.int .u8) _ _ _ 0 [.int .u8 0] from rfl) (Reps.one (show Kd.M (Kd.int .u8) _ _ _ 0 [.int .u8 0] from rfl) (Reps.one (show Kd.M (Kd.int .u8) _ _ _ ((a0_4) % 256) [.int .u8 ((a0_4) % 256)] from rfl) (Reps.none _ _)))))))
      intro p3 w6 ho_ hb hg_ hnew_
      clear hg_ hnew_
      have H3 := Aside0.mk (Kd.R_lower ho_ (below_size HS.out.below))
      clear ho_
      have n0_ := Aside0.mk (HS.out.step hb)
      clear HS hb
      have HS := n0_
      clear n0_
      refine hK.out _ _ ⟨(HS.out.cell 1 rfl 0).trans rfl, (HS.out.cell 1 rfl 1).trans rfl, (HS.out.cell 1 rfl 2).trans rfl, (HS.out.cell 1 rfl 3).trans rfl, (HS.out.cell 1 rfl 4).trans rfl⟩ (fun hHeld => ?_)
      clear hK K
      refine norm_ (a' := ?_) ?_ ?_
      rotate_left
      · show Act.put _ (some 19) _ = _
        simp only [Act.put, List.setIfInBounds_toArray, List.set_cons_zero, List.set_cons_succ, i64_w, i32_w]
        rfl
      refine one_ (i := 2) (N := some 6) #[true, true, true, true, true, false, true, true, true, true, true, true, true, true, true, true, false, false, false] rfl rfl (one_of HT_.out (by kernel_rfl)) (by decide) (fun K hK => ?_)
      refine goes_ Try.func27 (by kernel_rfl) rfl #[.int .i64 a0_0] (by rfl) rfl rfl (by (try simp only [List.map_toArray, List.map_cons, List.map_nil]); first | done | rfl) ?_
      with_reducible refine (head_big.calls a0_0 t1 _ A1.out).mono ?_
      rintro e w7 ⟨p1, rfl, ho_, hb⟩
      refine ⟨_, rfl, ?_⟩
      have H1 := Aside0.mk (Kd.R_lower ho_ (below_size HS.out.below))
      clear ho_
      have n0_ := Aside0.mk (HS.out.step hb); have n1_ := Aside0.mk (Kd.R_below H3.out hb)
      clear HS H3 hb
      have HS := n0_; have H3 := n1_
      clear n0_ n1_
      refine hK.out _ _ ⟨(HS.out.cell 1 rfl 0).trans rfl, (HS.out.cell 1 rfl 1).trans rfl, (HS.out.cell 1 rfl 2).trans rfl, (HS.out.cell 1 rfl 3).trans rfl, (HS.out.cell 1 rfl 4).trans rfl⟩ (fun hHeld => ?_)
      clear hK K
      refine norm_ (a' := ?_) ?_ ?_
      rotate_left
      · show Act.put _ (some 6) _ = _
        simp only [Act.put, List.setIfInBounds_toArray, List.set_cons_zero, List.set_cons_succ, i64_w, i32_w]
        rfl
      refine one_ (i := 5) (N := some 9) #[true, true, true, true, true, true, true, true, true, true, true, true, true, true, true, true, false, false, false] rfl rfl (one_of HT_.out (by kernel_rfl)) (by decide) (fun K hK => ?_)
      refine goes_ Try.func27 (by kernel_rfl) rfl #[.int .i64 a0_1] (by rfl) rfl rfl (by (try simp only [List.map_toArray, List.map_cons, List.map_nil]); first | done | rfl) ?_
      with_reducible refine (head_big.calls a0_1 t2 _ A2.out).mono ?_
      rintro e w8 ⟨p2, rfl, ho_, hb⟩
      refine ⟨_, rfl, ?_⟩
      have H2 := Aside0.mk (Kd.R_lower ho_ (below_size HS.out.below))
      clear ho_
      have n0_ := Aside0.mk (HS.out.step hb); have n1_ := Aside0.mk (Kd.R_below H3.out hb); have n2_ := Aside0.mk (Kd.R_below H1.out hb)
      clear HS H3 H1 hb
      have HS := n0_; have H3 := n1_; have H1 := n2_
      clear n0_ n1_ n2_
      refine hK.out _ _ ⟨(HS.out.cell 1 rfl 0).trans rfl, (HS.out.cell 1 rfl 1).trans rfl, (HS.out.cell 1 rfl 2).trans rfl, (HS.out.cell 1 rfl 3).trans rfl, (HS.out.cell 1 rfl 4).trans rfl⟩ (fun hHeld => ?_)
      clear hK K
      refine norm_ (a' := ?_) ?_ ?_
      rotate_left
      · show Act.put _ (some 9) _ = _
        simp only [Act.put, List.setIfInBounds_toArray, List.set_cons_zero, List.set_cons_succ, i64_w, i32_w]
        rfl
      exact norm_ (by first | (simp only [putAll, Act.put, List.setIfInBounds_toArray, List.set_cons_zero, List.set_cons_succ]; done) | (simp only [putAll, Act.put, List.setIfInBounds_toArray, List.set_cons_zero, List.set_cons_succ]; rfl)) (hJ (p1, p2, p3) _ ⟨hHeld, HS.out, H1.out, H2.out, H3.out⟩)
  rintro ⟨p1, p2, p3⟩ wj ⟨hHeld, hS_, h1_, h2_, h3_⟩
  have n0_ : Aside0 (Sv w [(g2, #[.string (⟨#[]⟩ : ByteArray), .string (⟨#[]⟩ : ByteArray)], 30), (g1, #[.int .i64 a0_0, .int .i64 a0_1, .int .i64 a0_2, .int .i64 a0_3, .int .i64 a0_4], 23)] wj) := ⟨hS_⟩
  clear HS hS_
  have HS := n0_
  clear n0_
  have H1 : Aside0 (Kd.R (Kd.int .u8) 5 wj w.heap.size (fun _ => True) p1 t1) := ⟨h1_⟩; clear h1_
  have H2 : Aside0 (Kd.R (Kd.int .u8) 5 wj w.heap.size (fun _ => True) p2 t2) := ⟨h2_⟩; clear h2_
  have H3 : Aside0 (Kd.R (Kd.int .u8) 5 wj w.heap.size (fun _ => True) p3 ([(a0_2) % 256, (a0_3) % 256, 0, 0, (a0_4) % 256] : List Int)) := ⟨h3_⟩; clear h3_
  refine norm_ (a' := ?_) ?_ ?_
  rotate_left
  · simp only [putAll, Act.put, List.setIfInBounds_toArray, List.set_cons_zero, List.set_cons_succ]
    rfl
  obtain ⟨Aa, ca, rfl⟩ := Kd.R_slice H1.out
  obtain ⟨Ab, cb, rfl⟩ := Kd.R_slice H2.out
  obtain ⟨Ac, cc, rfl⟩ := Kd.R_slice H3.out
  refine one_ (i := 16) (N := some 20) #[true, true, true, true, true, true, true, true, true, true, true, true, true, true, true, true, true, false, false] rfl rfl (one_of HT_.out (by kernel_rfl)) (by decide) (fun K hK => ?_)
  refine Kd.R_lit_step (Kd.slice 5 (Kd.int .u8)) w.heap.size 51 ?hg (N := 20) ?hd (w0 := w) (xs := ([t1, t2, [(a0_2) % 256, (a0_3) % 256, 0, 0, (a0_4) % 256]] : List (List Int))) (inner := [.slice Aa t1.length ca, .slice Ab t2.length cb, .slice Ac 5 cc]) (ok := fun _ => True) (okp := fun _ => True) ?hr ?hp (fun _ hk => hk) trivial HS.out.below HS.out.below.size (by simp) ?_; (case hd => rfl); (case hg => rfl); (case hr => first | (go_simp; done) | (go_simp; rfl)); (case hp => exact (Reps.one (show Kd.M (Kd.slice 5 (Kd.int .u8)) _ _ _ t1 [.slice Aa t1.length ca] from ⟨_, rfl, H1.out⟩) (Reps.one (show Kd.M (Kd.slice 5 (Kd.int .u8)) _ _ _ t2 [.slice Ab t2.length cb] from ⟨_, rfl, H2.out⟩) (Reps.one (show Kd.M (Kd.slice 5 (Kd.int .u8)) _ _ _ [(a0_2) % 256, (a0_3) % 256, 0, 0, (a0_4) % 256] [.slice Ac 5 cc] from ⟨_, rfl, H3.out⟩) (Reps.none _ _)))))
  intro v4 w4 ho_ hb4 hg_ hnew_
  have H4 := Aside0.mk ho_
  have hb := Below.grown (Below.refl _ _) hg_ (Nat.le_refl _) (fun k hk => by cases hk)
  clear hg_ hnew_ ho_ hb4 H1 H2 H3
  have n0_ := Aside0.mk (HS.out.step hb)
  clear HS hb
  have HS := n0_
  clear n0_
  refine hK.out _ _ ⟨(HS.out.cell 1 rfl 0).trans rfl, (HS.out.cell 1 rfl 1).trans rfl, (HS.out.cell 1 rfl 2).trans rfl, (HS.out.cell 1 rfl 3).trans rfl, (HS.out.cell 1 rfl 4).trans rfl⟩ (fun hHeld => ?_)
  clear hK K
  refine norm_ (a' := ?_) ?_ ?_
  rotate_left
  · show Act.put _ (some 20) _ = _
    simp only [Act.put, List.setIfInBounds_toArray, List.set_cons_zero, List.set_cons_succ, i64_w, i32_w]
    rfl
  obtain ⟨Ao, co, rfl⟩ := Kd.R_slice H4.out
  refine one_ (i := 17) (N := some 21) #[true, true, true, true, true, true, true, true, true, true, true, true, true, true, true, true, true, true, false] rfl rfl (one_of HT_.out (by kernel_rfl)) (by decide) (fun K hK => ?_)
  refine goes_ Try.func26 (by kernel_rfl) rfl #[.slice Ao ([t1, t2, [(a0_2) % 256, (a0_3) % 256, 0, 0, (a0_4) % 256]] : List (List Int)).length co] (by rfl) rfl rfl (by (try simp only [List.map_toArray, List.map_cons, List.map_nil]); first | done | rfl) ?_
  with_reducible refine (slices_Concat_byte_byte.calls k _ _ ([t1, t2, [(a0_2) % 256, (a0_3) % 256, 0, 0, (a0_4) % 256]] : List (List Int)) t3 _ (Kd.R_reads' H4.out).2.2 (Kd.R_reads' H4.out).2.1 A3.out).mono ?_
  rintro e w5 ⟨v5, rfl, ho_, hb⟩
  refine ⟨_, rfl, ?_⟩
  have H5 := Aside0.mk ho_
  clear ho_ H4
  have n0_ := Aside0.mk (HS.out.step hb)
  clear HS hb
  have HS := n0_
  clear n0_
  refine hK.out _ _ ⟨(HS.out.cell 1 rfl 0).trans rfl, (HS.out.cell 1 rfl 1).trans rfl, (HS.out.cell 1 rfl 2).trans rfl, (HS.out.cell 1 rfl 3).trans rfl, (HS.out.cell 1 rfl 4).trans rfl⟩ (fun hHeld => ?_)
  clear hK K
  refine norm_ (a' := ?_) ?_ ?_
  rotate_left
  · show Act.put _ (some 21) _ = _
    simp only [Act.put, List.setIfInBounds_toArray, List.set_cons_zero, List.set_cons_succ, i64_w, i32_w]
    rfl
  refine pure_ (i := 18) (N := some 3) (v := ?_) (a' := ?_) #[true, true, true, true, true, true, true, true, true, true, true, true, true, true, true, true, true, true, true] rfl rfl (any_of HT_.out (by kernel_rfl)) (fun _ _ _ h => h) (Or.inl ⟨by rfl, ?_⟩) ?_ ?_
  rotate_left
  · intro w'
    go_simp
    with_reducible rfl
  rotate_left
  · simp only [Act.put, List.setIfInBounds_toArray, List.set_cons_zero, List.set_cons_succ, i64_w, i32_w]
    rfl
  refine done_ (done_of HT_.out (by kernel_rfl)) ?_
  clear HT_ HW_ hHeld
  have hcv := own_string (P := Try.prog) Try.underlying51 Try.underlying5 Try.underlying9 (Kd.own_of_R H5.out)
  have y0 := (HS.out.cell 0 rfl 0).trans rfl
  have y1 := (HS.out.cell 0 rfl 1).trans rfl
  have k0 := HS.out.fz 0 rfl 0
  have k1 := HS.out.fz 0 rfl 1
  go_wp2
  have HF : Sv w [(g2, #[.string (⟨#[73, 72, 68, 82]⟩ : ByteArray), .string (strOfNums t3)], 30), (g1, #[.int .i64 a0_0, .int .i64 a0_1, .int .i64 a0_2, .int .i64 a0_3, .int .i64 a0_4], 23)] ((World.setCell _ ⟨g2, 0, none⟩ (.string (⟨#[73, 72, 68, 82]⟩ : ByteArray))).setCell ⟨g2, 1, none⟩ (.string (strOfNums t3))) := (HS.out.set 0 rfl 0 (.string (⟨#[73, 72, 68, 82]⟩ : ByteArray))).set 0 rfl 1 (.string (strOfNums t3))
  refine bodyPost_ret (results_cell_row rfl _ _ g2 30 #[.string (⟨#[73, 72, 68, 82]⟩ : ByteArray), .string (strOfNums t3)] (0, 0) _ rfl (HF.at 0 rfl) Try.underlying30 rfl (by kernel_rfl)) rfl ?_
  exact ⟨rfl, HF.below⟩

end Go.Proofs.Ytbpnkgidlmjkkaa.PL08
