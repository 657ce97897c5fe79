/- What a client's beginning of an operation answers: walks of the given program's functions. No conditions but those that each theorem names. -/
import Derived.Test.YtdbiokmlgniobaaXSets
import Derived.Test.YtdbiokmlgniobaaXV
import Derived.Maps.OwnOps
import Derived.Maps.Keyed
import Derived.LoopTactic
import Derived.StillTailTactics
import Derived.Laws.Rows
import Derived.Deep.QuietTactic
import Derived.BigQuiet
import Derived.Laws.Cover3
import Derived.Test.YtdbiokmlgniobaaXPL22y1
namespace Go.Proofs.Ytdbiokmlgniobaa.PL22
open Go.RowKit Go.Proofs.YtdbiokmlgniobaaW.PrintWords Go.Proofs.YtdbiokmlgniobaaW.PrintLast Go.Proofs.YtdbiokmlgniobaaW.PrintMore
attribute [local go_sem] max2_int min2_int max_two min_two max_three min_three max_four min_four
set_option linter.unusedVariables false
set_option linter.unusedSimpArgs false
open Go.Proofs.YtdbiokmlgniobaaV
attribute [local go_sem high] eqA23
attribute [local go_sem] eql_nil
set_option maxHeartbeats 40000000 in
set_option maxRecDepth 100000 in
theorem turn_calls (g : Nat) (row : Option Nat) (s : CS) (H : List Int) (ph : Int) (w : World) (hc : Cl g row s H w) (hp : ph = 1 ∨ ph = 2) (hn : 0 ≤ s.n ∧ s.n ≤ 15) (hl : s.work.f7.length ≤ 1000000) : Calls Try.prog 53 #[.pointer (some ⟨g, 0, none⟩), .int .i64 ph] w (TurnPost g row w { s with ph := ph } (rsUp { s with ph := ph } [] s.n.toNat)) := by
  obtain ⟨vb, vw, M, hs, hcl, h2, h3, h1, hmo, hM⟩ := hc.open
  have HS := Aside0.mk hs
  have HCl := Aside0.mk hcl
  have H2 := Aside0.mk h2
  have H3 := Aside0.mk h3
  have H1 := Aside0.mk h1
  have HMO := Aside0.mk hmo
  have HM_ := Aside0.mk hM
  clear hs hcl h2 h3 h1 hmo hM hc
  have HP := Aside0.mk hp
  have HN := Aside0.mk hn
  have HL := Aside0.mk hl
  clear hp hn hl
  go_enter Try.func53, Try.ntmps53
  go_upto_region 2 with ((with_reducible refine gate_dst (N := 8) rfl ?_); refine map_event ?hg (N := 8) ?hd ?hr ?_; (case hd => rfl); (case hg => rfl); (case hr => first | (go_simp; done) | (go_simp; rfl)); intro gm hg w1 hx hb hs_; have HMm := Aside0.mk hs_; have HX := Aside0.mk hx; have HGM := Aside0.mk (show w.heap.size ≤ gm from by rw [hg]; exact Nat.le_refl _); have n_HS := Aside0.mk (HS.out.boxO hb hg hx); clear HS hg hb hx hs_; have HS := n_HS; clear n_HS; have yc3 := (HS.out.cell 1 rfl 3).trans (show (#[.int .i64 s.id, .int .i64 s.n, .int .i64 s.op, .int .i64 s.ph, .bool s.put, .map row, .int .i64 s.best.f0, .int .i64 s.best.f1, .int .i64 s.best.f2, .int .i64 s.best.f3, .string s.best.f4, .int .i64 s.best.f5.f0, .int .i64 s.best.f5.f1, .string s.best.f6, vb, .int .i64 s.work.f0, .int .i64 s.work.f1, .int .i64 s.work.f2, .int .i64 s.work.f3, .string s.work.f4, .int .i64 s.work.f5.f0, .int .i64 s.work.f5.f1, .string s.work.f6, vw, .int .i64 s.en] : Array Value)[3]? = some (.int .i64 s.ph) from rfl); have fc3 := HS.out.fz 1 rfl 3; have yc5 := (HS.out.cell 1 rfl 5).trans (show (#[.int .i64 s.id, .int .i64 s.n, .int .i64 s.op, .int .i64 s.ph, .bool s.put, .map row, .int .i64 s.best.f0, .int .i64 s.best.f1, .int .i64 s.best.f2, .int .i64 s.best.f3, .string s.best.f4, .int .i64 s.best.f5.f0, .int .i64 s.best.f5.f1, .string s.best.f6, vb, .int .i64 s.work.f0, .int .i64 s.work.f1, .int .i64 s.work.f2, .int .i64 s.work.f3, .string s.work.f4, .int .i64 s.work.f5.f0, .int .i64 s.work.f5.f1, .string s.work.f6, vw, .int .i64 s.en] : Array Value)[5]? = some (.map row) from rfl); have fc5 := HS.out.fz 1 rfl 5)
  have hs1_ : Ov w g row ((gm, .map #[] 0) :: (g, .cells (#[.int .i64 s.id, .int .i64 s.n, .int .i64 s.op, .int .i64 ph, .bool s.put, .map row, .int .i64 s.best.f0, .int .i64 s.best.f1, .int .i64 s.best.f2, .int .i64 s.best.f3, .string s.best.f4, .int .i64 s.best.f5.f0, .int .i64 s.best.f5.f1, .string s.best.f6, vb, .int .i64 s.work.f0, .int .i64 s.work.f1, .int .i64 s.work.f2, .int .i64 s.work.f3, .string s.work.f4, .int .i64 s.work.f5.f0, .int .i64 s.work.f5.f1, .string s.work.f6, vw, .int .i64 s.en] : Array Value) 70 (0, 0)) :: M) (World.setCell w1 ⟨g, 3, none⟩ (.int .i64 ph)) := Ov.set HS.out 1 rfl 3 (.int .i64 ph)
  have hs2_ : Ov w g row ((gm, .map #[] 0) :: (g, .cells (#[.int .i64 s.id, .int .i64 s.n, .int .i64 s.op, .int .i64 ph, .bool s.put, .map (some gm), .int .i64 s.best.f0, .int .i64 s.best.f1, .int .i64 s.best.f2, .int .i64 s.best.f3, .string s.best.f4, .int .i64 s.best.f5.f0, .int .i64 s.best.f5.f1, .string s.best.f6, vb, .int .i64 s.work.f0, .int .i64 s.work.f1, .int .i64 s.work.f2, .int .i64 s.work.f3, .string s.work.f4, .int .i64 s.work.f5.f0, .int .i64 s.work.f5.f1, .string s.work.f6, vw, .int .i64 s.en] : Array Value) 70 (0, 0)) :: M) (World.setCell (World.setCell w1 ⟨g, 3, none⟩ (.int .i64 ph)) ⟨g, 5, none⟩ (.map (some gm))) := Ov.set hs1_ 1 rfl 5 (.map (some gm))
  refine (fun (h_ : ∀ w_, Ov w g row ((gm, .map #[] 0) :: (g, .cells (#[.int .i64 s.id, .int .i64 s.n, .int .i64 s.op, .int .i64 ph, .bool s.put, .map (some gm), .int .i64 s.best.f0, .int .i64 s.best.f1, .int .i64 s.best.f2, .int .i64 s.best.f3, .string s.best.f4, .int .i64 s.best.f5.f0, .int .i64 s.best.f5.f1, .string s.best.f6, vb, .int .i64 s.work.f0, .int .i64 s.work.f1, .int .i64 s.work.f2, .int .i64 s.work.f3, .string s.work.f4, .int .i64 s.work.f5.f0, .int .i64 s.work.f5.f1, .string s.work.f6, vw, .int .i64 s.en] : Array Value) 70 (0, 0)) :: M) w_ → Code.wp _ _ _ _ w_) => h_ (World.setCell (World.setCell w1 ⟨g, 3, none⟩ (.int .i64 ph)) ⟨g, 5, none⟩ (.map (some gm))) hs2_) ?_
  clear HS hs1_ hs2_  yc3 fc3 yc5 fc5
  intro w2 HS_
  have HS := Aside0.mk HS_
  clear HS_
  have HMm2 : Aside0 (HM w2 (some gm) []) := ⟨HM.blk HMm.out ((HS.out.at 0 rfl).trans HX.out.symm)⟩
  have HC2 : Aside0 (Cl g (some gm) { s with ph := ph } [] w2) := ⟨Cl.shut (s' := { s with ph := ph }) H1.out HMO.out HS.out 1 rfl HMm2.out (R_fr H2.out H1.out HMO.out str_not HS.out.fr) (R_fr H3.out H1.out HMO.out str_not HS.out.fr)⟩
  go_wp2_with (go_at_call 14; (with_reducible refine (resend_calls g gm { s with ph := ph } [] w2 HC2.out HP.out HN.out HL.out).mono ?_); rintro e w3 ⟨v, rfl, hr, hb⟩; have HR := Aside0.mk hr; have HB := Aside0.mk hb; clear hr hb)
  go_ret
  exact ⟨v, gm, rfl, HGM.out, Kd.R_lower HR.out HS.out.fr.2.2.2.1, HC2.out.below HB.out, HS.out.fr.trans (Fr.of_below HB.out) (.inl rfl)⟩
def client_begin.T2 : Bool × List (List Nat × List Nat) := (true, [([], []), ([], []), ([], []), ([], []), ([], []), ([], []), ([0, 0, 3], [0]), ([6, 0, 3], [6]), ([7, 3, 0, 3], [3, 7]), ([1, 0, 1, 3, 4, 6, 7, 8], [1]), ([9, 0, 1, 3, 4, 6, 7, 8], [9]), ([10, 4, 8, 0, 1, 3, 4, 6, 7, 8], [4, 10]), ([2, 0, 1, 2, 3, 4, 5, 6, 7, 8, 9, 10, 11], [2]), ([12, 0, 1, 2, 3, 4, 5, 6, 7, 8, 9, 10, 11], [12]), ([13, 5, 11, 0, 1, 2, 3, 4, 5, 6, 7, 8, 9, 10, 11], [5, 13])])
def client_begin.B2 : List Nat := [0, 0, 0, 0, 0, 0, 9, 73, 201, 475, 987, 2011, 4095, 8191, 16383]
theorem client_begin.tab2 : rtab .any (opsOf Try.f33 2) = client_begin.T2 := by kernel_rfl
theorem client_begin.bits2 : waitsOk client_begin.T2.2 client_begin.B2 = true := by kernel_rfl
set_option maxHeartbeats 40000000 in
set_option maxRecDepth 100000 in
theorem begin_calls (g : Nat) (row : Option Nat) (s : CS) (H : List Int) (pu : Bool) (m : S26) (vm : Value) (w : World) (hc : Cl g row s H w) (hv : Kd.string.R 9 w 0 (fun _ => True) vm m.f7) (hn : 0 ≤ s.n ∧ s.n ≤ 15) (hl : m.f7.length ≤ 1000000) : Calls Try.prog 33 #[.pointer (some ⟨g, 0, none⟩), .bool pu, .agg #[.int .i64 m.f0, .int .i64 m.f1, .int .i64 m.f2, .int .i64 m.f3, .string m.f4, .int .i64 m.f5.f0, .int .i64 m.f5.f1, .string m.f6, vm]] w (TurnPost g row w ⟨s.id, s.n, wrap64 (s.op + 1), 1, pu, m0, m, s.en⟩ (rsUp ⟨s.id, s.n, wrap64 (s.op + 1), 1, pu, m0, m, s.en⟩ [] s.n.toNat)) := by
  obtain ⟨vb, vw, M, hs, hcl, h2, h3, h1, hmo, hM⟩ := hc.open
  have HS := Aside0.mk hs
  have HCl := Aside0.mk hcl
  have H2 := Aside0.mk h2
  have H3 := Aside0.mk h3
  have H1 := Aside0.mk h1
  have HMO := Aside0.mk hmo
  have HM_ := Aside0.mk hM
  clear hs hcl h2 h3 h1 hmo hM hc
  obtain ⟨Am, cm, rfl⟩ := Kd.R_slice hv
  have HV := Aside0.mk hv
  have HN := Aside0.mk hn
  have HL := Aside0.mk hl
  clear hv hn hl
  go_enter Try.func33, Try.ntmps33
  go_upto_region 2 with ((with_reducible refine gate_dst (N := 5) rfl ?_); refine box_event ?hg (N := 5) ?hd (cs := #[.int .i64 m.f0, .int .i64 m.f1, .int .i64 m.f2, .int .i64 m.f3, .string m.f4, .int .i64 m.f5.f0, .int .i64 m.f5.f1, .string m.f6, .slice Am m.f7.length cm]) (t := 26) ?hr ?_; (case hd => rfl); (case hg => rfl); (case hr => first | (go_simp; done) | (go_simp; rfl)); intro gb hg wgb hbox hb; have n_HS := Aside0.mk (HS.out.box hb hg hbox); clear HS hg hb hbox; have HS := n_HS; clear n_HS; have yc2 := (HS.out.cell 1 rfl 2).trans (show (#[.int .i64 s.id, .int .i64 s.n, .int .i64 s.op, .int .i64 s.ph, .bool s.put, .map row, .int .i64 s.best.f0, .int .i64 s.best.f1, .int .i64 s.best.f2, .int .i64 s.best.f3, .string s.best.f4, .int .i64 s.best.f5.f0, .int .i64 s.best.f5.f1, .string s.best.f6, vb, .int .i64 s.work.f0, .int .i64 s.work.f1, .int .i64 s.work.f2, .int .i64 s.work.f3, .string s.work.f4, .int .i64 s.work.f5.f0, .int .i64 s.work.f5.f1, .string s.work.f6, vw, .int .i64 s.en] : Array Value)[2]? = some (.int .i64 s.op) from rfl); have fc2 := HS.out.fz 1 rfl 2)
  have hs1_ : Ov w g row ((gb, .cells (#[.int .i64 m.f0, .int .i64 m.f1, .int .i64 m.f2, .int .i64 m.f3, .string m.f4, .int .i64 m.f5.f0, .int .i64 m.f5.f1, .string m.f6, .slice Am m.f7.length cm] : Array Value) 26 (0, 0)) :: (g, .cells (#[.int .i64 s.id, .int .i64 s.n, .int .i64 (wrap64 (s.op + 1)), .int .i64 s.ph, .bool s.put, .map row, .int .i64 s.best.f0, .int .i64 s.best.f1, .int .i64 s.best.f2, .int .i64 s.best.f3, .string s.best.f4, .int .i64 s.best.f5.f0, .int .i64 s.best.f5.f1, .string s.best.f6, vb, .int .i64 s.work.f0, .int .i64 s.work.f1, .int .i64 s.work.f2, .int .i64 s.work.f3, .string s.work.f4, .int .i64 s.work.f5.f0, .int .i64 s.work.f5.f1, .string s.work.f6, vw, .int .i64 s.en] : Array Value) 70 (0, 0)) :: M) (World.setCell wgb ⟨g, 2, none⟩ (.int .i64 (wrap64 (s.op + 1)))) := Ov.set HS.out 1 rfl 2 (.int .i64 (wrap64 (s.op + 1)))
  refine (fun (h_ : ∀ w_, Ov w g row ((gb, .cells (#[.int .i64 m.f0, .int .i64 m.f1, .int .i64 m.f2, .int .i64 m.f3, .string m.f4, .int .i64 m.f5.f0, .int .i64 m.f5.f1, .string m.f6, .slice Am m.f7.length cm] : Array Value) 26 (0, 0)) :: (g, .cells (#[.int .i64 s.id, .int .i64 s.n, .int .i64 (wrap64 (s.op + 1)), .int .i64 s.ph, .bool s.put, .map row, .int .i64 s.best.f0, .int .i64 s.best.f1, .int .i64 s.best.f2, .int .i64 s.best.f3, .string s.best.f4, .int .i64 s.best.f5.f0, .int .i64 s.best.f5.f1, .string s.best.f6, vb, .int .i64 s.work.f0, .int .i64 s.work.f1, .int .i64 s.work.f2, .int .i64 s.work.f3, .string s.work.f4, .int .i64 s.work.f5.f0, .int .i64 s.work.f5.f1, .string s.work.f6, vw, .int .i64 s.en] : Array Value) 70 (0, 0)) :: M) w_ → Code.wp _ _ _ _ w_) => h_ (World.setCell wgb ⟨g, 2, none⟩ (.int .i64 (wrap64 (s.op + 1)))) hs1_) ?_
  clear HS hs1_  yc2 fc2
  intro w2 HS_
  have HS := Aside0.mk HS_
  clear HS_
  have n_HS := Aside0.mk (HS.out.drew)
  clear HS
  have HS := n_HS
  clear n_HS
  refine start_ (n := 15) (S := fun w' => w'.cell? ⟨gb, 0, none⟩ = some (.int .i64 m.f0) ∧ w'.cell? ⟨gb, 1, none⟩ = some (.int .i64 m.f1) ∧ w'.cell? ⟨gb, 2, none⟩ = some (.int .i64 m.f2) ∧ w'.cell? ⟨gb, 3, none⟩ = some (.int .i64 m.f3) ∧ w'.cell? ⟨gb, 4, none⟩ = some (.string m.f4) ∧ w'.cell? ⟨gb, 5, none⟩ = some (.int .i64 m.f5.f0) ∧ w'.cell? ⟨gb, 6, none⟩ = some (.int .i64 m.f5.f1) ∧ w'.cell? ⟨gb, 7, none⟩ = some (.string m.f6) ∧ w'.cell? ⟨gb, 8, none⟩ = some (.slice Am m.f7.length cm)) (ds := []) #[false, false, false, false, false, false, false, false, false, false, false, false, false, false, false] (by kernel_rfl) rfl rfl ⟨(HS.out.cell 0 rfl 0).trans rfl, (HS.out.cell 0 rfl 1).trans rfl, (HS.out.cell 0 rfl 2).trans rfl, (HS.out.cell 0 rfl 3).trans rfl, (HS.out.cell 0 rfl 4).trans rfl, (HS.out.cell 0 rfl 5).trans rfl, (HS.out.cell 0 rfl 6).trans rfl, (HS.out.cell 0 rfl 7).trans rfl, (HS.out.cell 0 rfl 8).trans rfl⟩ (fun hHeld => ?_)
  refine with_tabW client_begin.tab2 client_begin.bits2 (fun HT_ HW_ => ?_)
  generalize World.drew _ = w3 at HS  hHeld ⊢
  refine pure_ (i := 0) (N := some 14) (v := ?_) (a' := ?_) #[true, false, false, false, false, false, false, false, false, false, false, false, false, false, false] rfl rfl (any_of HT_.out (by kernel_rfl)) (fun _ _ _ h => h) (Or.inl ⟨by rfl, ?_⟩) ?_ ?_
  rotate_left
  · intro w'
    go_simp
    with_reducible rfl
  rotate_left
  · simp only [Act.put, List.setIfInBounds_toArray, List.set_cons_zero, List.set_cons_succ, i64_w, i32_w]
    rfl
  refine pure_ (i := 1) (N := some 15) (v := ?_) (a' := ?_) #[true, true, false, false, false, false, false, false, false, false, false, false, false, false, false] rfl rfl (any_of HT_.out (by kernel_rfl)) (fun _ _ _ h => h) (Or.inl ⟨by rfl, ?_⟩) ?_ ?_
  rotate_left
  · intro w'
    go_simp
    with_reducible rfl
  rotate_left
  · simp only [Act.put, List.setIfInBounds_toArray, List.set_cons_zero, List.set_cons_succ, i64_w, i32_w]
    rfl
  refine pure_ (i := 2) (N := some 16) (v := ?_) (a' := ?_) #[true, true, true, false, false, false, false, false, false, false, false, false, false, false, false] rfl rfl (any_of HT_.out (by kernel_rfl)) (fun _ _ _ h => h) (Or.inl ⟨by rfl, ?_⟩) ?_ ?_
  rotate_left
  · intro w'
    go_simp
    with_reducible rfl
  rotate_left
  · simp only [Act.put, List.setIfInBounds_toArray, List.set_cons_zero, List.set_cons_succ, i64_w, i32_w]
    rfl
  refine pure_ (i := 3) (N := some 17) (v := ?_) (a' := ?_) #[true, true, true, true, false, false, false, false, false, false, false, false, false, false, false] rfl rfl (any_of HT_.out (by kernel_rfl)) (fun _ _ _ h => h) (Or.inl ⟨by rfl, ?_⟩) ?_ ?_
  rotate_left
  · intro w'
    go_simp
    with_reducible rfl
  rotate_left
  · simp only [Act.put, List.setIfInBounds_toArray, List.set_cons_zero, List.set_cons_succ, i64_w, i32_w]
    rfl
  refine pure_ (i := 5) (N := some 19) (v := ?_) (a' := ?_) #[true, true, true, true, false, true, false, false, false, false, false, false, false, false, false] rfl rfl (any_of HT_.out (by kernel_rfl)) (fun _ _ _ h => h) (Or.inl ⟨by rfl, ?_⟩) ?_ ?_
  rotate_left
  · intro w'
    go_simp
    with_reducible rfl
  rotate_left
  · simp only [Act.put, List.setIfInBounds_toArray, List.set_cons_zero, List.set_cons_succ, i64_w, i32_w]
    rfl
  refine pure_ (i := 6) (N := some 20) (v := ?_) (a' := ?_) #[true, true, true, true, false, true, true, false, false, false, false, false, false, false, false] rfl rfl (any_of HT_.out (by kernel_rfl)) (fun _ _ _ h => h) (Or.inl ⟨by rfl, ?_⟩) ?_ ?_
  rotate_left
  · intro w'
    go_simp
    with_reducible rfl
  rotate_left
  · simp only [Act.put, List.setIfInBounds_toArray, List.set_cons_zero, List.set_cons_succ, i64_w, i32_w]
    rfl
  refine pure_ (i := 7) (N := some 21) (v := ?_) (a' := ?_) #[true, true, true, true, false, true, true, true, false, false, false, false, false, false, false] rfl rfl (any_of HT_.out (by kernel_rfl)) (fun _ _ _ h => h) (Or.inl ⟨by rfl, ?_⟩) ?_ ?_
  rotate_left
  · intro w'
    go_simp
    with_reducible rfl
  rotate_left
  · simp only [Act.put, List.setIfInBounds_toArray, List.set_cons_zero, List.set_cons_succ, i64_w, i32_w]
    rfl
  refine take_ (i := 4) (N := some 18) (v := ?_) (a' := ?_) #[true, true, true, true, true, true, true, true, false, false, false, false, false, false, false] rfl rfl (take_ofW HT_.out HW_.out (by kernel_rfl)) (fun _ _ _ h => h) (Or.inl ⟨by rfl, ?_⟩) hHeld ?_ ?_
  rotate_left
  · rintro w' ⟨s0_, s1_, s2_, s3_, s4_, s5_, s6_, s7_, s8_⟩
    go_simp
    with_reducible rfl
  rotate_left
  · simp only [Act.put, List.setIfInBounds_toArray, List.set_cons_zero, List.set_cons_succ, i64_w, i32_w]
    rfl
  refine one_ (i := 8) (N := none) #[true, true, true, true, true, true, true, true, true, false, false, false, false, false, false] rfl rfl (one_of HT_.out (by kernel_rfl)) (by decide) (fun K hK => ?_)
  have yc4 := (HS.out.cell 1 rfl 4).trans (show (#[.int .i64 s.id, .int .i64 s.n, .int .i64 (wrap64 (s.op + 1)), .int .i64 s.ph, .bool s.put, .map row, .int .i64 s.best.f0, .int .i64 s.best.f1, .int .i64 s.best.f2, .int .i64 s.best.f3, .string s.best.f4, .int .i64 s.best.f5.f0, .int .i64 s.best.f5.f1, .string s.best.f6, vb, .int .i64 s.work.f0, .int .i64 s.work.f1, .int .i64 s.work.f2, .int .i64 s.work.f3, .string s.work.f4, .int .i64 s.work.f5.f0, .int .i64 s.work.f5.f1, .string s.work.f6, vw, .int .i64 s.en] : Array Value)[4]? = some (.bool s.put) from rfl)
  have fc4 := HS.out.fz 1 rfl 4
  refine skip_ (w1 := ?_) (by rfl) rfl ?_ ?_
  rotate_left
  · go_simp
    rfl
  have hs2_ : Ov w g row ((gb, .cells (#[.int .i64 m.f0, .int .i64 m.f1, .int .i64 m.f2, .int .i64 m.f3, .string m.f4, .int .i64 m.f5.f0, .int .i64 m.f5.f1, .string m.f6, .slice Am m.f7.length cm] : Array Value) 26 (0, 0)) :: (g, .cells (#[.int .i64 s.id, .int .i64 s.n, .int .i64 (wrap64 (s.op + 1)), .int .i64 s.ph, .bool pu, .map row, .int .i64 s.best.f0, .int .i64 s.best.f1, .int .i64 s.best.f2, .int .i64 s.best.f3, .string s.best.f4, .int .i64 s.best.f5.f0, .int .i64 s.best.f5.f1, .string s.best.f6, vb, .int .i64 s.work.f0, .int .i64 s.work.f1, .int .i64 s.work.f2, .int .i64 s.work.f3, .string s.work.f4, .int .i64 s.work.f5.f0, .int .i64 s.work.f5.f1, .string s.work.f6, vw, .int .i64 s.en] : Array Value) 70 (0, 0)) :: M) (World.setCell w3 ⟨g, 4, none⟩ (.bool pu)) := Ov.set HS.out 1 rfl 4 (.bool pu)
  refine (fun (h_ : ∀ w_, Ov w g row ((gb, .cells (#[.int .i64 m.f0, .int .i64 m.f1, .int .i64 m.f2, .int .i64 m.f3, .string m.f4, .int .i64 m.f5.f0, .int .i64 m.f5.f1, .string m.f6, .slice Am m.f7.length cm] : Array Value) 26 (0, 0)) :: (g, .cells (#[.int .i64 s.id, .int .i64 s.n, .int .i64 (wrap64 (s.op + 1)), .int .i64 s.ph, .bool pu, .map row, .int .i64 s.best.f0, .int .i64 s.best.f1, .int .i64 s.best.f2, .int .i64 s.best.f3, .string s.best.f4, .int .i64 s.best.f5.f0, .int .i64 s.best.f5.f1, .string s.best.f6, vb, .int .i64 s.work.f0, .int .i64 s.work.f1, .int .i64 s.work.f2, .int .i64 s.work.f3, .string s.work.f4, .int .i64 s.work.f5.f0, .int .i64 s.work.f5.f1, .string s.work.f6, vw, .int .i64 s.en] : Array Value) 70 (0, 0)) :: M) w_ → K _ w_) => h_ (World.setCell w3 ⟨g, 4, none⟩ (.bool pu)) hs2_) ?_
  clear HS hs2_  yc4 fc4
  intro w4 HS_
  have HS := Aside0.mk HS_
  clear HS_
  refine hK.out _ _ ⟨(HS.out.cell 0 rfl 0).trans rfl, (HS.out.cell 0 rfl 1).trans rfl, (HS.out.cell 0 rfl 2).trans rfl, (HS.out.cell 0 rfl 3).trans rfl, (HS.out.cell 0 rfl 4).trans rfl, (HS.out.cell 0 rfl 5).trans rfl, (HS.out.cell 0 rfl 6).trans rfl, (HS.out.cell 0 rfl 7).trans rfl, (HS.out.cell 0 rfl 8).trans rfl⟩ (fun hHeld => ?_)
  clear hK K
  refine pure_ (i := 9) (N := some 22) (v := ?_) (a' := ?_) #[true, true, true, true, true, true, true, true, true, true, false, false, false, false, false] rfl rfl (any_of HT_.out (by kernel_rfl)) (fun _ _ _ h => h) (Or.inl ⟨by rfl, ?_⟩) ?_ ?_
  rotate_left
  · intro w'
    go_simp
    with_reducible rfl
  rotate_left
  · simp only [Act.put, List.setIfInBounds_toArray, List.set_cons_zero, List.set_cons_succ, i64_w, i32_w]
    rfl
  refine pure_ (i := 10) (N := some 23) (v := ?_) (a' := ?_) #[true, true, true, true, true, true, true, true, true, true, true, false, false, false, false] rfl rfl (any_of HT_.out (by kernel_rfl)) (fun _ _ _ h => h) (Or.inl ⟨by rfl, ?_⟩) ?_ ?_
  rotate_left
  · intro w'
    go_simp
    with_reducible rfl
  rotate_left
  · simp only [Act.put, List.setIfInBounds_toArray, List.set_cons_zero, List.set_cons_succ, i64_w, i32_w]
    rfl
  refine one_ (i := 11) (N := none) #[true, true, true, true, true, true, true, true, true, true, true, true, false, false, false] rfl rfl (one_of HT_.out (by kernel_rfl)) (by decide) (fun K hK => ?_)
  have yc15 := (HS.out.cell 1 rfl 15).trans (show (#[.int .i64 s.id, .int .i64 s.n, .int .i64 (wrap64 (s.op + 1)), .int .i64 s.ph, .bool pu, .map row, .int .i64 s.best.f0, .int .i64 s.best.f1, .int .i64 s.best.f2, .int .i64 s.best.f3, .string s.best.f4, .int .i64 s.best.f5.f0, .int .i64 s.best.f5.f1, .string s.best.f6, vb, .int .i64 s.work.f0, .int .i64 s.work.f1, .int .i64 s.work.f2, .int .i64 s.work.f3, .string s.work.f4, .int .i64 s.work.f5.f0, .int .i64 s.work.f5.f1, .string s.work.f6, vw, .int .i64 s.en] : Array Value)[15]? = some (.int .i64 s.work.f0) from rfl)
  have fc15 := HS.out.fz 1 rfl 15
  have yc16 := (HS.out.cell 1 rfl 16).trans (show (#[.int .i64 s.id, .int .i64 s.n, .int .i64 (wrap64 (s.op + 1)), .int .i64 s.ph, .bool pu, .map row, .int .i64 s.best.f0, .int .i64 s.best.f1, .int .i64 s.best.f2, .int .i64 s.best.f3, .string s.best.f4, .int .i64 s.best.f5.f0, .int .i64 s.best.f5.f1, .string s.best.f6, vb, .int .i64 s.work.f0, .int .i64 s.work.f1, .int .i64 s.work.f2, .int .i64 s.work.f3, .string s.work.f4, .int .i64 s.work.f5.f0, .int .i64 s.work.f5.f1, .string s.work.f6, vw, .int .i64 s.en] : Array Value)[16]? = some (.int .i64 s.work.f1) from rfl)
  have fc16 := HS.out.fz 1 rfl 16
  have yc17 := (HS.out.cell 1 rfl 17).trans (show (#[.int .i64 s.id, .int .i64 s.n, .int .i64 (wrap64 (s.op + 1)), .int .i64 s.ph, .bool pu, .map row, .int .i64 s.best.f0, .int .i64 s.best.f1, .int .i64 s.best.f2, .int .i64 s.best.f3, .string s.best.f4, .int .i64 s.best.f5.f0, .int .i64 s.best.f5.f1, .string s.best.f6, vb, .int .i64 s.work.f0, .int .i64 s.work.f1, .int .i64 s.work.f2, .int .i64 s.work.f3, .string s.work.f4, .int .i64 s.work.f5.f0, .int .i64 s.work.f5.f1, .string s.work.f6, vw, .int .i64 s.en] : Array Value)[17]? = some (.int .i64 s.work.f2) from rfl)
  have fc17 := HS.out.fz 1 rfl 17
  have yc18 := (HS.out.cell 1 rfl 18).trans (show (#[.int .i64 s.id, .int .i64 s.n, .int .i64 (wrap64 (s.op + 1)), .int .i64 s.ph, .bool pu, .map row, .int .i64 s.best.f0, .int .i64 s.best.f1, .int .i64 s.best.f2, .int .i64 s.best.f3, .string s.best.f4, .int .i64 s.best.f5.f0, .int .i64 s.best.f5.f1, .string s.best.f6, vb, .int .i64 s.work.f0, .int .i64 s.work.f1, .int .i64 s.work.f2, .int .i64 s.work.f3, .string s.work.f4, .int .i64 s.work.f5.f0, .int .i64 s.work.f5.f1, .string s.work.f6, vw, .int .i64 s.en] : Array Value)[18]? = some (.int .i64 s.work.f3) from rfl)
  have fc18 := HS.out.fz 1 rfl 18
  have yc19 := (HS.out.cell 1 rfl 19).trans (show (#[.int .i64 s.id, .int .i64 s.n, .int .i64 (wrap64 (s.op + 1)), .int .i64 s.ph, .bool pu, .map row, .int .i64 s.best.f0, .int .i64 s.best.f1, .int .i64 s.best.f2, .int .i64 s.best.f3, .string s.best.f4, .int .i64 s.best.f5.f0, .int .i64 s.best.f5.f1, .string s.best.f6, vb, .int .i64 s.work.f0, .int .i64 s.work.f1, .int .i64 s.work.f2, .int .i64 s.work.f3, .string s.work.f4, .int .i64 s.work.f5.f0, .int .i64 s.work.f5.f1, .string s.work.f6, vw, .int .i64 s.en] : Array Value)[19]? = some (.string s.work.f4) from rfl)
  have fc19 := HS.out.fz 1 rfl 19
  have yc20 := (HS.out.cell 1 rfl 20).trans (show (#[.int .i64 s.id, .int .i64 s.n, .int .i64 (wrap64 (s.op + 1)), .int .i64 s.ph, .bool pu, .map row, .int .i64 s.best.f0, .int .i64 s.best.f1, .int .i64 s.best.f2, .int .i64 s.best.f3, .string s.best.f4, .int .i64 s.best.f5.f0, .int .i64 s.best.f5.f1, .string s.best.f6, vb, .int .i64 s.work.f0, .int .i64 s.work.f1, .int .i64 s.work.f2, .int .i64 s.work.f3, .string s.work.f4, .int .i64 s.work.f5.f0, .int .i64 s.work.f5.f1, .string s.work.f6, vw, .int .i64 s.en] : Array Value)[20]? = some (.int .i64 s.work.f5.f0) from rfl)
  have fc20 := HS.out.fz 1 rfl 20
  have yc21 := (HS.out.cell 1 rfl 21).trans (show (#[.int .i64 s.id, .int .i64 s.n, .int .i64 (wrap64 (s.op + 1)), .int .i64 s.ph, .bool pu, .map row, .int .i64 s.best.f0, .int .i64 s.best.f1, .int .i64 s.best.f2, .int .i64 s.best.f3, .string s.best.f4, .int .i64 s.best.f5.f0, .int .i64 s.best.f5.f1, .string s.best.f6, vb, .int .i64 s.work.f0, .int .i64 s.work.f1, .int .i64 s.work.f2, .int .i64 s.work.f3, .string s.work.f4, .int .i64 s.work.f5.f0, .int .i64 s.work.f5.f1, .string s.work.f6, vw, .int .i64 s.en] : Array Value)[21]? = some (.int .i64 s.work.f5.f1) from rfl)
  have fc21 := HS.out.fz 1 rfl 21
  have yc22 := (HS.out.cell 1 rfl 22).trans (show (#[.int .i64 s.id, .int .i64 s.n, .int .i64 (wrap64 (s.op + 1)), .int .i64 s.ph, .bool pu, .map row, .int .i64 s.best.f0, .int .i64 s.best.f1, .int .i64 s.best.f2, .int .i64 s.best.f3, .string s.best.f4, .int .i64 s.best.f5.f0, .int .i64 s.best.f5.f1, .string s.best.f6, vb, .int .i64 s.work.f0, .int .i64 s.work.f1, .int .i64 s.work.f2, .int .i64 s.work.f3, .string s.work.f4, .int .i64 s.work.f5.f0, .int .i64 s.work.f5.f1, .string s.work.f6, vw, .int .i64 s.en] : Array Value)[22]? = some (.string s.work.f6) from rfl)
  have fc22 := HS.out.fz 1 rfl 22
  have yc23 := (HS.out.cell 1 rfl 23).trans (show (#[.int .i64 s.id, .int .i64 s.n, .int .i64 (wrap64 (s.op + 1)), .int .i64 s.ph, .bool pu, .map row, .int .i64 s.best.f0, .int .i64 s.best.f1, .int .i64 s.best.f2, .int .i64 s.best.f3, .string s.best.f4, .int .i64 s.best.f5.f0, .int .i64 s.best.f5.f1, .string s.best.f6, vb, .int .i64 s.work.f0, .int .i64 s.work.f1, .int .i64 s.work.f2, .int .i64 s.work.f3, .string s.work.f4, .int .i64 s.work.f5.f0, .int .i64 s.work.f5.f1, .string s.work.f6, vw, .int .i64 s.en] : Array Value)[23]? = some (vw) from rfl)
  have fc23 := HS.out.fz 1 rfl 23
  refine skip_ (w1 := ?_) (by rfl) rfl ?_ ?_
  rotate_left
  · go_simp
    rfl
  have hs3_ : Ov w g row ((gb, .cells (#[.int .i64 m.f0, .int .i64 m.f1, .int .i64 m.f2, .int .i64 m.f3, .string m.f4, .int .i64 m.f5.f0, .int .i64 m.f5.f1, .string m.f6, .slice Am m.f7.length cm] : Array Value) 26 (0, 0)) :: (g, .cells (#[.int .i64 s.id, .int .i64 s.n, .int .i64 (wrap64 (s.op + 1)), .int .i64 s.ph, .bool pu, .map row, .int .i64 s.best.f0, .int .i64 s.best.f1, .int .i64 s.best.f2, .int .i64 s.best.f3, .string s.best.f4, .int .i64 s.best.f5.f0, .int .i64 s.best.f5.f1, .string s.best.f6, vb, .int .i64 m.f0, .int .i64 s.work.f1, .int .i64 s.work.f2, .int .i64 s.work.f3, .string s.work.f4, .int .i64 s.work.f5.f0, .int .i64 s.work.f5.f1, .string s.work.f6, vw, .int .i64 s.en] : Array Value) 70 (0, 0)) :: M) (World.setCell w4 ⟨g, 15, none⟩ (.int .i64 m.f0)) := Ov.set HS.out 1 rfl 15 (.int .i64 m.f0)
  have hs4_ : Ov w g row ((gb, .cells (#[.int .i64 m.f0, .int .i64 m.f1, .int .i64 m.f2, .int .i64 m.f3, .string m.f4, .int .i64 m.f5.f0, .int .i64 m.f5.f1, .string m.f6, .slice Am m.f7.length cm] : Array Value) 26 (0, 0)) :: (g, .cells (#[.int .i64 s.id, .int .i64 s.n, .int .i64 (wrap64 (s.op + 1)), .int .i64 s.ph, .bool pu, .map row, .int .i64 s.best.f0, .int .i64 s.best.f1, .int .i64 s.best.f2, .int .i64 s.best.f3, .string s.best.f4, .int .i64 s.best.f5.f0, .int .i64 s.best.f5.f1, .string s.best.f6, vb, .int .i64 m.f0, .int .i64 m.f1, .int .i64 s.work.f2, .int .i64 s.work.f3, .string s.work.f4, .int .i64 s.work.f5.f0, .int .i64 s.work.f5.f1, .string s.work.f6, vw, .int .i64 s.en] : Array Value) 70 (0, 0)) :: M) (World.setCell (World.setCell w4 ⟨g, 15, none⟩ (.int .i64 m.f0)) ⟨g, 16, none⟩ (.int .i64 m.f1)) := Ov.set hs3_ 1 rfl 16 (.int .i64 m.f1)
  have hs5_ : Ov w g row ((gb, .cells (#[.int .i64 m.f0, .int .i64 m.f1, .int .i64 m.f2, .int .i64 m.f3, .string m.f4, .int .i64 m.f5.f0, .int .i64 m.f5.f1, .string m.f6, .slice Am m.f7.length cm] : Array Value) 26 (0, 0)) :: (g, .cells (#[.int .i64 s.id, .int .i64 s.n, .int .i64 (wrap64 (s.op + 1)), .int .i64 s.ph, .bool pu, .map row, .int .i64 s.best.f0, .int .i64 s.best.f1, .int .i64 s.best.f2, .int .i64 s.best.f3, .string s.best.f4, .int .i64 s.best.f5.f0, .int .i64 s.best.f5.f1, .string s.best.f6, vb, .int .i64 m.f0, .int .i64 m.f1, .int .i64 m.f2, .int .i64 s.work.f3, .string s.work.f4, .int .i64 s.work.f5.f0, .int .i64 s.work.f5.f1, .string s.work.f6, vw, .int .i64 s.en] : Array Value) 70 (0, 0)) :: M) (World.setCell (World.setCell (World.setCell w4 ⟨g, 15, none⟩ (.int .i64 m.f0)) ⟨g, 16, none⟩ (.int .i64 m.f1)) ⟨g, 17, none⟩ (.int .i64 m.f2)) := Ov.set hs4_ 1 rfl 17 (.int .i64 m.f2)
  have hs6_ : Ov w g row ((gb, .cells (#[.int .i64 m.f0, .int .i64 m.f1, .int .i64 m.f2, .int .i64 m.f3, .string m.f4, .int .i64 m.f5.f0, .int .i64 m.f5.f1, .string m.f6, .slice Am m.f7.length cm] : Array Value) 26 (0, 0)) :: (g, .cells (#[.int .i64 s.id, .int .i64 s.n, .int .i64 (wrap64 (s.op + 1)), .int .i64 s.ph, .bool pu, .map row, .int .i64 s.best.f0, .int .i64 s.best.f1, .int .i64 s.best.f2, .int .i64 s.best.f3, .string s.best.f4, .int .i64 s.best.f5.f0, .int .i64 s.best.f5.f1, .string s.best.f6, vb, .int .i64 m.f0, .int .i64 m.f1, .int .i64 m.f2, .int .i64 m.f3, .string s.work.f4, .int .i64 s.work.f5.f0, .int .i64 s.work.f5.f1, .string s.work.f6, vw, .int .i64 s.en] : Array Value) 70 (0, 0)) :: M) (World.setCell (World.setCell (World.setCell (World.setCell w4 ⟨g, 15, none⟩ (.int .i64 m.f0)) ⟨g, 16, none⟩ (.int .i64 m.f1)) ⟨g, 17, none⟩ (.int .i64 m.f2)) ⟨g, 18, none⟩ (.int .i64 m.f3)) := Ov.set hs5_ 1 rfl 18 (.int .i64 m.f3)
  have hs7_ : Ov w g row ((gb, .cells (#[.int .i64 m.f0, .int .i64 m.f1, .int .i64 m.f2, .int .i64 m.f3, .string m.f4, .int .i64 m.f5.f0, .int .i64 m.f5.f1, .string m.f6, .slice Am m.f7.length cm] : Array Value) 26 (0, 0)) :: (g, .cells (#[.int .i64 s.id, .int .i64 s.n, .int .i64 (wrap64 (s.op + 1)), .int .i64 s.ph, .bool pu, .map row, .int .i64 s.best.f0, .int .i64 s.best.f1, .int .i64 s.best.f2, .int .i64 s.best.f3, .string s.best.f4, .int .i64 s.best.f5.f0, .int .i64 s.best.f5.f1, .string s.best.f6, vb, .int .i64 m.f0, .int .i64 m.f1, .int .i64 m.f2, .int .i64 m.f3, .string m.f4, .int .i64 s.work.f5.f0, .int .i64 s.work.f5.f1, .string s.work.f6, vw, .int .i64 s.en] : Array Value) 70 (0, 0)) :: M) (World.setCell (World.setCell (World.setCell (World.setCell (World.setCell w4 ⟨g, 15, none⟩ (.int .i64 m.f0)) ⟨g, 16, none⟩ (.int .i64 m.f1)) ⟨g, 17, none⟩ (.int .i64 m.f2)) ⟨g, 18, none⟩ (.int .i64 m.f3)) ⟨g, 19, none⟩ (.string m.f4)) := Ov.set hs6_ 1 rfl 19 (.string m.f4)
  have hs8_ : Ov w g row ((gb, .cells (#[.int .i64 m.f0, .int .i64 m.f1, .int .i64 m.f2, .int .i64 m.f3, .string m.f4, .int .i64 m.f5.f0, .int .i64 m.f5.f1, .string m.f6, .slice Am m.f7.length cm] : Array Value) 26 (0, 0)) :: (g, .cells (#[.int .i64 s.id, .int .i64 s.n, .int .i64 (wrap64 (s.op + 1)), .int .i64 s.ph, .bool pu, .map row, .int .i64 s.best.f0, .int .i64 s.best.f1, .int .i64 s.best.f2, .int .i64 s.best.f3, .string s.best.f4, .int .i64 s.best.f5.f0, .int .i64 s.best.f5.f1, .string s.best.f6, vb, .int .i64 m.f0, .int .i64 m.f1, .int .i64 m.f2, .int .i64 m.f3, .string m.f4, .int .i64 m.f5.f0, .int .i64 s.work.f5.f1, .string s.work.f6, vw, .int .i64 s.en] : Array Value) 70 (0, 0)) :: M) (World.setCell (World.setCell (World.setCell (World.setCell (World.setCell (World.setCell w4 ⟨g, 15, none⟩ (.int .i64 m.f0)) ⟨g, 16, none⟩ (.int .i64 m.f1)) ⟨g, 17, none⟩ (.int .i64 m.f2)) ⟨g, 18, none⟩ (.int .i64 m.f3)) ⟨g, 19, none⟩ (.string m.f4)) ⟨g, 20, none⟩ (.int .i64 m.f5.f0)) := Ov.set hs7_ 1 rfl 20 (.int .i64 m.f5.f0)
  have hs9_ : Ov w g row ((gb, .cells (#[.int .i64 m.f0, .int .i64 m.f1, .int .i64 m.f2, .int .i64 m.f3, .string m.f4, .int .i64 m.f5.f0, .int .i64 m.f5.f1, .string m.f6, .slice Am m.f7.length cm] : Array Value) 26 (0, 0)) :: (g, .cells (#[.int .i64 s.id, .int .i64 s.n, .int .i64 (wrap64 (s.op + 1)), .int .i64 s.ph, .bool pu, .map row, .int .i64 s.best.f0, .int .i64 s.best.f1, .int .i64 s.best.f2, .int .i64 s.best.f3, .string s.best.f4, .int .i64 s.best.f5.f0, .int .i64 s.best.f5.f1, .string s.best.f6, vb, .int .i64 m.f0, .int .i64 m.f1, .int .i64 m.f2, .int .i64 m.f3, .string m.f4, .int .i64 m.f5.f0, .int .i64 m.f5.f1, .string s.work.f6, vw, .int .i64 s.en] : Array Value) 70 (0, 0)) :: M) (World.setCell (World.setCell (World.setCell (World.setCell (World.setCell (World.setCell (World.setCell w4 ⟨g, 15, none⟩ (.int .i64 m.f0)) ⟨g, 16, none⟩ (.int .i64 m.f1)) ⟨g, 17, none⟩ (.int .i64 m.f2)) ⟨g, 18, none⟩ (.int .i64 m.f3)) ⟨g, 19, none⟩ (.string m.f4)) ⟨g, 20, none⟩ (.int .i64 m.f5.f0)) ⟨g, 21, none⟩ (.int .i64 m.f5.f1)) := Ov.set hs8_ 1 rfl 21 (.int .i64 m.f5.f1)
  have hs10_ : Ov w g row ((gb, .cells (#[.int .i64 m.f0, .int .i64 m.f1, .int .i64 m.f2, .int .i64 m.f3, .string m.f4, .int .i64 m.f5.f0, .int .i64 m.f5.f1, .string m.f6, .slice Am m.f7.length cm] : Array Value) 26 (0, 0)) :: (g, .cells (#[.int .i64 s.id, .int .i64 s.n, .int .i64 (wrap64 (s.op + 1)), .int .i64 s.ph, .bool pu, .map row, .int .i64 s.best.f0, .int .i64 s.best.f1, .int .i64 s.best.f2, .int .i64 s.best.f3, .string s.best.f4, .int .i64 s.best.f5.f0, .int .i64 s.best.f5.f1, .string s.best.f6, vb, .int .i64 m.f0, .int .i64 m.f1, .int .i64 m.f2, .int .i64 m.f3, .string m.f4, .int .i64 m.f5.f0, .int .i64 m.f5.f1, .string m.f6, vw, .int .i64 s.en] : Array Value) 70 (0, 0)) :: M) (World.setCell (World.setCell (World.setCell (World.setCell (World.setCell (World.setCell (World.setCell (World.setCell w4 ⟨g, 15, none⟩ (.int .i64 m.f0)) ⟨g, 16, none⟩ (.int .i64 m.f1)) ⟨g, 17, none⟩ (.int .i64 m.f2)) ⟨g, 18, none⟩ (.int .i64 m.f3)) ⟨g, 19, none⟩ (.string m.f4)) ⟨g, 20, none⟩ (.int .i64 m.f5.f0)) ⟨g, 21, none⟩ (.int .i64 m.f5.f1)) ⟨g, 22, none⟩ (.string m.f6)) := Ov.set hs9_ 1 rfl 22 (.string m.f6)
  have hs11_ : Ov w g row ((gb, .cells (#[.int .i64 m.f0, .int .i64 m.f1, .int .i64 m.f2, .int .i64 m.f3, .string m.f4, .int .i64 m.f5.f0, .int .i64 m.f5.f1, .string m.f6, .slice Am m.f7.length cm] : Array Value) 26 (0, 0)) :: (g, .cells (#[.int .i64 s.id, .int .i64 s.n, .int .i64 (wrap64 (s.op + 1)), .int .i64 s.ph, .bool pu, .map row, .int .i64 s.best.f0, .int .i64 s.best.f1, .int .i64 s.best.f2, .int .i64 s.best.f3, .string s.best.f4, .int .i64 s.best.f5.f0, .int .i64 s.best.f5.f1, .string s.best.f6, vb, .int .i64 m.f0, .int .i64 m.f1, .int .i64 m.f2, .int .i64 m.f3, .string m.f4, .int .i64 m.f5.f0, .int .i64 m.f5.f1, .string m.f6, .slice Am m.f7.length cm, .int .i64 s.en] : Array Value) 70 (0, 0)) :: M) (World.setCell (World.setCell (World.setCell (World.setCell (World.setCell (World.setCell (World.setCell (World.setCell (World.setCell w4 ⟨g, 15, none⟩ (.int .i64 m.f0)) ⟨g, 16, none⟩ (.int .i64 m.f1)) ⟨g, 17, none⟩ (.int .i64 m.f2)) ⟨g, 18, none⟩ (.int .i64 m.f3)) ⟨g, 19, none⟩ (.string m.f4)) ⟨g, 20, none⟩ (.int .i64 m.f5.f0)) ⟨g, 21, none⟩ (.int .i64 m.f5.f1)) ⟨g, 22, none⟩ (.string m.f6)) ⟨g, 23, none⟩ (.slice Am m.f7.length cm)) := Ov.set hs10_ 1 rfl 23 (.slice Am m.f7.length cm)
  refine (fun (h_ : ∀ w_, Ov w g row ((gb, .cells (#[.int .i64 m.f0, .int .i64 m.f1, .int .i64 m.f2, .int .i64 m.f3, .string m.f4, .int .i64 m.f5.f0, .int .i64 m.f5.f1, .string m.f6, .slice Am m.f7.length cm] : Array Value) 26 (0, 0)) :: (g, .cells (#[.int .i64 s.id, .int .i64 s.n, .int .i64 (wrap64 (s.op + 1)), .int .i64 s.ph, .bool pu, .map row, .int .i64 s.best.f0, .int .i64 s.best.f1, .int .i64 s.best.f2, .int .i64 s.best.f3, .string s.best.f4, .int .i64 s.best.f5.f0, .int .i64 s.best.f5.f1, .string s.best.f6, vb, .int .i64 m.f0, .int .i64 m.f1, .int .i64 m.f2, .int .i64 m.f3, .string m.f4, .int .i64 m.f5.f0, .int .i64 m.f5.f1, .string m.f6, .slice Am m.f7.length cm, .int .i64 s.en] : Array Value) 70 (0, 0)) :: M) w_ → K _ w_) => h_ (World.setCell (World.setCell (World.setCell (World.setCell (World.setCell (World.setCell (World.setCell (World.setCell (World.setCell w4 ⟨g, 15, none⟩ (.int .i64 m.f0)) ⟨g, 16, none⟩ (.int .i64 m.f1)) ⟨g, 17, none⟩ (.int .i64 m.f2)) ⟨g, 18, none⟩ (.int .i64 m.f3)) ⟨g, 19, none⟩ (.string m.f4)) ⟨g, 20, none⟩ (.int .i64 m.f5.f0)) ⟨g, 21, none⟩ (.int .i64 m.f5.f1)) ⟨g, 22, none⟩ (.string m.f6)) ⟨g, 23, none⟩ (.slice Am m.f7.length cm)) hs11_) ?_
  clear HS hs3_ hs4_ hs5_ hs6_ hs7_ hs8_ hs9_ hs10_ hs11_  yc15 fc15 yc16 fc16 yc17 fc17 yc18 fc18 yc19 fc19 yc20 fc20 yc21 fc21 yc22 fc22 yc23 fc23
  intro w5 HS_
  have HS := Aside0.mk HS_
  clear HS_
  refine hK.out _ _ ⟨(HS.out.cell 0 rfl 0).trans rfl, (HS.out.cell 0 rfl 1).trans rfl, (HS.out.cell 0 rfl 2).trans rfl, (HS.out.cell 0 rfl 3).trans rfl, (HS.out.cell 0 rfl 4).trans rfl, (HS.out.cell 0 rfl 5).trans rfl, (HS.out.cell 0 rfl 6).trans rfl, (HS.out.cell 0 rfl 7).trans rfl, (HS.out.cell 0 rfl 8).trans rfl⟩ (fun hHeld => ?_)
  clear hK K
  refine pure_ (i := 12) (N := some 24) (v := ?_) (a' := ?_) #[true, true, true, true, true, true, true, true, true, true, true, true, true, false, false] rfl rfl (any_of HT_.out (by kernel_rfl)) (fun _ _ _ h => h) (Or.inl ⟨by rfl, ?_⟩) ?_ ?_
  rotate_left
  · intro w'
    go_simp
    with_reducible rfl
  rotate_left
  · simp only [Act.put, List.setIfInBounds_toArray, List.set_cons_zero, List.set_cons_succ, i64_w, i32_w]
    rfl
  refine pure_ (i := 13) (N := some 25) (v := ?_) (a' := ?_) #[true, true, true, true, true, true, true, true, true, true, true, true, true, true, false] rfl rfl (any_of HT_.out (by kernel_rfl)) (fun _ _ _ h => h) (Or.inl ⟨by rfl, ?_⟩) ?_ ?_
  rotate_left
  · intro w'
    go_simp
    with_reducible rfl
  rotate_left
  · simp only [Act.put, List.setIfInBounds_toArray, List.set_cons_zero, List.set_cons_succ, i64_w, i32_w]
    rfl
  refine one_ (i := 14) (N := none) #[true, true, true, true, true, true, true, true, true, true, true, true, true, true, true] rfl rfl (one_of HT_.out (by kernel_rfl)) (by decide) (fun K hK => ?_)
  have yc6 := (HS.out.cell 1 rfl 6).trans (show (#[.int .i64 s.id, .int .i64 s.n, .int .i64 (wrap64 (s.op + 1)), .int .i64 s.ph, .bool pu, .map row, .int .i64 s.best.f0, .int .i64 s.best.f1, .int .i64 s.best.f2, .int .i64 s.best.f3, .string s.best.f4, .int .i64 s.best.f5.f0, .int .i64 s.best.f5.f1, .string s.best.f6, vb, .int .i64 m.f0, .int .i64 m.f1, .int .i64 m.f2, .int .i64 m.f3, .string m.f4, .int .i64 m.f5.f0, .int .i64 m.f5.f1, .string m.f6, .slice Am m.f7.length cm, .int .i64 s.en] : Array Value)[6]? = some (.int .i64 s.best.f0) from rfl)
  have fc6 := HS.out.fz 1 rfl 6
  have yc7 := (HS.out.cell 1 rfl 7).trans (show (#[.int .i64 s.id, .int .i64 s.n, .int .i64 (wrap64 (s.op + 1)), .int .i64 s.ph, .bool pu, .map row, .int .i64 s.best.f0, .int .i64 s.best.f1, .int .i64 s.best.f2, .int .i64 s.best.f3, .string s.best.f4, .int .i64 s.best.f5.f0, .int .i64 s.best.f5.f1, .string s.best.f6, vb, .int .i64 m.f0, .int .i64 m.f1, .int .i64 m.f2, .int .i64 m.f3, .string m.f4, .int .i64 m.f5.f0, .int .i64 m.f5.f1, .string m.f6, .slice Am m.f7.length cm, .int .i64 s.en] : Array Value)[7]? = some (.int .i64 s.best.f1) from rfl)
  have fc7 := HS.out.fz 1 rfl 7
  have yc8 := (HS.out.cell 1 rfl 8).trans (show (#[.int .i64 s.id, .int .i64 s.n, .int .i64 (wrap64 (s.op + 1)), .int .i64 s.ph, .bool pu, .map row, .int .i64 s.best.f0, .int .i64 s.best.f1, .int .i64 s.best.f2, .int .i64 s.best.f3, .string s.best.f4, .int .i64 s.best.f5.f0, .int .i64 s.best.f5.f1, .string s.best.f6, vb, .int .i64 m.f0, .int .i64 m.f1, .int .i64 m.f2, .int .i64 m.f3, .string m.f4, .int .i64 m.f5.f0, .int .i64 m.f5.f1, .string m.f6, .slice Am m.f7.length cm, .int .i64 s.en] : Array Value)[8]? = some (.int .i64 s.best.f2) from rfl)
  have fc8 := HS.out.fz 1 rfl 8
  have yc9 := (HS.out.cell 1 rfl 9).trans (show (#[.int .i64 s.id, .int .i64 s.n, .int .i64 (wrap64 (s.op + 1)), .int .i64 s.ph, .bool pu, .map row, .int .i64 s.best.f0, .int .i64 s.best.f1, .int .i64 s.best.f2, .int .i64 s.best.f3, .string s.best.f4, .int .i64 s.best.f5.f0, .int .i64 s.best.f5.f1, .string s.best.f6, vb, .int .i64 m.f0, .int .i64 m.f1, .int .i64 m.f2, .int .i64 m.f3, .string m.f4, .int .i64 m.f5.f0, .int .i64 m.f5.f1, .string m.f6, .slice Am m.f7.length cm, .int .i64 s.en] : Array Value)[9]? = some (.int .i64 s.best.f3) from rfl)
  have fc9 := HS.out.fz 1 rfl 9
  have yc10 := (HS.out.cell 1 rfl 10).trans (show (#[.int .i64 s.id, .int .i64 s.n, .int .i64 (wrap64 (s.op + 1)), .int .i64 s.ph, .bool pu, .map row, .int .i64 s.best.f0, .int .i64 s.best.f1, .int .i64 s.best.f2, .int .i64 s.best.f3, .string s.best.f4, .int .i64 s.best.f5.f0, .int .i64 s.best.f5.f1, .string s.best.f6, vb, .int .i64 m.f0, .int .i64 m.f1, .int .i64 m.f2, .int .i64 m.f3, .string m.f4, .int .i64 m.f5.f0, .int .i64 m.f5.f1, .string m.f6, .slice Am m.f7.length cm, .int .i64 s.en] : Array Value)[10]? = some (.string s.best.f4) from rfl)
  have fc10 := HS.out.fz 1 rfl 10
  have yc11 := (HS.out.cell 1 rfl 11).trans (show (#[.int .i64 s.id, .int .i64 s.n, .int .i64 (wrap64 (s.op + 1)), .int .i64 s.ph, .bool pu, .map row, .int .i64 s.best.f0, .int .i64 s.best.f1, .int .i64 s.best.f2, .int .i64 s.best.f3, .string s.best.f4, .int .i64 s.best.f5.f0, .int .i64 s.best.f5.f1, .string s.best.f6, vb, .int .i64 m.f0, .int .i64 m.f1, .int .i64 m.f2, .int .i64 m.f3, .string m.f4, .int .i64 m.f5.f0, .int .i64 m.f5.f1, .string m.f6, .slice Am m.f7.length cm, .int .i64 s.en] : Array Value)[11]? = some (.int .i64 s.best.f5.f0) from rfl)
  have fc11 := HS.out.fz 1 rfl 11
  have yc12 := (HS.out.cell 1 rfl 12).trans (show (#[.int .i64 s.id, .int .i64 s.n, .int .i64 (wrap64 (s.op + 1)), .int .i64 s.ph, .bool pu, .map row, .int .i64 s.best.f0, .int .i64 s.best.f1, .int .i64 s.best.f2, .int .i64 s.best.f3, .string s.best.f4, .int .i64 s.best.f5.f0, .int .i64 s.best.f5.f1, .string s.best.f6, vb, .int .i64 m.f0, .int .i64 m.f1, .int .i64 m.f2, .int .i64 m.f3, .string m.f4, .int .i64 m.f5.f0, .int .i64 m.f5.f1, .string m.f6, .slice Am m.f7.length cm, .int .i64 s.en] : Array Value)[12]? = some (.int .i64 s.best.f5.f1) from rfl)
  have fc12 := HS.out.fz 1 rfl 12
  have yc13 := (HS.out.cell 1 rfl 13).trans (show (#[.int .i64 s.id, .int .i64 s.n, .int .i64 (wrap64 (s.op + 1)), .int .i64 s.ph, .bool pu, .map row, .int .i64 s.best.f0, .int .i64 s.best.f1, .int .i64 s.best.f2, .int .i64 s.best.f3, .string s.best.f4, .int .i64 s.best.f5.f0, .int .i64 s.best.f5.f1, .string s.best.f6, vb, .int .i64 m.f0, .int .i64 m.f1, .int .i64 m.f2, .int .i64 m.f3, .string m.f4, .int .i64 m.f5.f0, .int .i64 m.f5.f1, .string m.f6, .slice Am m.f7.length cm, .int .i64 s.en] : Array Value)[13]? = some (.string s.best.f6) from rfl)
  have fc13 := HS.out.fz 1 rfl 13
  have yc14 := (HS.out.cell 1 rfl 14).trans (show (#[.int .i64 s.id, .int .i64 s.n, .int .i64 (wrap64 (s.op + 1)), .int .i64 s.ph, .bool pu, .map row, .int .i64 s.best.f0, .int .i64 s.best.f1, .int .i64 s.best.f2, .int .i64 s.best.f3, .string s.best.f4, .int .i64 s.best.f5.f0, .int .i64 s.best.f5.f1, .string s.best.f6, vb, .int .i64 m.f0, .int .i64 m.f1, .int .i64 m.f2, .int .i64 m.f3, .string m.f4, .int .i64 m.f5.f0, .int .i64 m.f5.f1, .string m.f6, .slice Am m.f7.length cm, .int .i64 s.en] : Array Value)[14]? = some (vb) from rfl)
  have fc14 := HS.out.fz 1 rfl 14
  refine skip_ (w1 := ?_) (by rfl) rfl ?_ ?_
  rotate_left
  · go_simp
    rfl
  have hs12_ : Ov w g row ((gb, .cells (#[.int .i64 m.f0, .int .i64 m.f1, .int .i64 m.f2, .int .i64 m.f3, .string m.f4, .int .i64 m.f5.f0, .int .i64 m.f5.f1, .string m.f6, .slice Am m.f7.length cm] : Array Value) 26 (0, 0)) :: (g, .cells (#[.int .i64 s.id, .int .i64 s.n, .int .i64 (wrap64 (s.op + 1)), .int .i64 s.ph, .bool pu, .map row, .int .i64 m0.f0, .int .i64 s.best.f1, .int .i64 s.best.f2, .int .i64 s.best.f3, .string s.best.f4, .int .i64 s.best.f5.f0, .int .i64 s.best.f5.f1, .string s.best.f6, vb, .int .i64 m.f0, .int .i64 m.f1, .int .i64 m.f2, .int .i64 m.f3, .string m.f4, .int .i64 m.f5.f0, .int .i64 m.f5.f1, .string m.f6, .slice Am m.f7.length cm, .int .i64 s.en] : Array Value) 70 (0, 0)) :: M) (World.setCell w5 ⟨g, 6, none⟩ (.int .i64 m0.f0)) := Ov.set HS.out 1 rfl 6 (.int .i64 m0.f0)
  have hs13_ : Ov w g row ((gb, .cells (#[.int .i64 m.f0, .int .i64 m.f1, .int .i64 m.f2, .int .i64 m.f3, .string m.f4, .int .i64 m.f5.f0, .int .i64 m.f5.f1, .string m.f6, .slice Am m.f7.length cm] : Array Value) 26 (0, 0)) :: (g, .cells (#[.int .i64 s.id, .int .i64 s.n, .int .i64 (wrap64 (s.op + 1)), .int .i64 s.ph, .bool pu, .map row, .int .i64 m0.f0, .int .i64 m0.f1, .int .i64 s.best.f2, .int .i64 s.best.f3, .string s.best.f4, .int .i64 s.best.f5.f0, .int .i64 s.best.f5.f1, .string s.best.f6, vb, .int .i64 m.f0, .int .i64 m.f1, .int .i64 m.f2, .int .i64 m.f3, .string m.f4, .int .i64 m.f5.f0, .int .i64 m.f5.f1, .string m.f6, .slice Am m.f7.length cm, .int .i64 s.en] : Array Value) 70 (0, 0)) :: M) (World.setCell (World.setCell w5 ⟨g, 6, none⟩ (.int .i64 m0.f0)) ⟨g, 7, none⟩ (.int .i64 m0.f1)) := Ov.set hs12_ 1 rfl 7 (.int .i64 m0.f1)
  have hs14_ : Ov w g row ((gb, .cells (#[.int .i64 m.f0, .int .i64 m.f1, .int .i64 m.f2, .int .i64 m.f3, .string m.f4, .int .i64 m.f5.f0, .int .i64 m.f5.f1, .string m.f6, .slice Am m.f7.length cm] : Array Value) 26 (0, 0)) :: (g, .cells (#[.int .i64 s.id, .int .i64 s.n, .int .i64 (wrap64 (s.op + 1)), .int .i64 s.ph, .bool pu, .map row, .int .i64 m0.f0, .int .i64 m0.f1, .int .i64 m0.f2, .int .i64 s.best.f3, .string s.best.f4, .int .i64 s.best.f5.f0, .int .i64 s.best.f5.f1, .string s.best.f6, vb, .int .i64 m.f0, .int .i64 m.f1, .int .i64 m.f2, .int .i64 m.f3, .string m.f4, .int .i64 m.f5.f0, .int .i64 m.f5.f1, .string m.f6, .slice Am m.f7.length cm, .int .i64 s.en] : Array Value) 70 (0, 0)) :: M) (World.setCell (World.setCell (World.setCell w5 ⟨g, 6, none⟩ (.int .i64 m0.f0)) ⟨g, 7, none⟩ (.int .i64 m0.f1)) ⟨g, 8, none⟩ (.int .i64 m0.f2)) := Ov.set hs13_ 1 rfl 8 (.int .i64 m0.f2)
  have hs15_ : Ov w g row ((gb, .cells (#[.int .i64 m.f0, .int .i64 m.f1, .int .i64 m.f2, .int .i64 m.f3, .string m.f4, .int .i64 m.f5.f0, .int .i64 m.f5.f1, .string m.f6, .slice Am m.f7.length cm] : Array Value) 26 (0, 0)) :: (g, .cells (#[.int .i64 s.id, .int .i64 s.n, .int .i64 (wrap64 (s.op + 1)), .int .i64 s.ph, .bool pu, .map row, .int .i64 m0.f0, .int .i64 m0.f1, .int .i64 m0.f2, .int .i64 m0.f3, .string s.best.f4, .int .i64 s.best.f5.f0, .int .i64 s.best.f5.f1, .string s.best.f6, vb, .int .i64 m.f0, .int .i64 m.f1, .int .i64 m.f2, .int .i64 m.f3, .string m.f4, .int .i64 m.f5.f0, .int .i64 m.f5.f1, .string m.f6, .slice Am m.f7.length cm, .int .i64 s.en] : Array Value) 70 (0, 0)) :: M) (World.setCell (World.setCell (World.setCell (World.setCell w5 ⟨g, 6, none⟩ (.int .i64 m0.f0)) ⟨g, 7, none⟩ (.int .i64 m0.f1)) ⟨g, 8, none⟩ (.int .i64 m0.f2)) ⟨g, 9, none⟩ (.int .i64 m0.f3)) := Ov.set hs14_ 1 rfl 9 (.int .i64 m0.f3)
  have hs16_ : Ov w g row ((gb, .cells (#[.int .i64 m.f0, .int .i64 m.f1, .int .i64 m.f2, .int .i64 m.f3, .string m.f4, .int .i64 m.f5.f0, .int .i64 m.f5.f1, .string m.f6, .slice Am m.f7.length cm] : Array Value) 26 (0, 0)) :: (g, .cells (#[.int .i64 s.id, .int .i64 s.n, .int .i64 (wrap64 (s.op + 1)), .int .i64 s.ph, .bool pu, .map row, .int .i64 m0.f0, .int .i64 m0.f1, .int .i64 m0.f2, .int .i64 m0.f3, .string m0.f4, .int .i64 s.best.f5.f0, .int .i64 s.best.f5.f1, .string s.best.f6, vb, .int .i64 m.f0, .int .i64 m.f1, .int .i64 m.f2, .int .i64 m.f3, .string m.f4, .int .i64 m.f5.f0, .int .i64 m.f5.f1, .string m.f6, .slice Am m.f7.length cm, .int .i64 s.en] : Array Value) 70 (0, 0)) :: M) (World.setCell (World.setCell (World.setCell (World.setCell (World.setCell w5 ⟨g, 6, none⟩ (.int .i64 m0.f0)) ⟨g, 7, none⟩ (.int .i64 m0.f1)) ⟨g, 8, none⟩ (.int .i64 m0.f2)) ⟨g, 9, none⟩ (.int .i64 m0.f3)) ⟨g, 10, none⟩ (.string m0.f4)) := Ov.set hs15_ 1 rfl 10 (.string m0.f4)
  have hs17_ : Ov w g row ((gb, .cells (#[.int .i64 m.f0, .int .i64 m.f1, .int .i64 m.f2, .int .i64 m.f3, .string m.f4, .int .i64 m.f5.f0, .int .i64 m.f5.f1, .string m.f6, .slice Am m.f7.length cm] : Array Value) 26 (0, 0)) :: (g, .cells (#[.int .i64 s.id, .int .i64 s.n, .int .i64 (wrap64 (s.op + 1)), .int .i64 s.ph, .bool pu, .map row, .int .i64 m0.f0, .int .i64 m0.f1, .int .i64 m0.f2, .int .i64 m0.f3, .string m0.f4, .int .i64 m0.f5.f0, .int .i64 s.best.f5.f1, .string s.best.f6, vb, .int .i64 m.f0, .int .i64 m.f1, .int .i64 m.f2, .int .i64 m.f3, .string m.f4, .int .i64 m.f5.f0, .int .i64 m.f5.f1, .string m.f6, .slice Am m.f7.length cm, .int .i64 s.en] : Array Value) 70 (0, 0)) :: M) (World.setCell (World.setCell (World.setCell (World.setCell (World.setCell (World.setCell w5 ⟨g, 6, none⟩ (.int .i64 m0.f0)) ⟨g, 7, none⟩ (.int .i64 m0.f1)) ⟨g, 8, none⟩ (.int .i64 m0.f2)) ⟨g, 9, none⟩ (.int .i64 m0.f3)) ⟨g, 10, none⟩ (.string m0.f4)) ⟨g, 11, none⟩ (.int .i64 m0.f5.f0)) := Ov.set hs16_ 1 rfl 11 (.int .i64 m0.f5.f0)
  have hs18_ : Ov w g row ((gb, .cells (#[.int .i64 m.f0, .int .i64 m.f1, .int .i64 m.f2, .int .i64 m.f3, .string m.f4, .int .i64 m.f5.f0, .int .i64 m.f5.f1, .string m.f6, .slice Am m.f7.length cm] : Array Value) 26 (0, 0)) :: (g, .cells (#[.int .i64 s.id, .int .i64 s.n, .int .i64 (wrap64 (s.op + 1)), .int .i64 s.ph, .bool pu, .map row, .int .i64 m0.f0, .int .i64 m0.f1, .int .i64 m0.f2, .int .i64 m0.f3, .string m0.f4, .int .i64 m0.f5.f0, .int .i64 m0.f5.f1, .string s.best.f6, vb, .int .i64 m.f0, .int .i64 m.f1, .int .i64 m.f2, .int .i64 m.f3, .string m.f4, .int .i64 m.f5.f0, .int .i64 m.f5.f1, .string m.f6, .slice Am m.f7.length cm, .int .i64 s.en] : Array Value) 70 (0, 0)) :: M) (World.setCell (World.setCell (World.setCell (World.setCell (World.setCell (World.setCell (World.setCell w5 ⟨g, 6, none⟩ (.int .i64 m0.f0)) ⟨g, 7, none⟩ (.int .i64 m0.f1)) ⟨g, 8, none⟩ (.int .i64 m0.f2)) ⟨g, 9, none⟩ (.int .i64 m0.f3)) ⟨g, 10, none⟩ (.string m0.f4)) ⟨g, 11, none⟩ (.int .i64 m0.f5.f0)) ⟨g, 12, none⟩ (.int .i64 m0.f5.f1)) := Ov.set hs17_ 1 rfl 12 (.int .i64 m0.f5.f1)
  have hs19_ : Ov w g row ((gb, .cells (#[.int .i64 m.f0, .int .i64 m.f1, .int .i64 m.f2, .int .i64 m.f3, .string m.f4, .int .i64 m.f5.f0, .int .i64 m.f5.f1, .string m.f6, .slice Am m.f7.length cm] : Array Value) 26 (0, 0)) :: (g, .cells (#[.int .i64 s.id, .int .i64 s.n, .int .i64 (wrap64 (s.op + 1)), .int .i64 s.ph, .bool pu, .map row, .int .i64 m0.f0, .int .i64 m0.f1, .int .i64 m0.f2, .int .i64 m0.f3, .string m0.f4, .int .i64 m0.f5.f0, .int .i64 m0.f5.f1, .string m0.f6, vb, .int .i64 m.f0, .int .i64 m.f1, .int .i64 m.f2, .int .i64 m.f3, .string m.f4, .int .i64 m.f5.f0, .int .i64 m.f5.f1, .string m.f6, .slice Am m.f7.length cm, .int .i64 s.en] : Array Value) 70 (0, 0)) :: M) (World.setCell (World.setCell (World.setCell (World.setCell (World.setCell (World.setCell (World.setCell (World.setCell w5 ⟨g, 6, none⟩ (.int .i64 m0.f0)) ⟨g, 7, none⟩ (.int .i64 m0.f1)) ⟨g, 8, none⟩ (.int .i64 m0.f2)) ⟨g, 9, none⟩ (.int .i64 m0.f3)) ⟨g, 10, none⟩ (.string m0.f4)) ⟨g, 11, none⟩ (.int .i64 m0.f5.f0)) ⟨g, 12, none⟩ (.int .i64 m0.f5.f1)) ⟨g, 13, none⟩ (.string m0.f6)) := Ov.set hs18_ 1 rfl 13 (.string m0.f6)
  have hs20_ : Ov w g row ((gb, .cells (#[.int .i64 m.f0, .int .i64 m.f1, .int .i64 m.f2, .int .i64 m.f3, .string m.f4, .int .i64 m.f5.f0, .int .i64 m.f5.f1, .string m.f6, .slice Am m.f7.length cm] : Array Value) 26 (0, 0)) :: (g, .cells (#[.int .i64 s.id, .int .i64 s.n, .int .i64 (wrap64 (s.op + 1)), .int .i64 s.ph, .bool pu, .map row, .int .i64 m0.f0, .int .i64 m0.f1, .int .i64 m0.f2, .int .i64 m0.f3, .string m0.f4, .int .i64 m0.f5.f0, .int .i64 m0.f5.f1, .string m0.f6, .slice none 0 0, .int .i64 m.f0, .int .i64 m.f1, .int .i64 m.f2, .int .i64 m.f3, .string m.f4, .int .i64 m.f5.f0, .int .i64 m.f5.f1, .string m.f6, .slice Am m.f7.length cm, .int .i64 s.en] : Array Value) 70 (0, 0)) :: M) (World.setCell (World.setCell (World.setCell (World.setCell (World.setCell (World.setCell (World.setCell (World.setCell (World.setCell w5 ⟨g, 6, none⟩ (.int .i64 m0.f0)) ⟨g, 7, none⟩ (.int .i64 m0.f1)) ⟨g, 8, none⟩ (.int .i64 m0.f2)) ⟨g, 9, none⟩ (.int .i64 m0.f3)) ⟨g, 10, none⟩ (.string m0.f4)) ⟨g, 11, none⟩ (.int .i64 m0.f5.f0)) ⟨g, 12, none⟩ (.int .i64 m0.f5.f1)) ⟨g, 13, none⟩ (.string m0.f6)) ⟨g, 14, none⟩ (.slice none 0 0)) := Ov.set hs19_ 1 rfl 14 (.slice none 0 0)
  refine (fun (h_ : ∀ w_, Ov w g row ((gb, .cells (#[.int .i64 m.f0, .int .i64 m.f1, .int .i64 m.f2, .int .i64 m.f3, .string m.f4, .int .i64 m.f5.f0, .int .i64 m.f5.f1, .string m.f6, .slice Am m.f7.length cm] : Array Value) 26 (0, 0)) :: (g, .cells (#[.int .i64 s.id, .int .i64 s.n, .int .i64 (wrap64 (s.op + 1)), .int .i64 s.ph, .bool pu, .map row, .int .i64 m0.f0, .int .i64 m0.f1, .int .i64 m0.f2, .int .i64 m0.f3, .string m0.f4, .int .i64 m0.f5.f0, .int .i64 m0.f5.f1, .string m0.f6, .slice none 0 0, .int .i64 m.f0, .int .i64 m.f1, .int .i64 m.f2, .int .i64 m.f3, .string m.f4, .int .i64 m.f5.f0, .int .i64 m.f5.f1, .string m.f6, .slice Am m.f7.length cm, .int .i64 s.en] : Array Value) 70 (0, 0)) :: M) w_ → K _ w_) => h_ (World.setCell (World.setCell (World.setCell (World.setCell (World.setCell (World.setCell (World.setCell (World.setCell (World.setCell w5 ⟨g, 6, none⟩ (.int .i64 m0.f0)) ⟨g, 7, none⟩ (.int .i64 m0.f1)) ⟨g, 8, none⟩ (.int .i64 m0.f2)) ⟨g, 9, none⟩ (.int .i64 m0.f3)) ⟨g, 10, none⟩ (.string m0.f4)) ⟨g, 11, none⟩ (.int .i64 m0.f5.f0)) ⟨g, 12, none⟩ (.int .i64 m0.f5.f1)) ⟨g, 13, none⟩ (.string m0.f6)) ⟨g, 14, none⟩ (.slice none 0 0)) hs20_) ?_
  clear HS hs12_ hs13_ hs14_ hs15_ hs16_ hs17_ hs18_ hs19_ hs20_  yc6 fc6 yc7 fc7 yc8 fc8 yc9 fc9 yc10 fc10 yc11 fc11 yc12 fc12 yc13 fc13 yc14 fc14
  intro w6 HS_
  have HS := Aside0.mk HS_
  clear HS_
  refine hK.out _ _ ⟨(HS.out.cell 0 rfl 0).trans rfl, (HS.out.cell 0 rfl 1).trans rfl, (HS.out.cell 0 rfl 2).trans rfl, (HS.out.cell 0 rfl 3).trans rfl, (HS.out.cell 0 rfl 4).trans rfl, (HS.out.cell 0 rfl 5).trans rfl, (HS.out.cell 0 rfl 6).trans rfl, (HS.out.cell 0 rfl 7).trans rfl, (HS.out.cell 0 rfl 8).trans rfl⟩ (fun hHeld => ?_)
  clear hK K
  refine done_ (done_of HT_.out (by kernel_rfl)) ?_
  clear HT_ HW_ hHeld
  have HMm2 : Aside0 (HM w6 row H) := ⟨Ov.hm HS.out (fun p hp => List.mem_cons_of_mem _ (List.mem_cons_of_mem _ hp)) HCl.out⟩
  have HC2 : Aside0 (Cl g row ⟨s.id, s.n, wrap64 (s.op + 1), s.ph, pu, m0, m, s.en⟩ H w6) := ⟨Cl.shut (s' := ⟨s.id, s.n, wrap64 (s.op + 1), s.ph, pu, m0, m, s.en⟩) H1.out HMO.out HS.out 1 rfl HMm2.out (Kd.R_nil _ _ _ _ _) (R_fr HV.out H1.out HMO.out str_not HS.out.fr)⟩
  have HFr := Aside0.mk HS.out.fr
  go_wp2_with (go_at_call 53; (with_reducible refine (turn_calls g row ⟨s.id, s.n, wrap64 (s.op + 1), s.ph, pu, m0, m, s.en⟩ H 1 w6 HC2.out (.inl rfl) HN.out HL.out).mono ?_); rintro e w7 ⟨v, gm, rfl, hgm, hr, hc7, hf7⟩; have HR := Aside0.mk hr; have HC7 := Aside0.mk hc7; have HF7 := Aside0.mk hf7; have HGM := Aside0.mk hgm; clear hgm hr hc7 hf7)
  go_ret
  exact ⟨v, gm, rfl, Nat.le_trans HFr.out.2.2.2.1 HGM.out, Kd.R_lower HR.out HFr.out.2.2.2.1, HC7.out, HFr.out.trans HF7.out (.inl rfl)⟩
set_option maxHeartbeats 40000000 in
set_option maxRecDepth 100000 in
theorem ends_calls (g : Nat) (row : Option Nat) (s : CS) (H : List Int) (er : Int) (w : World) (hc : Cl g row s H w) : Calls Try.prog 52 #[.pointer (some ⟨g, 0, none⟩), .int .i64 er] w (PostB g row w { s with ph := 0, en := er } H [] true) := by
  obtain ⟨vb, vw, M, hs, hcl, h2, h3, h1, hmo, hM⟩ := hc.open
  have HS := Aside0.mk hs
  have HCl := Aside0.mk hcl
  have H2 := Aside0.mk h2
  have H3 := Aside0.mk h3
  have H1 := Aside0.mk h1
  have HMO := Aside0.mk hmo
  have HM_ := Aside0.mk hM
  clear hs hcl h2 h3 h1 hmo hM hc
  have yc3 := (HS.out.cell 0 rfl 3).trans (show (#[.int .i64 s.id, .int .i64 s.n, .int .i64 s.op, .int .i64 s.ph, .bool s.put, .map row, .int .i64 s.best.f0, .int .i64 s.best.f1, .int .i64 s.best.f2, .int .i64 s.best.f3, .string s.best.f4, .int .i64 s.best.f5.f0, .int .i64 s.best.f5.f1, .string s.best.f6, vb, .int .i64 s.work.f0, .int .i64 s.work.f1, .int .i64 s.work.f2, .int .i64 s.work.f3, .string s.work.f4, .int .i64 s.work.f5.f0, .int .i64 s.work.f5.f1, .string s.work.f6, vw, .int .i64 s.en] : Array Value)[3]? = some (.int .i64 s.ph) from rfl)
  have fc3 := HS.out.fz 0 rfl 3
  have yc24 := (HS.out.cell 0 rfl 24).trans (show (#[.int .i64 s.id, .int .i64 s.n, .int .i64 s.op, .int .i64 s.ph, .bool s.put, .map row, .int .i64 s.best.f0, .int .i64 s.best.f1, .int .i64 s.best.f2, .int .i64 s.best.f3, .string s.best.f4, .int .i64 s.best.f5.f0, .int .i64 s.best.f5.f1, .string s.best.f6, vb, .int .i64 s.work.f0, .int .i64 s.work.f1, .int .i64 s.work.f2, .int .i64 s.work.f3, .string s.work.f4, .int .i64 s.work.f5.f0, .int .i64 s.work.f5.f1, .string s.work.f6, vw, .int .i64 s.en] : Array Value)[24]? = some (.int .i64 s.en) from rfl)
  have fc24 := HS.out.fz 0 rfl 24
  go_enter Try.func52, Try.ntmps52
  go_wp2
  have hs1_ : Ov w g row ((g, .cells (#[.int .i64 s.id, .int .i64 s.n, .int .i64 s.op, .int .i64 0, .bool s.put, .map row, .int .i64 s.best.f0, .int .i64 s.best.f1, .int .i64 s.best.f2, .int .i64 s.best.f3, .string s.best.f4, .int .i64 s.best.f5.f0, .int .i64 s.best.f5.f1, .string s.best.f6, vb, .int .i64 s.work.f0, .int .i64 s.work.f1, .int .i64 s.work.f2, .int .i64 s.work.f3, .string s.work.f4, .int .i64 s.work.f5.f0, .int .i64 s.work.f5.f1, .string s.work.f6, vw, .int .i64 s.en] : Array Value) 70 (0, 0)) :: M) (World.setCell w ⟨g, 3, none⟩ (.int .i64 0)) := Ov.set HS.out 0 rfl 3 (.int .i64 0)
  have hs2_ : Ov w g row ((g, .cells (#[.int .i64 s.id, .int .i64 s.n, .int .i64 s.op, .int .i64 0, .bool s.put, .map row, .int .i64 s.best.f0, .int .i64 s.best.f1, .int .i64 s.best.f2, .int .i64 s.best.f3, .string s.best.f4, .int .i64 s.best.f5.f0, .int .i64 s.best.f5.f1, .string s.best.f6, vb, .int .i64 s.work.f0, .int .i64 s.work.f1, .int .i64 s.work.f2, .int .i64 s.work.f3, .string s.work.f4, .int .i64 s.work.f5.f0, .int .i64 s.work.f5.f1, .string s.work.f6, vw, .int .i64 er] : Array Value) 70 (0, 0)) :: M) (World.setCell (World.setCell w ⟨g, 3, none⟩ (.int .i64 0)) ⟨g, 24, none⟩ (.int .i64 er)) := Ov.set hs1_ 0 rfl 24 (.int .i64 er)
  refine (fun (h_ : ∀ w_, Ov w g row ((g, .cells (#[.int .i64 s.id, .int .i64 s.n, .int .i64 s.op, .int .i64 0, .bool s.put, .map row, .int .i64 s.best.f0, .int .i64 s.best.f1, .int .i64 s.best.f2, .int .i64 s.best.f3, .string s.best.f4, .int .i64 s.best.f5.f0, .int .i64 s.best.f5.f1, .string s.best.f6, vb, .int .i64 s.work.f0, .int .i64 s.work.f1, .int .i64 s.work.f2, .int .i64 s.work.f3, .string s.work.f4, .int .i64 s.work.f5.f0, .int .i64 s.work.f5.f1, .string s.work.f6, vw, .int .i64 er] : Array Value) 70 (0, 0)) :: M) w_ → bodyPost _ _ _ _ _ w_) => h_ (World.setCell (World.setCell w ⟨g, 3, none⟩ (.int .i64 0)) ⟨g, 24, none⟩ (.int .i64 er)) hs2_) ?_
  clear HS hs1_ hs2_  yc3 fc3 yc24 fc24
  intro w2 HS_
  have HS := Aside0.mk HS_
  clear HS_
  have HMm2 : Aside0 (HM w2 row H) := ⟨Ov.hm HS.out (fun p hp => List.mem_cons_of_mem _ hp) HCl.out⟩
  go_ret2
  exact ⟨_, row, rfl, Kd.R_nil _ _ _ _ _, Cl.shut (s' := { s with ph := 0, en := er }) H1.out HMO.out HS.out 0 rfl HMm2.out (R_fr H2.out H1.out HMO.out str_not HS.out.fr) (R_fr H3.out H1.out HMO.out str_not HS.out.fr), HS.out.fr, .inl rfl⟩
set_option maxHeartbeats 40000000 in
set_option maxRecDepth 100000 in
theorem most_calls (g gm : Nat) (s : CS) (H : List Int) (b : Bool) (w : World) (hc : Cl g (some gm) s H w) (hb : decide (s.n < wrap64 (2 * (H.length : Int))) = b) : Calls Try.prog 51 #[.pointer (some ⟨g, 0, none⟩)] w (Ret (.bool b) w) := by
  obtain ⟨vb, vw, h1, h2, h3, h4⟩ := hc
  have H4 := Aside0.mk h4
  have y5 := (blk_cell h1 5).trans (show (CC s (.map (some gm)) vb vw)[5]? = some (.map (some gm)) from rfl)
  have y1 := (blk_cell h1 1).trans (show (CC s (.map (some gm)) vb vw)[1]? = some (.int .i64 s.n) from rfl)
  have hlen : ∀ k, (Builtin.len_ #[62] 3 #[.map (some gm)]).run Try.prog (w.drewN k) = .ok (.int .i64 H.length) (w.drewN k) := fun k => ck_len (HM.below H4.out (pw_below_drewN (Below.refl _ _) k)) _
  clear h1 h2 h3 h4
  go_enter Try.func51, Try.ntmps51
  go_wp2
  go_quiet (fail)
  try go_wp2
  go_ret
  exact ⟨rfl, pw_below_drewN (Below.refl _ _) _⟩
set_option maxHeartbeats 40000000 in
set_option maxRecDepth 100000 in
theorem get_no (k : Nat) (g : Nat) (row : Option Nat) (s : CS) (H : List Int) (name : ByteArray) (er : Int) (w : World) (hc : Cl g row s H w) (hf : FreeIs k s name er) (he : er ≠ 0) : Calls Try.prog 12 #[.pointer (some ⟨g, 0, none⟩), .string name] w (Ret (.tuple #[.slice none 0 0, .int .i64 er]) w) := by
  have HC := Aside0.mk hc
  have HF := Aside0.mk hf
  have q1 : (er != 0) = true := bne_iff_ne.mpr he
  clear hc hf he
  go_enter Try.func12, Try.ntmps12
  go_wp2_with (go_at_call 32; (with_reducible refine (free_is HC.out HF.out).mono ?_); rintro e w1 ⟨rfl, hb⟩; have HB := Aside0.mk hb; clear hb)
  go_ret2
  exact ⟨rfl, HB.out⟩
set_option maxHeartbeats 40000000 in
set_option maxRecDepth 100000 in
theorem get_ok (k : Nat) (g : Nat) (row : Option Nat) (s : CS) (H : List Int) (name : ByteArray) (w : World) (hc : Cl g row s H w) (hf : FreeIs k s name 0) (hn : 0 ≤ s.n ∧ s.n ≤ 15) : Calls Try.prog 12 #[.pointer (some ⟨g, 0, none⟩), .string name] w (PostG g row w ⟨s.id, s.n, wrap64 (s.op + 1), 1, false, m0, ⟨0, 0, 0, 0, name, ⟨0, 0⟩, (⟨#[]⟩ : ByteArray), []⟩, s.en⟩ (rsUp ⟨s.id, s.n, wrap64 (s.op + 1), 1, false, m0, ⟨0, 0, 0, 0, name, ⟨0, 0⟩, (⟨#[]⟩ : ByteArray), []⟩, s.en⟩ [] s.n.toNat)) := by
  have HC := Aside0.mk hc
  have HF := Aside0.mk hf
  have HN := Aside0.mk hn
  clear hc hf hn
  go_enter Try.func12, Try.ntmps12
  go_wp2_with (first | (go_at_call 32; (with_reducible refine (free_is HC.out HF.out).mono ?_); rintro e w1 ⟨rfl, hb⟩; have HB := Aside0.mk hb; clear hb) | (go_at_call 33; (with_reducible refine (begin_calls g row s H false (⟨0, 0, 0, 0, name, ⟨0, 0⟩, (⟨#[]⟩ : ByteArray), []⟩ : S26) (.slice none 0 0) w1 (HC.out.below HB.out) (Kd.R_nil _ _ _ _ _) HN.out (by simp)).mono ?_); rintro e w2 ⟨v, gm, rfl, hgm, hr, hc2, hf2⟩; have HGM := Aside0.mk hgm; have HR := Aside0.mk hr; have HC2 := Aside0.mk hc2; have HF2 := Aside0.mk hf2; clear hgm hr hc2 hf2))
  go_ret2
  exact ⟨v, gm, rfl, Nat.le_trans HB.out.size HGM.out, Kd.R_lower HR.out HB.out.size, HC2.out, (Fr.of_below HB.out).trans HF2.out (.inl rfl)⟩
set_option maxHeartbeats 40000000 in
set_option maxRecDepth 100000 in
theorem put_no (k : Nat) (g : Nat) (row : Option Nat) (s : CS) (H : List Int) (name man : ByteArray) (A : Option Addr) (c : Nat) (l : List ByteArray) (er : Int) (w : World) (hc : Cl g row s H w) (hf : FreeIs k s name er) (he : er ≠ 0) : Calls Try.prog 13 #[.pointer (some ⟨g, 0, none⟩), .string name, .string man, .slice A l.length c] w (Ret (.tuple #[.slice none 0 0, .int .i64 er]) w) := by
  have HC := Aside0.mk hc
  have HF := Aside0.mk hf
  have q1 : (er != 0) = true := bne_iff_ne.mpr he
  clear hc hf he
  go_enter Try.func13, Try.ntmps13
  go_wp2_with (go_at_call 32; (with_reducible refine (free_is HC.out HF.out).mono ?_); rintro e w1 ⟨rfl, hb⟩; have HB := Aside0.mk hb; clear hb)
  go_ret2
  exact ⟨rfl, HB.out⟩
set_option maxHeartbeats 40000000 in
set_option maxRecDepth 100000 in
theorem put_ok (k : Nat) (g : Nat) (row : Option Nat) (s : CS) (H : List Int) (name man : ByteArray) (A : Option Addr) (c : Nat) (l : List ByteArray) (j1 j2 : Int) (j3 : ByteArray) (er : Int) (w : World) (hc : Cl g row s H w) (hf : FreeIs k s name 0) (hr1 : Kd.C Kd.string w A l.length l) (hc1 : l.length ≤ c) (hj : bands_Join.f k man l = some (j1, j2, j3, er)) (he : er = 0) (hn : 0 ≤ s.n ∧ s.n ≤ 15) (hl : l.length ≤ 1000000) : Calls Try.prog 13 #[.pointer (some ⟨g, 0, none⟩), .string name, .string man, .slice A l.length c] w (PostG g row w ⟨s.id, s.n, wrap64 (s.op + 1), 1, true, m0, ⟨0, 0, 0, 0, name, ⟨0, 0⟩, man, l⟩, s.en⟩ (rsUp ⟨s.id, s.n, wrap64 (s.op + 1), 1, true, m0, ⟨0, 0, 0, 0, name, ⟨0, 0⟩, man, l⟩, s.en⟩ [] s.n.toNat)) := by
  subst he
  have HC := Aside0.mk hc
  have HF := Aside0.mk hf
  have HR1 := Aside0.mk hr1
  have HC1 := Aside0.mk hc1
  have HJ := Aside0.mk hj
  have HN := Aside0.mk hn
  have HL := Aside0.mk hl
  clear hc hf hr1 hc1 hj hn hl
  go_enter Try.func13, Try.ntmps13
  go_upto_region 5 with (first | (go_at_call 32; (with_reducible refine (free_is HC.out HF.out).mono ?_); rintro e w1 ⟨rfl, hb⟩; have HB := Aside0.mk hb; clear hb) | (go_at_call 34; (with_reducible refine (bands_Join.calls k man A c l j1 j2 j3 0 _ (Kd.C_below HR1.out HB.out) HC1.out HJ.out).mono ?_); rintro e w2 ⟨rfl, hb⟩; have n_HB := Aside0.mk (below_step HB.out hb); clear HB hb; have HB := n_HB; clear n_HB) | ((with_reducible refine gate_dst (N := 11) rfl ?_); refine box_event ?hg (N := 11) ?hd (cs := #[.int .i64 0, .int .i64 0, .string (⟨#[]⟩ : ByteArray)]) (t := 57) ?hr ?_; (case hd => rfl); (case hg => rfl); (case hr => first | (go_simp; done) | (go_simp; rfl)); intro gr hg w3 hbox hb; have HS := Aside0.mk ((Sv.new w).step HB.out |>.box hb hg hbox); clear hg hb hbox; have y0 := (HS.out.cell 0 rfl 0).trans (show (#[.int .i64 0, .int .i64 0, .string (⟨#[]⟩ : ByteArray)] : Array Value)[0]? = some (.int .i64 0) from rfl); have f0 := HS.out.fz 0 rfl 0; have y1 := (HS.out.cell 0 rfl 1).trans (show (#[.int .i64 0, .int .i64 0, .string (⟨#[]⟩ : ByteArray)] : Array Value)[1]? = some (.int .i64 0) from rfl); have f1 := HS.out.fz 0 rfl 1; have y2 := (HS.out.cell 0 rfl 2).trans (show (#[.int .i64 0, .int .i64 0, .string (⟨#[]⟩ : ByteArray)] : Array Value)[2]? = some (.string (⟨#[]⟩ : ByteArray)) from rfl); have f2 := HS.out.fz 0 rfl 2))
  refine (fun (h_ : ∀ w_, Below w.heap.size w w_ → Code.wp _ _ _ _ w_) => h_ (((w3.setCell ⟨gr, 0, none⟩ (.int .i64 j1)).setCell ⟨gr, 1, none⟩ (.int .i64 j2)).setCell ⟨gr, 2, none⟩ (.string j3)) (((HS.out.set 0 rfl 0 (.int .i64 j1)).set 0 rfl 1 (.int .i64 j2)).set 0 rfl 2 (.string j3)).below) ?_
  clear HS HB y0 y1 y2 f0 f1 f2
  intro w4 hb4
  have HB := Aside0.mk hb4
  clear hb4
  go_wp2_with (first | (go_at_call 35; (with_reducible refine (clone_calls A c l _ (Kd.C_below HR1.out HB.out) HC1.out HL.out).mono ?_); rintro e w5 ⟨v5, rfl, hr_, hb⟩; obtain ⟨Av, cv, rfl⟩ := Kd.R_slice hr_; have HV := Aside0.mk (Kd.R_lower hr_ (Nat.zero_le _)); have n_HB := Aside0.mk (below_step HB.out hb); clear HB hb hr_; have HB := n_HB; clear n_HB) | (go_at_call 33; (with_reducible refine (begin_calls g row s H true (⟨0, 0, 0, 0, name, ⟨0, 0⟩, man, l⟩ : S26) (.slice Av l.length cv) w5 (HC.out.below HB.out) HV.out HN.out HL.out).mono ?_); rintro e w6 ⟨v, gm, rfl, hgm, hr, hc2, hf2⟩; have HGM := Aside0.mk hgm; have HR := Aside0.mk hr; have HC2 := Aside0.mk hc2; have HF2 := Aside0.mk hf2; clear hgm hr hc2 hf2))
  go_ret2
  exact ⟨v, gm, rfl, Nat.le_trans HB.out.size HGM.out, Kd.R_lower HR.out HB.out.size, HC2.out, (Fr.of_below HB.out).trans HF2.out (.inl rfl)⟩

end Go.Proofs.Ytdbiokmlgniobaa.PL22
