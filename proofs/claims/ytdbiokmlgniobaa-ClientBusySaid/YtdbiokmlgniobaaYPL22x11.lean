/- Printed for this claim by a program of this session over the kit's print program: the Go functions as Lean functions, and proofs that the calls come to these answers. No conditions. -/
import Derived.Test.YtdbiokmlgniobaaYSets
import Derived.Test.YtdbiokmlgniobaaYV
import Derived.Maps.OwnOps
import Derived.Maps.Keyed
import Derived.LoopTactic
import Derived.StillTailTactics
import Derived.Laws.Rows
import Derived.Deep.QuietTactic
import Derived.BigQuiet
import Derived.Laws.Cover3
import Derived.Test.YtdbiokmlgniobaaYPL22y4
import Derived.Test.YtdbiokmlgniobaaYH
import Derived.Test.YtdbiokmlgniobaaYPL22x2
import Derived.Test.YtdbiokmlgniobaaYPL22x1
namespace Go.Proofs.Ytdbiokmlgniobaa.PL22
open Go.RowKit Go.Proofs.YtdbiokmlgniobaaW.PrintWords Go.Proofs.YtdbiokmlgniobaaW.PrintLast Go.Proofs.YtdbiokmlgniobaaW.PrintMore
attribute [local go_sem] max2_int min2_int max_two min_two max_three min_three max_four min_four
set_option linter.unusedVariables false
set_option linter.unusedSimpArgs false
open Go.Proofs.YtdbiokmlgniobaaV
attribute [local go_sem high] eqA23
attribute [local go_sem] eql_nil
def client_Result.T6 : Bool × List (List Nat × List Nat) := (true, [([], []), ([], []), ([1], [1]), ([2], [2]), ([3], [3]), ([0, 0], [0]), ([5, 0, 5], []), ([6, 0, 5, 6], []), ([4, 7, 0, 1, 2, 3, 4, 5, 6, 7], [4])])
def client_Result.B6 : List Nat := [0, 0, 2, 6, 14, 1, 33, 97, 255]
theorem client_Result.tab6 : rtab .any (opsOf Try.f16 6) = client_Result.T6 := by kernel_rfl
theorem client_Result.bits6 : waitsOk client_Result.T6.2 client_Result.B6 = true := by kernel_rfl
set_option maxHeartbeats 40000000 in
set_option maxRecDepth 100000 in
theorem result_ended (g : Nat) (row : Option Nat) (s : CS) (H : List Int) (w : World) (hc : Cl g row s H w) (hp : s.ph = 0) (he : s.en ≠ 0) : Calls Try.prog 16 #[.pointer (some ⟨g, 0, none⟩)] w (RetV 0 0 (⟨#[]⟩ : ByteArray) [] s.en w) := by
  obtain ⟨vb, vw, h1, _⟩ := hc
  have H1 := Aside0.mk h1
  have q1 : (s.ph != 0) = false := bne_eq_false_iff_eq.mpr hp
  have q2 : (s.en != 0) = true := bne_iff_ne.mpr he
  clear h1 hp he
  go_enter Try.func16, Try.ntmps16
  go_upto_region 6 with ((with_reducible refine gate_dst (N := 2) rfl ?_); refine box_event ?hg (N := 2) ?hd (cs := #[.int .i64 0, .int .i64 0]) (t := 23) ?hr ?_; (case hd => rfl); (case hg => rfl); (case hr => first | (go_simp; done) | (go_simp; rfl)); intro gv hg w1 hbox hb; have HS := Aside0.mk ((Sv.new w).box hb hg hbox); have yv0 := (HS.out.cell 0 rfl 0).trans (show (#[.int .i64 0, .int .i64 0] : Array Value)[0]? = some (.int .i64 0) from rfl); have fv0 := HS.out.fz 0 rfl 0; have yv1 := (HS.out.cell 0 rfl 1).trans (show (#[.int .i64 0, .int .i64 0] : Array Value)[1]? = some (.int .i64 0) from rfl); have fv1 := HS.out.fz 0 rfl 1; have yc3 := (blk_cell (blk_below H1.out hb) 3).trans (show (CC s (.map row) vb vw)[3]? = some (.int .i64 s.ph) from rfl); have yc24 := (blk_cell (blk_below H1.out hb) 24).trans (show (CC s (.map row) vb vw)[24]? = some (.int .i64 s.en) from rfl); clear hg hb hbox)
  have HB := Aside0.mk HS.out.below
  clear yc3 yc24 yv0 yv1 fv0 fv1 q1 q2
  have n_HS := Aside0.mk (HS.out.drew)
  clear HS
  have HS := n_HS
  clear n_HS
  refine start_ (n := 9) (S := fun w' => w'.cell? ⟨g, 24, none⟩ = some (.int .i64 s.en)) (ds := []) #[false, false, false, false, false, false, false, false, false] (by kernel_rfl) rfl rfl ((blk_cell (blk_below H1.out HS.out.below) 24).trans rfl) (fun hHeld => ?_)
  refine with_tabW client_Result.tab6 client_Result.bits6 (fun HT_ HW_ => ?_)
  generalize World.drew _ = w2 at HS hHeld ⊢
  refine pure_ (i := 0) (N := some 23) (v := ?_) (a' := ?_) #[true, false, false, false, false, false, false, false, false] rfl rfl (any_of HT_.out (by kernel_rfl)) (fun _ _ _ h => h) (Or.inl ⟨by rfl, ?_⟩) ?_ ?_
  rotate_left
  · intro w'
    go_simp
    with_reducible rfl
  rotate_left
  · simp only [Act.put, List.setIfInBounds_toArray, List.set_cons_zero, List.set_cons_succ, i64_w, i32_w]
    rfl
  refine pure_ (i := 1) (N := some 24) (v := ?_) (a' := ?_) #[true, true, false, false, false, false, false, false, false] rfl rfl (any_of HT_.out (by kernel_rfl)) (fun _ _ _ h => h) (Or.inl ⟨by rfl, ?_⟩) ?_ ?_
  rotate_left
  · intro w'
    go_simp
    with_reducible rfl
  rotate_left
  · simp only [Act.put, List.setIfInBounds_toArray, List.set_cons_zero, List.set_cons_succ, i64_w, i32_w]
    rfl
  refine pure_ (i := 2) (N := some 25) (v := ?_) (a' := ?_) #[true, true, true, false, false, false, false, false, false] rfl rfl (any_of HT_.out (by kernel_rfl)) (fun _ _ _ h => h) (Or.inl ⟨by rfl, ?_⟩) ?_ ?_
  rotate_left
  · intro w'
    go_simp
    with_reducible rfl
  rotate_left
  · simp only [Act.put, List.setIfInBounds_toArray, List.set_cons_zero, List.set_cons_succ, i64_w, i32_w]
    rfl
  refine pure_ (i := 3) (N := some 26) (v := ?_) (a' := ?_) #[true, true, true, true, false, false, false, false, false] rfl rfl (any_of HT_.out (by kernel_rfl)) (fun _ _ _ h => h) (Or.inl ⟨by rfl, ?_⟩) ?_ ?_
  rotate_left
  · intro w'
    go_simp
    with_reducible rfl
  rotate_left
  · simp only [Act.put, List.setIfInBounds_toArray, List.set_cons_zero, List.set_cons_succ, i64_w, i32_w]
    rfl
  refine take_ (i := 4) (N := some 27) (v := ?_) (a' := ?_) #[true, true, true, true, true, false, false, false, false] rfl rfl (take_ofW HT_.out HW_.out (by kernel_rfl)) (fun _ _ _ h => h) (Or.inl ⟨by rfl, ?_⟩) hHeld ?_ ?_
  rotate_left
  · rintro w' s0_
    go_simp
    with_reducible rfl
  rotate_left
  · simp only [Act.put, List.setIfInBounds_toArray, List.set_cons_zero, List.set_cons_succ, i64_w, i32_w]
    rfl
  refine one_ (i := 5) (N := none) #[true, true, true, true, true, true, false, false, false] rfl rfl (one_of HT_.out (by kernel_rfl)) (by decide) (fun K hK => ?_)
  have yv0 := (HS.out.cell 0 rfl 0).trans (show (#[.int .i64 0, .int .i64 0] : Array Value)[0]? = some (.int .i64 0) from rfl); have fv0 := HS.out.fz 0 rfl 0
  have yv1 := (HS.out.cell 0 rfl 1).trans (show (#[.int .i64 0, .int .i64 0] : Array Value)[1]? = some (.int .i64 0) from rfl); have fv1 := HS.out.fz 0 rfl 1
  refine skip_ (w1 := ?_) (by rfl) rfl ?_ ?_
  rotate_left
  · go_simp
    rfl
  refine (fun (h_ : ∀ w_, Sv w [(gv, (#[.int .i64 0, .int .i64 0] : Array Value), 23)] w_ → K _ w_) => h_ ((World.setCell w2 ⟨gv, 0, none⟩ (.int .i64 0)).setCell ⟨gv, 1, none⟩ (.int .i64 0)) ((HS.out.set 0 rfl 0 (.int .i64 0)).set 0 rfl 1 (.int .i64 0))) ?_
  clear HS yv0 yv1 fv0 fv1
  intro w3 HS_
  have HS := Aside0.mk HS_
  clear HS_
  refine hK.out _ _ ((blk_cell (blk_below H1.out HS.out.below) 24).trans rfl) (fun hHeld => ?_)
  clear hK K
  refine pure_ (i := 6) (N := some 3) (v := ?_) (a' := ?_) #[true, true, true, true, true, true, true, false, false] rfl rfl (any_of HT_.out (by kernel_rfl)) (fun _ _ _ h => h) (Or.inl ⟨by rfl, ?_⟩) ?_ ?_
  rotate_left
  · intro w'
    go_simp
    with_reducible rfl
  rotate_left
  · simp only [Act.put, List.setIfInBounds_toArray, List.set_cons_zero, List.set_cons_succ, i64_w, i32_w]
    rfl
  refine pure_ (i := 7) (N := some 4) (v := ?_) (a' := ?_) #[true, true, true, true, true, true, true, true, false] rfl rfl (any_of HT_.out (by kernel_rfl)) (fun _ _ _ h => h) (Or.inl ⟨by rfl, ?_⟩) ?_ ?_
  rotate_left
  · intro w'
    go_simp
    with_reducible rfl
  rotate_left
  · simp only [Act.put, List.setIfInBounds_toArray, List.set_cons_zero, List.set_cons_succ, i64_w, i32_w]
    rfl
  refine pure_ (i := 8) (N := some 5) (v := ?_) (a' := ?_) #[true, true, true, true, true, true, true, true, true] rfl rfl (any_of HT_.out (by kernel_rfl)) (fun _ _ _ h => h) (Or.inl ⟨by rfl, ?_⟩) ?_ ?_
  rotate_left
  · intro w'
    go_simp
    with_reducible rfl
  rotate_left
  · simp only [Act.put, List.setIfInBounds_toArray, List.set_cons_zero, List.set_cons_succ, i64_w, i32_w]
    rfl
  refine done_ (done_of HT_.out (by kernel_rfl)) ?_
  clear HT_ HW_ hHeld
  try go_wp2
  refine bodyPost_ret (results_ct4 rfl _ _ gv 23 #[.int .i64 0, .int .i64 0] (0, 0) _ rfl (Sv.at HS.out 0 rfl) Try.underlying23 rfl (by kernel_rfl)) rfl ?_
  exact ⟨_, rfl, Kd.R_nil _ _ _ _ _, HS.out.below⟩
def awJ : Int := 42
theorem aw_name : bands_Name.f 60 (⟨#[97]⟩ : ByteArray) = some 0 := by kernel_rfl
theorem aw_newer : store_Newer.f 60 0 0 0 0 = some false := by kernel_rfl
theorem aw_join : bands_Join.f 60 (⟨#[]⟩ : ByteArray) [] = some (0, 0, (⟨#[]⟩ : ByteArray), awJ) := by kernel_rfl
def awW : S26 := ⟨0, 0, 0, 0, (⟨#[97]⟩ : ByteArray), ⟨0, 0⟩, (⟨#[]⟩ : ByteArray), []⟩
def awA : S26 := ⟨2, 0, 3, 1, (⟨#[97]⟩ : ByteArray), ⟨0, 0⟩, (⟨#[]⟩ : ByteArray), []⟩
def awB : S26 := ⟨2, 2, 3, 1, (⟨#[97]⟩ : ByteArray), ⟨0, 0⟩, (⟨#[]⟩ : ByteArray), []⟩
def aw0 : CS := ⟨3, 3, 0, 0, false, m0, m0, 41⟩
def aw1 : CS := ⟨3, 3, 1, 1, false, m0, awW, 41⟩
def aw2 : CS := ⟨3, 3, 1, 1, false, awA, awW, 41⟩
def aw3 : CS := ⟨3, 3, 1, 0, false, awA, awW, 41⟩
theorem wr01 : wrap64 (0 + 1) = 1 := by unfold wrap64; omega
theorem aw_m1 : decide (aw1.n < wrap64 (2 * (([awA.f1].length : Nat) : Int))) = false := by
  have h : wrap64 (2 * (([awA.f1].length : Nat) : Int)) = 2 := by
    show wrap64 (2 * ((1 : Nat) : Int)) = 2
    unfold wrap64
    omega
  rw [h]
  rfl
theorem aw_m2 : decide (aw2.n < wrap64 (2 * (((awB.f1 :: [0]).length : Nat) : Int))) = true := by
  have h : wrap64 (2 * (((awB.f1 :: [0]).length : Nat) : Int)) = 4 := by
    show wrap64 (2 * ((2 : Nat) : Int)) = 4
    unfold wrap64
    omega
  rw [h]
  rfl
set_option maxHeartbeats 40000000 in
set_option maxRecDepth 100000 in
theorem awake_calls (w : World) : Calls Try.prog 9 #[] w (Ret (.bool true) w) := by
  go_enter Try.func9, Try.ntmps9
  go_upto_region 2 with (go_at_call 10; (with_reducible refine (new_ok 3 3 _ (by decide) (by decide) (by decide) (by decide) (by decide)).mono ?_); rintro e w1 ⟨g, rfl, hg, hc, hb⟩; have HG := Aside0.mk hg; have HC := Aside0.mk hc; have HB := Aside0.mk hb; clear hg hc hb)
  go_upto_region 3 with (go_at_call 10; (with_reducible refine (new_bad 2 3 _ (by decide)).mono ?_); rintro e w2 ⟨rfl, hb⟩; have n_HC := Aside0.mk (HC.out.below hb); have n_HB := Aside0.mk (below_step HB.out hb); clear HC HB hb; have HC := n_HC; have HB := n_HB; clear n_HC n_HB)
  have n_ : Aside0 (Cl g none aw0 [] w2) := HC
  clear HC
  have HC := n_
  clear n_
  have HT : Aside0 (Calls Try.prog 12 #[.pointer (some ⟨g, 0, none⟩), .string (⟨#[97]⟩ : ByteArray)] w2 (PostG g none w2 aw1 (rsUp aw1 [] 3))) := ⟨by have h_ : Calls Try.prog 12 #[.pointer (some ⟨g, 0, none⟩), .string (⟨#[97]⟩ : ByteArray)] w2 (PostG g none w2 ⟨3, 3, wrap64 (0 + 1), 1, false, m0, awW, 41⟩ (rsUp ⟨3, 3, wrap64 (0 + 1), 1, false, m0, awW, 41⟩ [] 3)) := get_ok 60 g none aw0 [] (⟨#[97]⟩ : ByteArray) w2 HC.out (Or.inr ⟨rfl, aw_name⟩) (by decide); rw [wr01] at h_; exact h_⟩
  go_upto_region 6 with (go_at_call 12; (with_reducible refine HT.out.mono ?_); rintro e w3 ⟨v, gm, rfl, hgm, hr, hc, hf⟩; have HR := Aside0.mk (Kd.R_lower hr HB.out.size); have n_HC := Aside0.mk hc; have HGM := Aside0.mk (Nat.le_trans HB.out.size hgm); have n_HB := Aside0.mk (Fr.below HB.out hf HG.out (fun _ h_ => by cases h_)); clear HC HB HT hr hc hgm hf; have HC := n_HC; have HB := n_HB; clear n_HC n_HB; obtain ⟨Al, cl, rfl⟩ := Kd.R_slice HR.out)
  have HT : Aside0 (Calls Try.prog 11 #[.pointer (some ⟨g, 0, none⟩), .agg #[.int .i64 2, .int .i64 0, .int .i64 3, .int .i64 1, .string (⟨#[97]⟩ : ByteArray), .int .i64 0, .int .i64 0, .string (⟨#[]⟩ : ByteArray), .slice none 0 0]] w3 (PostB g (some gm) w3 aw2 [0] [] false)) := ⟨handle_asks g gm aw1 [] awA none 0 0 w3 HC.out rfl rfl (by decide) (by decide) (by decide) rfl (by decide) aw2 [0] [] false (fun w1 hb => tell_empty0_wait 60 g gm aw1 awA none 0 0 0 (⟨#[]⟩ : ByteArray) awJ w1 (HC.out.below hb) (fun _ _ => Kd.C_nil _ _) (by decide) (by decide) aw_join rfl rfl (by decide) (by decide) (by decide) aw_m1)⟩
  go_upto_region 7 with (go_at_call 11; (with_reducible refine HT.out.mono ?_); rintro e w4 ⟨v4, row4, rfl, hr, hc, hf, ho⟩; obtain ⟨A4, c4, rfl⟩ := Kd.R_slice hr; obtain ⟨gm2, rfl, hg4⟩ := row_some ho HGM.out HB.out.size; have n_HR := Aside0.mk (HC.out.rows HR.out msg_not hf); have n_HC := Aside0.mk hc; have n_HB := Aside0.mk (Fr.below HB.out hf HG.out (fun b_ h_ => by injection h_ with h_; rw [← h_]; exact HGM.out)); have n_HGM := Aside0.mk hg4; clear HC HB HR HGM HT hr hc hf ho hg4; have HC := n_HC; have HB := n_HB; have HR := n_HR; have HGM := n_HGM; clear n_HC n_HB n_HR n_HGM)
  have HT : Aside0 (Calls Try.prog 11 #[.pointer (some ⟨g, 0, none⟩), .agg #[.int .i64 2, .int .i64 2, .int .i64 3, .int .i64 1, .string (⟨#[97]⟩ : ByteArray), .int .i64 0, .int .i64 0, .string (⟨#[]⟩ : ByteArray), .slice none 0 0]] w4 (PostB g (some gm2) w4 aw3 [2, 0] [] true)) := ⟨handle_asks g gm2 aw2 [0] awB none 0 0 w4 HC.out rfl rfl (by decide) (by decide) (by decide) rfl (by decide) aw3 [2, 0] [] true (fun w1 hb => tell_older0_none 60 g gm2 aw2 [0] awB none 0 0 0 (⟨#[]⟩ : ByteArray) awJ w1 (HC.out.below hb) (fun _ _ => Kd.C_nil _ _) (by decide) (by decide) aw_join rfl rfl (by decide) aw_newer (by decide) (by decide) (by decide) aw_m2 rfl rfl)⟩
  go_upto_region 8 with (go_at_call 11; (with_reducible refine HT.out.mono ?_); rintro e w5 ⟨v4, row4, rfl, hr, hc, hf, ho⟩; obtain ⟨A4, c4, rfl⟩ := Kd.R_slice hr; obtain ⟨gm3, rfl, hg4⟩ := row_some ho HGM.out HB.out.size; have n_HR := Aside0.mk (HC.out.rows HR.out msg_not hf); have n_HC := Aside0.mk hc; have n_HB := Aside0.mk (Fr.below HB.out hf HG.out (fun b_ h_ => by injection h_ with h_; rw [← h_]; exact HGM.out)); have n_HGM := Aside0.mk hg4; clear HC HB HR HGM HT hr hc hf ho hg4; have HC := n_HC; have HB := n_HB; have HR := n_HR; have HGM := n_HGM; clear n_HC n_HB n_HR n_HGM)
  have HT : Aside0 (Calls Try.prog 16 #[.pointer (some ⟨g, 0, none⟩)] w5 (RetV 0 0 (⟨#[]⟩ : ByteArray) [] 41 w5)) := ⟨result_ended g (some gm3) aw3 [2, 0] w5 HC.out rfl (by decide)⟩
  go_upto_region 9 with (first | (go_at_call 16; (with_reducible refine HT.out.mono ?_); rintro e w6 ⟨v6, rfl, hr, hb⟩; obtain ⟨A6, c6, rfl⟩ := Kd.R_slice hr; have n_HR := Aside0.mk (Kd.R_below HR.out hb); have n_HB := Aside0.mk (below_step HB.out hb); clear HC HB HR HT hr hb; have HB := n_HB; have HR := n_HR; clear n_HB n_HR) | ((with_reducible refine gate_dst (N := 11) rfl ?_); refine box_event ?hg (N := 11) ?hd (cs := #[.int .i64 0, .int .i64 0]) (t := 23) ?hr ?_; (case hd => rfl); (case hg => rfl); (case hr => first | (go_simp; done) | (go_simp; rfl)); intro gv hg w7 hbox hb; have HS := Aside0.mk ((Sv.new w).step HB.out |>.box hb hg hbox); have n_HR := Aside0.mk (Kd.R_below HR.out hb); have yv0 := (HS.out.cell 0 rfl 0).trans (show (#[.int .i64 0, .int .i64 0] : Array Value)[0]? = some (.int .i64 0) from rfl); have fv0 := HS.out.fz 0 rfl 0; have yv1 := (HS.out.cell 0 rfl 1).trans (show (#[.int .i64 0, .int .i64 0] : Array Value)[1]? = some (.int .i64 0) from rfl); have fv1 := HS.out.fz 0 rfl 1; clear HR HB hg hbox hb; have HR := n_HR; clear n_HR))
  refine (fun (h_ : ∀ w_, Below w.heap.size w w_ → Kd.R k26 26 w_ w.heap.size (fun _ => True) (.slice Al (rsUp aw1 [] 3).length cl) (rsUp aw1 [] 3) → Code.wp _ _ _ _ w_) => h_ ((World.setCell w7 ⟨gv, 0, none⟩ (.int .i64 0)).setCell ⟨gv, 1, none⟩ (.int .i64 0)) ((HS.out.set 0 rfl 0 (.int .i64 0)).set 0 rfl 1 (.int .i64 0)).below (R_set (R_set HR.out (HS.out.at 0 rfl) msg_ver) ((HS.out.set 0 rfl 0 (.int .i64 0)).at 0 rfl) msg_ver)) ?_
  clear HS HR yv0 yv1 fv0 fv1
  intro w8 hb hr
  have hl3 : rsUp aw1 [] 3 = [rsMsg aw1 0, rsMsg aw1 1, rsMsg aw1 2] := rfl
  rw [hl3] at hr ⊢
  have HB := Aside0.mk hb
  have HC := Aside0.mk (Kd.R_reads' hr).2.2
  clear hb hr hl3
  obtain ⟨ad, A8, c8, rfl, x0, x1, x2, x3⟩ := at_T26 HC.out 2 (by decide) (by decide)
  clear x0 x1 x3
  have x2' : w8.cell? ⟨ad.block, ad.off + 20, none⟩ = some (.int .i64 2) := x2
  clear x2
  go_wp2
  go_ret
  exact ⟨rfl, HB.out⟩

end Go.Proofs.Ytdbiokmlgniobaa.PL22

namespace Go.Proofs.Ytdbiokmlgniobaa.PL22
open Go.RowKit Go.Proofs.YtdbiokmlgniobaaW.PrintWords Go.Proofs.YtdbiokmlgniobaaW.PrintLast Go.Proofs.YtdbiokmlgniobaaW.PrintMore
attribute [local go_sem] max2_int min2_int max_two min_two max_three min_three max_four min_four   -- for this text's walks alone
set_option linter.unusedVariables false
set_option linter.unusedSimpArgs false

mutual
def vitrinelaw22_few.j0 : Nat → Bool → Int → Int → Int → Int → ByteArray → Int → Int → ByteArray → List ByteArray → Option (Bool)
 | 0, _, _, _, _, _, _, _, _, _, _ => none
 | k + 1, x19, x103000, x103001, x103002, x103003, x103004, x103005, x103006, x103007, x103008 => if x19 = true then (some false) else (vitrinelaw22_few.l0 k 0 x103000 x103001 x103002 x103003 x103004 x103005 x103006 x103007 x103008)
def vitrinelaw22_few.l0 : Nat → Int → Int → Int → Int → Int → ByteArray → Int → Int → ByteArray → List ByteArray → Option (Bool)
 | 0, _, _, _, _, _, _, _, _, _, _ => none
 | k + 1, x3, x103000, x103001, x103002, x103003, x103004, x103005, x103006, x103007, x103008 => if x3 < (x103008.length : Int) then (if 0 ≤ x3 then (if ((rdOf ByteArray.empty x103008 x3).size : Int) > 5000 then (some false) else (vitrinelaw22_few.l0 k (wrap64 (x3 + 1)) x103000 x103001 x103002 x103003 x103004 x103005 x103006 x103007 x103008)) else (none)) else (some true)
end
def vitrinelaw22_few.f (k : Nat) (a0_0 : Int) (a0_1 : Int) (a0_2 : Int) (a0_3 : Int) (a0_4 : ByteArray) (a0_5 : Int) (a0_6 : Int) (a0_7 : ByteArray) (l0_8 : List ByteArray) : Option (Bool) := if (l0_8.length : Int) > 20 then (vitrinelaw22_few.j0 k true a0_0 a0_1 a0_2 a0_3 a0_4 a0_5 a0_6 a0_7 l0_8) else (if (a0_4.size : Int) > 1000 then (vitrinelaw22_few.j0 k true a0_0 a0_1 a0_2 a0_3 a0_4 a0_5 a0_6 a0_7 l0_8) else (vitrinelaw22_few.j0 k (decide ((a0_7.size : Int) > 5000)) a0_0 a0_1 a0_2 a0_3 a0_4 a0_5 a0_6 a0_7 l0_8))
set_option maxHeartbeats 40000000 in
set_option maxRecDepth 100000 in
theorem vitrinelaw22_few.calls (k : Nat) (a0_0 : Int) (a0_1 : Int) (a0_2 : Int) (a0_3 : Int) (a0_4 : ByteArray) (a0_5 : Int) (a0_6 : Int) (a0_7 : ByteArray) (A0_8 : Option Addr) (c0_8 : Nat) (l0_8 : List ByteArray) (r : Bool) (w : World) (hr0_8 : Kd.C Kd.string w A0_8 l0_8.length l0_8) (hc0_8 : l0_8.length ≤ c0_8) (h : vitrinelaw22_few.f k a0_0 a0_1 a0_2 a0_3 a0_4 a0_5 a0_6 a0_7 l0_8 = some r) :
  Calls Try.prog 8 #[.agg #[.int .i64 a0_0, .int .i64 a0_1, .int .i64 a0_2, .int .i64 a0_3, .string a0_4, .int .i64 a0_5, .int .i64 a0_6, .string a0_7, .slice A0_8 l0_8.length c0_8]] w fun e w' => e = .returned (.bool r) ∧ Below w.heap.size w w' := by
 have hu26 := Try.underlying26
 have HR0_8 := Aside0.mk hr0_8
 have HC0_8 := Aside0.mk hc0_8
 clear hr0_8 hc0_8
 have HB := Aside0.mk (Below.refl w.heap.size w)
 have H : (if (l0_8.length : Int) > 20 then (vitrinelaw22_few.j0 k true a0_0 a0_1 a0_2 a0_3 a0_4 a0_5 a0_6 a0_7 l0_8) else (if (a0_4.size : Int) > 1000 then (vitrinelaw22_few.j0 k true a0_0 a0_1 a0_2 a0_3 a0_4 a0_5 a0_6 a0_7 l0_8) else (vitrinelaw22_few.j0 k (decide ((a0_7.size : Int) > 5000)) a0_0 a0_1 a0_2 a0_3 a0_4 a0_5 a0_6 a0_7 l0_8))) = some r := h
 clear h
 have HC2 := Aside0.mk H
 clear H
 go_enter Try.func8, Try.ntmps8
 go_upto_region 1 with (first | ((with_reducible refine gate_dst (N := 1) rfl ?_); (try (refine gate_guard (by rfl) ?_; dsimp only)); refine box_event ?hg (N := 1) ?hd (cs := #[.int .i64 a0_0, .int .i64 a0_1, .int .i64 a0_2, .int .i64 a0_3, .string a0_4, .int .i64 a0_5, .int .i64 a0_6, .string a0_7, .slice A0_8 l0_8.length c0_8]) (t := 26) ?hr ?_; (case hd => rfl); (case hg => rfl); (case hr => first | (go_simp; done) | (go_simp; rfl)); intro gb102 hg w3 hbox hb; have n0_ := Aside0.mk (below_step (hz HB) hb); have n1_ := Aside0.mk (hbox); have n2_ := Aside0.mk ((by rw [hg]; exact (below_size (hz HB)) : w.heap.size ≤ gb102)); have n3_ := Aside0.mk ((by rw [hg]; exact (below_size (hz HB)) : w.heap.size ≤ gb102)); clear HB; have HB := n0_; have BK102 := n1_; have GW102 := n2_; have GE102 := n3_; clear n0_ n1_ n2_ n3_; clear hb hbox hg))
 (try simp only [Act.put, List.setIfInBounds_toArray, List.set_cons_zero, List.set_cons_succ])
 go_cut [19] (fun v19 wc => ∃ (kq : Nat) (x19_1 : Bool), v19 = .bool x19_1 ∧ Aside0 (vitrinelaw22_few.j0 kq x19_1 a0_0 a0_1 a0_2 a0_3 a0_4 a0_5 a0_6 a0_7 l0_8 = some r) ∧ Aside0 (kq ≤ k) ∧ Aside0 (wc.heap[gb102]? = some (.cells #[.int .i64 a0_0, .int .i64 a0_1, .int .i64 a0_2, .int .i64 a0_3, .string a0_4, .int .i64 a0_5, .int .i64 a0_6, .string a0_7, (.slice A0_8 l0_8.length c0_8)] 26 (0, 0))) ∧ Aside0 (Below w.heap.size w wc))
 case first =>
  have H := HC2.out
  clear HC2
  by_cases c4 : (l0_8.length : Int) > 20
  ·rw [if_pos c4] at H
   have c4b0 : decide (20 < (l0_8.length : Int)) = true := decide_eq_true c4
   have c4b1 : decide (20 < l0_8.length) = true := decide_eq_true (by omega)
   clear c4
   (first | rw [c4b0] | (simp only [i64_w, i32_w]; rw [c4b0]) | skip)
   have H' := Aside0.mk H
   clear H
   have hcz5_0 : w3.cell? ⟨gb102, 0, none⟩ = some (.int .i64 a0_0) := (blk_cell BK102.out 0).trans rfl
   have hcz5_1 : w3.cell? ⟨gb102, 1, none⟩ = some (.int .i64 a0_1) := (blk_cell BK102.out 1).trans rfl
   have hcz5_2 : w3.cell? ⟨gb102, 2, none⟩ = some (.int .i64 a0_2) := (blk_cell BK102.out 2).trans rfl
   have hcz5_3 : w3.cell? ⟨gb102, 3, none⟩ = some (.int .i64 a0_3) := (blk_cell BK102.out 3).trans rfl
   have hcz5_4 : w3.cell? ⟨gb102, 4, none⟩ = some (.string a0_4) := (blk_cell BK102.out 4).trans rfl
   have hcz5_5 : w3.cell? ⟨gb102, 5, none⟩ = some (.int .i64 a0_5) := (blk_cell BK102.out 5).trans rfl
   have hcz5_6 : w3.cell? ⟨gb102, 6, none⟩ = some (.int .i64 a0_6) := (blk_cell BK102.out 6).trans rfl
   have hcz5_7 : w3.cell? ⟨gb102, 7, none⟩ = some (.string a0_7) := (blk_cell BK102.out 7).trans rfl
   have hcz5_8 : w3.cell? ⟨gb102, 8, none⟩ = some (.slice A0_8 l0_8.length c0_8) := (blk_cell BK102.out 8).trans rfl
   have hfz5_0 := blk_frozen BK102.out 0
   have hfz5_1 := blk_frozen BK102.out 1
   have hfz5_2 := blk_frozen BK102.out 2
   have hfz5_3 := blk_frozen BK102.out 3
   have hfz5_4 := blk_frozen BK102.out 4
   have hfz5_5 := blk_frozen BK102.out 5
   have hfz5_6 := blk_frozen BK102.out 6
   have hfz5_7 := blk_frozen BK102.out 7
   have hfz5_8 := blk_frozen BK102.out 8
   go_wp2
   go_meet
   case rel => exact ⟨_, (true), (by first | rfl | (simp; done) | (simp [*]; done)), H', ⟨by first | omega | exact Nat.le_refl _⟩, ⟨kz BK102⟩, ⟨hz HB⟩⟩
  ·rw [if_neg c4] at H
   have c4b0 : decide (20 < (l0_8.length : Int)) = false := decide_eq_false c4
   have c4b1 : decide (20 < l0_8.length) = false := decide_eq_false (by omega)
   clear c4
   (first | rw [c4b0] | (simp only [i64_w, i32_w]; rw [c4b0]) | skip)
   by_cases c6 : (a0_4.size : Int) > 1000
   ·rw [if_pos c6] at H
    have c6b0 : decide (1000 < (a0_4.size : Int)) = true := decide_eq_true c6
    have c6b1 : decide (1000 < a0_4.size) = true := decide_eq_true (by omega)
    clear c6
    have H' := Aside0.mk H
    clear H
    have hcz7_0 : w3.cell? ⟨gb102, 0, none⟩ = some (.int .i64 a0_0) := (blk_cell BK102.out 0).trans rfl
    have hcz7_1 : w3.cell? ⟨gb102, 1, none⟩ = some (.int .i64 a0_1) := (blk_cell BK102.out 1).trans rfl
    have hcz7_2 : w3.cell? ⟨gb102, 2, none⟩ = some (.int .i64 a0_2) := (blk_cell BK102.out 2).trans rfl
    have hcz7_3 : w3.cell? ⟨gb102, 3, none⟩ = some (.int .i64 a0_3) := (blk_cell BK102.out 3).trans rfl
    have hcz7_4 : w3.cell? ⟨gb102, 4, none⟩ = some (.string a0_4) := (blk_cell BK102.out 4).trans rfl
    have hcz7_5 : w3.cell? ⟨gb102, 5, none⟩ = some (.int .i64 a0_5) := (blk_cell BK102.out 5).trans rfl
    have hcz7_6 : w3.cell? ⟨gb102, 6, none⟩ = some (.int .i64 a0_6) := (blk_cell BK102.out 6).trans rfl
    have hcz7_7 : w3.cell? ⟨gb102, 7, none⟩ = some (.string a0_7) := (blk_cell BK102.out 7).trans rfl
    have hcz7_8 : w3.cell? ⟨gb102, 8, none⟩ = some (.slice A0_8 l0_8.length c0_8) := (blk_cell BK102.out 8).trans rfl
    have hfz7_0 := blk_frozen BK102.out 0
    have hfz7_1 := blk_frozen BK102.out 1
    have hfz7_2 := blk_frozen BK102.out 2
    have hfz7_3 := blk_frozen BK102.out 3
    have hfz7_4 := blk_frozen BK102.out 4
    have hfz7_5 := blk_frozen BK102.out 5
    have hfz7_6 := blk_frozen BK102.out 6
    have hfz7_7 := blk_frozen BK102.out 7
    have hfz7_8 := blk_frozen BK102.out 8
    go_wp2
    go_meet
    case rel => exact ⟨_, (true), (by first | rfl | (simp; done) | (simp [*]; done)), H', ⟨by first | omega | exact Nat.le_refl _⟩, ⟨kz BK102⟩, ⟨hz HB⟩⟩
   ·rw [if_neg c6] at H
    have c6b0 : decide (1000 < (a0_4.size : Int)) = false := decide_eq_false c6
    have c6b1 : decide (1000 < a0_4.size) = false := decide_eq_false (by omega)
    clear c6
    have H' := Aside0.mk H
    clear H
    have hcz8_0 : w3.cell? ⟨gb102, 0, none⟩ = some (.int .i64 a0_0) := (blk_cell BK102.out 0).trans rfl
    have hcz8_1 : w3.cell? ⟨gb102, 1, none⟩ = some (.int .i64 a0_1) := (blk_cell BK102.out 1).trans rfl
    have hcz8_2 : w3.cell? ⟨gb102, 2, none⟩ = some (.int .i64 a0_2) := (blk_cell BK102.out 2).trans rfl
    have hcz8_3 : w3.cell? ⟨gb102, 3, none⟩ = some (.int .i64 a0_3) := (blk_cell BK102.out 3).trans rfl
    have hcz8_4 : w3.cell? ⟨gb102, 4, none⟩ = some (.string a0_4) := (blk_cell BK102.out 4).trans rfl
    have hcz8_5 : w3.cell? ⟨gb102, 5, none⟩ = some (.int .i64 a0_5) := (blk_cell BK102.out 5).trans rfl
    have hcz8_6 : w3.cell? ⟨gb102, 6, none⟩ = some (.int .i64 a0_6) := (blk_cell BK102.out 6).trans rfl
    have hcz8_7 : w3.cell? ⟨gb102, 7, none⟩ = some (.string a0_7) := (blk_cell BK102.out 7).trans rfl
    have hcz8_8 : w3.cell? ⟨gb102, 8, none⟩ = some (.slice A0_8 l0_8.length c0_8) := (blk_cell BK102.out 8).trans rfl
    have hfz8_0 := blk_frozen BK102.out 0
    have hfz8_1 := blk_frozen BK102.out 1
    have hfz8_2 := blk_frozen BK102.out 2
    have hfz8_3 := blk_frozen BK102.out 3
    have hfz8_4 := blk_frozen BK102.out 4
    have hfz8_5 := blk_frozen BK102.out 5
    have hfz8_6 := blk_frozen BK102.out 6
    have hfz8_7 := blk_frozen BK102.out 7
    have hfz8_8 := blk_frozen BK102.out 8
    go_wp2
    go_meet
    case rel => exact ⟨_, (decide ((a0_7.size : Int) > 5000)), (by first | rfl | (simp; done) | (simp [*]; done)), H', ⟨by first | omega | exact Nat.le_refl _⟩, ⟨kz BK102⟩, ⟨hz HB⟩⟩
 case rest =>
  clear HC2
  obtain ⟨kq, x19_1, rfl, HA, HJ1, BK102, HB⟩ := hcut
  cases kq with
  | zero => exact absurd HA.out (by simp [vitrinelaw22_few.j0])
  | succ kj1 =>
   have H := HA.out
   clear HA
   simp only [vitrinelaw22_few.j0] at H
   by_cases c9 : x19_1 = true
   ·subst c9
    have H1 : (some false) = some r := by rw [if_pos rfl] at H; exact H
    clear H
    have H := H1
    clear H1
    obtain rfl := Option.some.inj H
    go_wp2
    go_ret
    exact ⟨by first | rfl | (simp [errW_none, errW_some] <;> rfl) | (simp [*, errW_none, errW_some] <;> rfl), by repeat (first | (with_reducible first | exact HB.out | apply below_alloc | apply pw_below_drewN | apply below_drew1 | refine below_set ?_ GE102.out) | exact HB.out)⟩
   ·replace c9 := Bool.eq_false_iff.mpr c9
    subst c9
    have H1 : (vitrinelaw22_few.l0 kj1 0 a0_0 a0_1 a0_2 a0_3 a0_4 a0_5 a0_6 a0_7 l0_8) = some r := by rw [if_neg (show ¬ (false = true) by decide)] at H; exact H
    clear H
    have H := H1
    clear H1
    have H' := Aside0.mk H
    clear H
    go_wp2
    go_loopg [3] kj1 (fun kq v3 w' => ∃ (x3_2 : Int), v3 = .int .i64 x3_2 ∧ Aside0 (vitrinelaw22_few.l0 kq x3_2 a0_0 a0_1 a0_2 a0_3 a0_4 a0_5 a0_6 a0_7 l0_8 = some r) ∧ Aside0 (kq ≤ kj1) ∧ Aside0 (w'.heap[gb102]? = some (.cells #[.int .i64 a0_0, .int .i64 a0_1, .int .i64 a0_2, .int .i64 a0_3, .string a0_4, .int .i64 a0_5, .int .i64 a0_6, .string a0_7, (.slice A0_8 l0_8.length c0_8)] 26 (0, 0))) ∧ Aside0 (Below w.heap.size w w'))
    case atStart => exact ⟨(0), (by first | rfl | (simp; done) | (simp [*]; done)), H', ⟨Nat.le_refl _⟩, ⟨kz BK102⟩, ⟨hz HB⟩⟩
    case round =>
     clear H'
     try clear c9
     obtain ⟨x3_2, rfl, HA, HK2, BK102, HB⟩ := hrel
     cases gk with
     | zero => exact absurd HA.out (by simp [vitrinelaw22_few.l0])
     | succ k2 =>
      have H := HA.out
      clear HA
      simp only [vitrinelaw22_few.l0] at H
      by_cases c10 : x3_2 < (l0_8.length : Int)
      ·rw [if_pos c10] at H
       have c10b0 : decide (x3_2 < (l0_8.length : Int)) = true := decide_eq_true c10
       clear c10
       by_cases c11 : 0 ≤ x3_2
       ·rw [if_pos c11] at H
        have c11b0 : decide (0 ≤ x3_2) = true := decide_eq_true c11
        clear c11
        by_cases c12 : ((rdOf ByteArray.empty l0_8 x3_2).size : Int) > 5000
        ·rw [if_pos c12] at H
         have c12b0 : decide (5000 < ((rdOf ByteArray.empty l0_8 x3_2).size : Int)) = true := decide_eq_true c12
         have c12b1 : decide (5000 < (rdOf ByteArray.empty l0_8 x3_2).size) = true := decide_eq_true (by omega)
         clear c12
         obtain rfl := Option.some.inj H
         have hcz13_0 : wr.cell? ⟨gb102, 0, none⟩ = some (.int .i64 a0_0) := (blk_cell BK102.out 0).trans rfl
         have hcz13_1 : wr.cell? ⟨gb102, 1, none⟩ = some (.int .i64 a0_1) := (blk_cell BK102.out 1).trans rfl
         have hcz13_2 : wr.cell? ⟨gb102, 2, none⟩ = some (.int .i64 a0_2) := (blk_cell BK102.out 2).trans rfl
         have hcz13_3 : wr.cell? ⟨gb102, 3, none⟩ = some (.int .i64 a0_3) := (blk_cell BK102.out 3).trans rfl
         have hcz13_4 : wr.cell? ⟨gb102, 4, none⟩ = some (.string a0_4) := (blk_cell BK102.out 4).trans rfl
         have hcz13_5 : wr.cell? ⟨gb102, 5, none⟩ = some (.int .i64 a0_5) := (blk_cell BK102.out 5).trans rfl
         have hcz13_6 : wr.cell? ⟨gb102, 6, none⟩ = some (.int .i64 a0_6) := (blk_cell BK102.out 6).trans rfl
         have hcz13_7 : wr.cell? ⟨gb102, 7, none⟩ = some (.string a0_7) := (blk_cell BK102.out 7).trans rfl
         have hcz13_8 : wr.cell? ⟨gb102, 8, none⟩ = some (.slice A0_8 l0_8.length c0_8) := (blk_cell BK102.out 8).trans rfl
         have hfz13_0 := blk_frozen BK102.out 0
         have hfz13_1 := blk_frozen BK102.out 1
         have hfz13_2 := blk_frozen BK102.out 2
         have hfz13_3 := blk_frozen BK102.out 3
         have hfz13_4 := blk_frozen BK102.out 4
         have hfz13_5 := blk_frozen BK102.out 5
         have hfz13_6 := blk_frozen BK102.out 6
         have hfz13_7 := blk_frozen BK102.out 7
         have hfz13_8 := blk_frozen BK102.out 8
         have p103 : 0 ≤ (x3_2 : Int) := of_decide_eq_true (by first | (with_reducible assumption) | assumption)
         have q103 : x3_2 < (l0_8.length : Int) := of_decide_eq_true (by first | (with_reducible assumption) | assumption)
         obtain ⟨ad103, e103, hx103_0⟩ := Kd.at_string HR0_8.out x3_2 p103 q103
         cases e103
         replace hx103_0 := (HB.out.cell (World.block_lt_of_cell? w _ hx103_0)).trans hx103_0
         replace p103 := eq_true p103
         replace q103 := eq_true q103
         go_wp2
         go_ret
         exact ⟨by first | rfl | (simp [errW_none, errW_some] <;> rfl) | (simp [*, errW_none, errW_some] <;> rfl), by repeat (first | (with_reducible first | exact HB.out | apply below_alloc | apply pw_below_drewN | apply below_drew1 | refine below_set ?_ GE102.out) | exact HB.out)⟩
        ·rw [if_neg c12] at H
         have c12b0 : decide (5000 < ((rdOf ByteArray.empty l0_8 x3_2).size : Int)) = false := decide_eq_false c12
         have c12b1 : decide (5000 < (rdOf ByteArray.empty l0_8 x3_2).size) = false := decide_eq_false (by omega)
         clear c12
         have H' := Aside0.mk H
         clear H
         have hcz14_0 : wr.cell? ⟨gb102, 0, none⟩ = some (.int .i64 a0_0) := (blk_cell BK102.out 0).trans rfl
         have hcz14_1 : wr.cell? ⟨gb102, 1, none⟩ = some (.int .i64 a0_1) := (blk_cell BK102.out 1).trans rfl
         have hcz14_2 : wr.cell? ⟨gb102, 2, none⟩ = some (.int .i64 a0_2) := (blk_cell BK102.out 2).trans rfl
         have hcz14_3 : wr.cell? ⟨gb102, 3, none⟩ = some (.int .i64 a0_3) := (blk_cell BK102.out 3).trans rfl
         have hcz14_4 : wr.cell? ⟨gb102, 4, none⟩ = some (.string a0_4) := (blk_cell BK102.out 4).trans rfl
         have hcz14_5 : wr.cell? ⟨gb102, 5, none⟩ = some (.int .i64 a0_5) := (blk_cell BK102.out 5).trans rfl
         have hcz14_6 : wr.cell? ⟨gb102, 6, none⟩ = some (.int .i64 a0_6) := (blk_cell BK102.out 6).trans rfl
         have hcz14_7 : wr.cell? ⟨gb102, 7, none⟩ = some (.string a0_7) := (blk_cell BK102.out 7).trans rfl
         have hcz14_8 : wr.cell? ⟨gb102, 8, none⟩ = some (.slice A0_8 l0_8.length c0_8) := (blk_cell BK102.out 8).trans rfl
         have hfz14_0 := blk_frozen BK102.out 0
         have hfz14_1 := blk_frozen BK102.out 1
         have hfz14_2 := blk_frozen BK102.out 2
         have hfz14_3 := blk_frozen BK102.out 3
         have hfz14_4 := blk_frozen BK102.out 4
         have hfz14_5 := blk_frozen BK102.out 5
         have hfz14_6 := blk_frozen BK102.out 6
         have hfz14_7 := blk_frozen BK102.out 7
         have hfz14_8 := blk_frozen BK102.out 8
         have p103 : 0 ≤ (x3_2 : Int) := of_decide_eq_true (by first | (with_reducible assumption) | assumption)
         have q103 : x3_2 < (l0_8.length : Int) := of_decide_eq_true (by first | (with_reducible assumption) | assumption)
         obtain ⟨ad103, e103, hx103_0⟩ := Kd.at_string HR0_8.out x3_2 p103 q103
         cases e103
         replace hx103_0 := (HB.out.cell (World.block_lt_of_cell? w _ hx103_0)).trans hx103_0
         replace p103 := eq_true p103
         replace q103 := eq_true q103
         go_wp2
         go_roundg k2
         case measure => have := HJ1.out; have := HK2.out; omega
         case rel => exact ⟨(wrap64 (x3_2 + 1)), (by first | rfl | (simp; done) | (simp [*]; done)), H', ⟨by have := HJ1.out; have := HK2.out; omega⟩, ⟨kz BK102⟩, ⟨hz HB⟩⟩
       ·rw [if_neg c11] at H
        exact absurd H (by simp)
      ·rw [if_neg c10] at H
       have c10b0 : decide (x3_2 < (l0_8.length : Int)) = false := decide_eq_false c10
       clear c10
       obtain rfl := Option.some.inj H
       have hcz15_0 : wr.cell? ⟨gb102, 0, none⟩ = some (.int .i64 a0_0) := (blk_cell BK102.out 0).trans rfl
       have hcz15_1 : wr.cell? ⟨gb102, 1, none⟩ = some (.int .i64 a0_1) := (blk_cell BK102.out 1).trans rfl
       have hcz15_2 : wr.cell? ⟨gb102, 2, none⟩ = some (.int .i64 a0_2) := (blk_cell BK102.out 2).trans rfl
       have hcz15_3 : wr.cell? ⟨gb102, 3, none⟩ = some (.int .i64 a0_3) := (blk_cell BK102.out 3).trans rfl
       have hcz15_4 : wr.cell? ⟨gb102, 4, none⟩ = some (.string a0_4) := (blk_cell BK102.out 4).trans rfl
       have hcz15_5 : wr.cell? ⟨gb102, 5, none⟩ = some (.int .i64 a0_5) := (blk_cell BK102.out 5).trans rfl
       have hcz15_6 : wr.cell? ⟨gb102, 6, none⟩ = some (.int .i64 a0_6) := (blk_cell BK102.out 6).trans rfl
       have hcz15_7 : wr.cell? ⟨gb102, 7, none⟩ = some (.string a0_7) := (blk_cell BK102.out 7).trans rfl
       have hcz15_8 : wr.cell? ⟨gb102, 8, none⟩ = some (.slice A0_8 l0_8.length c0_8) := (blk_cell BK102.out 8).trans rfl
       have hfz15_0 := blk_frozen BK102.out 0
       have hfz15_1 := blk_frozen BK102.out 1
       have hfz15_2 := blk_frozen BK102.out 2
       have hfz15_3 := blk_frozen BK102.out 3
       have hfz15_4 := blk_frozen BK102.out 4
       have hfz15_5 := blk_frozen BK102.out 5
       have hfz15_6 := blk_frozen BK102.out 6
       have hfz15_7 := blk_frozen BK102.out 7
       have hfz15_8 := blk_frozen BK102.out 8
       go_wp2
       go_ret
       exact ⟨by first | rfl | (simp [errW_none, errW_some] <;> rfl) | (simp [*, errW_none, errW_some] <;> rfl), by repeat (first | (with_reducible first | exact HB.out | apply below_alloc | apply pw_below_drewN | apply below_drew1 | refine below_set ?_ GE102.out) | exact HB.out)⟩

end Go.Proofs.Ytdbiokmlgniobaa.PL22

namespace Go.Proofs.Ytdbiokmlgniobaa.PL22
open Go.RowKit Go.Proofs.YtdbiokmlgniobaaW.PrintWords Go.Proofs.YtdbiokmlgniobaaW.PrintLast Go.Proofs.YtdbiokmlgniobaaW.PrintMore
attribute [local go_sem] max2_int min2_int max_two min_two max_three min_three max_four min_four   -- for this text's walks alone
set_option linter.unusedVariables false
set_option linter.unusedSimpArgs false

attribute [local go_sem high] eqA23
mutual
def vitrineref20_Same.j0 : Nat → Bool → Int → Int → Int → Int → ByteArray → Int → Int → ByteArray → List ByteArray → Int → Int → Int → Int → ByteArray → Int → Int → ByteArray → List ByteArray → Option (Bool)
 | 0, _, _, _, _, _, _, _, _, _, _, _, _, _, _, _, _, _, _, _ => none
 | k + 1, x61, x133000, x133001, x133002, x133003, x133004, x133005, x133006, x133007, x133008, x134000, x134001, x134002, x134003, x134004, x134005, x134006, x134007, x134008 => if x61 = true then (some false) else (vitrineref20_Same.l0 k 0 x133000 x133001 x133002 x133003 x133004 x133005 x133006 x133007 x133008 x134000 x134001 x134002 x134003 x134004 x134005 x134006 x134007 x134008)
def vitrineref20_Same.l0 : Nat → Int → Int → Int → Int → Int → ByteArray → Int → Int → ByteArray → List ByteArray → Int → Int → Int → Int → ByteArray → Int → Int → ByteArray → List ByteArray → Option (Bool)
 | 0, _, _, _, _, _, _, _, _, _, _, _, _, _, _, _, _, _, _, _ => none
 | k + 1, x5, x133000, x133001, x133002, x133003, x133004, x133005, x133006, x133007, x133008, x134000, x134001, x134002, x134003, x134004, x134005, x134006, x134007, x134008 => if x5 < (x133008.length : Int) then (if 0 ≤ x5 then (if x5 < (x134008.length : Int) then (if (rdOf ByteArray.empty x133008 x5).toList = (rdOf ByteArray.empty x134008 x5).toList then (vitrineref20_Same.l0 k (wrap64 (x5 + 1)) x133000 x133001 x133002 x133003 x133004 x133005 x133006 x133007 x133008 x134000 x134001 x134002 x134003 x134004 x134005 x134006 x134007 x134008) else (some false)) else (none)) else (none)) else (some true)
end
def vitrineref20_Same.f (k : Nat) (a0_0 : Int) (a0_1 : Int) (a0_2 : Int) (a0_3 : Int) (a0_4 : ByteArray) (a0_5 : Int) (a0_6 : Int) (a0_7 : ByteArray) (l0_8 : List ByteArray) (a1_0 : Int) (a1_1 : Int) (a1_2 : Int) (a1_3 : Int) (a1_4 : ByteArray) (a1_5 : Int) (a1_6 : Int) (a1_7 : ByteArray) (l1_8 : List ByteArray) : Option (Bool) := if a0_0 = a1_0 then (if a0_1 = a1_1 then (if a0_2 = a1_2 then (if a0_3 = a1_3 then (if a0_4.toList = a1_4.toList then (if (!(a0_5 == a1_5) || (!(a0_6 == a1_6))) = true then (vitrineref20_Same.j0 k true a0_0 a0_1 a0_2 a0_3 a0_4 a0_5 a0_6 a0_7 l0_8 a1_0 a1_1 a1_2 a1_3 a1_4 a1_5 a1_6 a1_7 l1_8) else (if a0_7.toList = a1_7.toList then (vitrineref20_Same.j0 k ((l0_8.length : Int) != (l1_8.length : Int)) a0_0 a0_1 a0_2 a0_3 a0_4 a0_5 a0_6 a0_7 l0_8 a1_0 a1_1 a1_2 a1_3 a1_4 a1_5 a1_6 a1_7 l1_8) else (vitrineref20_Same.j0 k true a0_0 a0_1 a0_2 a0_3 a0_4 a0_5 a0_6 a0_7 l0_8 a1_0 a1_1 a1_2 a1_3 a1_4 a1_5 a1_6 a1_7 l1_8))) else (vitrineref20_Same.j0 k true a0_0 a0_1 a0_2 a0_3 a0_4 a0_5 a0_6 a0_7 l0_8 a1_0 a1_1 a1_2 a1_3 a1_4 a1_5 a1_6 a1_7 l1_8)) else (vitrineref20_Same.j0 k true a0_0 a0_1 a0_2 a0_3 a0_4 a0_5 a0_6 a0_7 l0_8 a1_0 a1_1 a1_2 a1_3 a1_4 a1_5 a1_6 a1_7 l1_8)) else (vitrineref20_Same.j0 k true a0_0 a0_1 a0_2 a0_3 a0_4 a0_5 a0_6 a0_7 l0_8 a1_0 a1_1 a1_2 a1_3 a1_4 a1_5 a1_6 a1_7 l1_8)) else (vitrineref20_Same.j0 k true a0_0 a0_1 a0_2 a0_3 a0_4 a0_5 a0_6 a0_7 l0_8 a1_0 a1_1 a1_2 a1_3 a1_4 a1_5 a1_6 a1_7 l1_8)) else (vitrineref20_Same.j0 k true a0_0 a0_1 a0_2 a0_3 a0_4 a0_5 a0_6 a0_7 l0_8 a1_0 a1_1 a1_2 a1_3 a1_4 a1_5 a1_6 a1_7 l1_8)
theorem vitrineref20_Same.mono_l : ∀ k, (∀ y0 y1 y2 y3 y4 y5 y6 y7 y8 y9 y10 y11 y12 y13 y14 y15 y16 y17 y18, LeO (vitrineref20_Same.j0 k y0 y1 y2 y3 y4 y5 y6 y7 y8 y9 y10 y11 y12 y13 y14 y15 y16 y17 y18) (vitrineref20_Same.j0 (k + 1) y0 y1 y2 y3 y4 y5 y6 y7 y8 y9 y10 y11 y12 y13 y14 y15 y16 y17 y18)) ∧ (∀ y0 y1 y2 y3 y4 y5 y6 y7 y8 y9 y10 y11 y12 y13 y14 y15 y16 y17 y18, LeO (vitrineref20_Same.l0 k y0 y1 y2 y3 y4 y5 y6 y7 y8 y9 y10 y11 y12 y13 y14 y15 y16 y17 y18) (vitrineref20_Same.l0 (k + 1) y0 y1 y2 y3 y4 y5 y6 y7 y8 y9 y10 y11 y12 y13 y14 y15 y16 y17 y18))
 | 0 => ⟨fun _ _ _ _ _ _ _ _ _ _ _ _ _ _ _ _ _ _ _ r h => by simp [vitrineref20_Same.j0] at h, fun _ _ _ _ _ _ _ _ _ _ _ _ _ _ _ _ _ _ _ r h => by simp [vitrineref20_Same.l0] at h⟩
 | k + 1 => by
  obtain ⟨ih0, ih1⟩ := vitrineref20_Same.mono_l k
  refine ⟨?_, ?_⟩
  ·intro y0 y1 y2 y3 y4 y5 y6 y7 y8 y9 y10 y11 y12 y13 y14 y15 y16 y17 y18
   unfold vitrineref20_Same.j0
   repeat' first
   | (with_reducible exact ih0 _ _ _ _ _ _ _ _ _ _ _ _ _ _ _ _ _ _ _)
   | (with_reducible exact ih1 _ _ _ _ _ _ _ _ _ _ _ _ _ _ _ _ _ _ _)
   | (with_reducible exact LeO.refl _)
   | (with_reducible exact LeO.none _)
   | (with_reducible refine LeO.ite ?_ ?_)
   | (with_reducible refine LeO.bind ?_ (fun _ => ?_))
   | exact ih0 _ _ _ _ _ _ _ _ _ _ _ _ _ _ _ _ _ _ _
   | exact ih1 _ _ _ _ _ _ _ _ _ _ _ _ _ _ _ _ _ _ _
   | exact LeO.none _
   | refine LeO.ite ?_ ?_
   | refine LeO.bind ?_ (fun _ => ?_)
  ·intro y0 y1 y2 y3 y4 y5 y6 y7 y8 y9 y10 y11 y12 y13 y14 y15 y16 y17 y18
   unfold vitrineref20_Same.l0
   repeat' first
   | (with_reducible exact ih0 _ _ _ _ _ _ _ _ _ _ _ _ _ _ _ _ _ _ _)
   | (with_reducible exact ih1 _ _ _ _ _ _ _ _ _ _ _ _ _ _ _ _ _ _ _)
   | (with_reducible exact LeO.refl _)
   | (with_reducible exact LeO.none _)
   | (with_reducible refine LeO.ite ?_ ?_)
   | (with_reducible refine LeO.bind ?_ (fun _ => ?_))
   | exact ih0 _ _ _ _ _ _ _ _ _ _ _ _ _ _ _ _ _ _ _
   | exact ih1 _ _ _ _ _ _ _ _ _ _ _ _ _ _ _ _ _ _ _
   | exact LeO.none _
   | refine LeO.ite ?_ ?_
   | refine LeO.bind ?_ (fun _ => ?_)
theorem vitrineref20_Same.mono : ∀ a0 a1 a2 a3 a4 a5 a6 a7 a8 a9 a10 a11 a12 a13 a14 a15 a16 a17 k, LeO (vitrineref20_Same.f k a0 a1 a2 a3 a4 a5 a6 a7 a8 a9 a10 a11 a12 a13 a14 a15 a16 a17) (vitrineref20_Same.f (k + 1) a0 a1 a2 a3 a4 a5 a6 a7 a8 a9 a10 a11 a12 a13 a14 a15 a16 a17) := by
 intro a0 a1 a2 a3 a4 a5 a6 a7 a8 a9 a10 a11 a12 a13 a14 a15 a16 a17 k
 obtain ⟨ih0, ih1⟩ := vitrineref20_Same.mono_l k
 unfold vitrineref20_Same.f
 repeat' first
   | (with_reducible exact ih0 _ _ _ _ _ _ _ _ _ _ _ _ _ _ _ _ _ _ _)
   | (with_reducible exact ih1 _ _ _ _ _ _ _ _ _ _ _ _ _ _ _ _ _ _ _)
   | (with_reducible exact LeO.refl _)
   | (with_reducible exact LeO.none _)
   | (with_reducible refine LeO.ite ?_ ?_)
   | (with_reducible refine LeO.bind ?_ (fun _ => ?_))
   | exact ih0 _ _ _ _ _ _ _ _ _ _ _ _ _ _ _ _ _ _ _
   | exact ih1 _ _ _ _ _ _ _ _ _ _ _ _ _ _ _ _ _ _ _
   | exact LeO.none _
   | refine LeO.ite ?_ ?_
   | refine LeO.bind ?_ (fun _ => ?_)
set_option maxHeartbeats 40000000 in
set_option maxRecDepth 100000 in
theorem vitrineref20_Same.calls (k : Nat) (a0_0 : Int) (a0_1 : Int) (a0_2 : Int) (a0_3 : Int) (a0_4 : ByteArray) (a0_5 : Int) (a0_6 : Int) (a0_7 : ByteArray) (A0_8 : Option Addr) (c0_8 : Nat) (l0_8 : List ByteArray) (a1_0 : Int) (a1_1 : Int) (a1_2 : Int) (a1_3 : Int) (a1_4 : ByteArray) (a1_5 : Int) (a1_6 : Int) (a1_7 : ByteArray) (A1_8 : Option Addr) (c1_8 : Nat) (l1_8 : List ByteArray) (r : Bool) (w : World) (hr0_8 : Kd.C Kd.string w A0_8 l0_8.length l0_8) (hc0_8 : l0_8.length ≤ c0_8) (hr1_8 : Kd.C Kd.string w A1_8 l1_8.length l1_8) (hc1_8 : l1_8.length ≤ c1_8) (h : vitrineref20_Same.f k a0_0 a0_1 a0_2 a0_3 a0_4 a0_5 a0_6 a0_7 l0_8 a1_0 a1_1 a1_2 a1_3 a1_4 a1_5 a1_6 a1_7 l1_8 = some r) :
  Calls Try.prog 36 #[.agg #[.int .i64 a0_0, .int .i64 a0_1, .int .i64 a0_2, .int .i64 a0_3, .string a0_4, .int .i64 a0_5, .int .i64 a0_6, .string a0_7, .slice A0_8 l0_8.length c0_8], .agg #[.int .i64 a1_0, .int .i64 a1_1, .int .i64 a1_2, .int .i64 a1_3, .string a1_4, .int .i64 a1_5, .int .i64 a1_6, .string a1_7, .slice A1_8 l1_8.length c1_8]] w fun e w' => e = .returned (.bool r) ∧ Below w.heap.size w w' := by
 have hu26 := Try.underlying26
 have hu23 := Try.underlying23
 have HR0_8 := Aside0.mk hr0_8
 have HC0_8 := Aside0.mk hc0_8
 clear hr0_8 hc0_8
 have HR1_8 := Aside0.mk hr1_8
 have HC1_8 := Aside0.mk hc1_8
 clear hr1_8 hc1_8
 have HB := Aside0.mk (Below.refl w.heap.size w)
 have H : (if a0_0 = a1_0 then (if a0_1 = a1_1 then (if a0_2 = a1_2 then (if a0_3 = a1_3 then (if a0_4.toList = a1_4.toList then (if (!(a0_5 == a1_5) || (!(a0_6 == a1_6))) = true then (vitrineref20_Same.j0 k true a0_0 a0_1 a0_2 a0_3 a0_4 a0_5 a0_6 a0_7 l0_8 a1_0 a1_1 a1_2 a1_3 a1_4 a1_5 a1_6 a1_7 l1_8) else (if a0_7.toList = a1_7.toList then (vitrineref20_Same.j0 k ((l0_8.length : Int) != (l1_8.length : Int)) a0_0 a0_1 a0_2 a0_3 a0_4 a0_5 a0_6 a0_7 l0_8 a1_0 a1_1 a1_2 a1_3 a1_4 a1_5 a1_6 a1_7 l1_8) else (vitrineref20_Same.j0 k true a0_0 a0_1 a0_2 a0_3 a0_4 a0_5 a0_6 a0_7 l0_8 a1_0 a1_1 a1_2 a1_3 a1_4 a1_5 a1_6 a1_7 l1_8))) else (vitrineref20_Same.j0 k true a0_0 a0_1 a0_2 a0_3 a0_4 a0_5 a0_6 a0_7 l0_8 a1_0 a1_1 a1_2 a1_3 a1_4 a1_5 a1_6 a1_7 l1_8)) else (vitrineref20_Same.j0 k true a0_0 a0_1 a0_2 a0_3 a0_4 a0_5 a0_6 a0_7 l0_8 a1_0 a1_1 a1_2 a1_3 a1_4 a1_5 a1_6 a1_7 l1_8)) else (vitrineref20_Same.j0 k true a0_0 a0_1 a0_2 a0_3 a0_4 a0_5 a0_6 a0_7 l0_8 a1_0 a1_1 a1_2 a1_3 a1_4 a1_5 a1_6 a1_7 l1_8)) else (vitrineref20_Same.j0 k true a0_0 a0_1 a0_2 a0_3 a0_4 a0_5 a0_6 a0_7 l0_8 a1_0 a1_1 a1_2 a1_3 a1_4 a1_5 a1_6 a1_7 l1_8)) else (vitrineref20_Same.j0 k true a0_0 a0_1 a0_2 a0_3 a0_4 a0_5 a0_6 a0_7 l0_8 a1_0 a1_1 a1_2 a1_3 a1_4 a1_5 a1_6 a1_7 l1_8)) = some r := h
 clear h
 have HC3 := Aside0.mk H
 clear H
 go_enter Try.func36, Try.ntmps36
 go_upto_region 1 with (first | ((with_reducible refine gate_dst (N := 2) rfl ?_); (try (refine gate_guard (by rfl) ?_; dsimp only)); refine box_event ?hg (N := 2) ?hd (cs := #[.int .i64 a0_0, .int .i64 a0_1, .int .i64 a0_2, .int .i64 a0_3, .string a0_4, .int .i64 a0_5, .int .i64 a0_6, .string a0_7, .slice A0_8 l0_8.length c0_8]) (t := 26) ?hr ?_; (case hd => rfl); (case hg => rfl); (case hr => first | (go_simp; done) | (go_simp; rfl)); intro gb132 hg w4 hbox hb; have n0_ := Aside0.mk (below_step (hz HB) hb); have n1_ := Aside0.mk (hbox); have n2_ := Aside0.mk ((by rw [hg]; exact (below_size (hz HB)) : w.heap.size ≤ gb132)); have n3_ := Aside0.mk ((by rw [hg]; exact (below_size (hz HB)) : w.heap.size ≤ gb132)); clear HB; have HB := n0_; have BK132 := n1_; have GW132 := n2_; have GE132 := n3_; clear n0_ n1_ n2_ n3_; clear hb hbox hg) | ((with_reducible refine gate_dst (N := 3) rfl ?_); (try (refine gate_guard (by rfl) ?_; dsimp only)); refine box_event ?hg (N := 3) ?hd (cs := #[.int .i64 a1_0, .int .i64 a1_1, .int .i64 a1_2, .int .i64 a1_3, .string a1_4, .int .i64 a1_5, .int .i64 a1_6, .string a1_7, .slice A1_8 l1_8.length c1_8]) (t := 26) ?hr ?_; (case hd => rfl); (case hg => rfl); (case hr => first | (go_simp; done) | (go_simp; rfl)); intro gb133 hg w5 hbox hb; have n0_ := Aside0.mk (blk_below (g := gb132) (o := .cells #[.int .i64 a0_0, .int .i64 a0_1, .int .i64 a0_2, .int .i64 a0_3, .string a0_4, .int .i64 a0_5, .int .i64 a0_6, .string a0_7, .slice A0_8 l0_8.length c0_8] 26 (0, 0)) (kz BK132) hb); have n1_ := Aside0.mk (below_step (hz HB) hb); have n2_ := Aside0.mk (hbox); have n3_ := Aside0.mk ((by rw [hg]; exact (below_size (hz HB)) : w.heap.size ≤ gb133)); have n4_ := Aside0.mk ((by rw [hg]; exact (below_size (hz HB)) : w.heap.size ≤ gb133)); have n5_ := Aside0.mk ((by rw [hg]; exact Nat.ne_of_lt (blk_lt (g := gb132) (o := .cells #[.int .i64 a0_0, .int .i64 a0_1, .int .i64 a0_2, .int .i64 a0_3, .string a0_4, .int .i64 a0_5, .int .i64 a0_6, .string a0_7, .slice A0_8 l0_8.length c0_8] 26 (0, 0)) (kz BK132)) : gb132 ≠ gb133)); have n6_ := Aside0.mk ((by rw [hg]; exact Nat.ne_of_gt (blk_lt (g := gb132) (o := .cells #[.int .i64 a0_0, .int .i64 a0_1, .int .i64 a0_2, .int .i64 a0_3, .string a0_4, .int .i64 a0_5, .int .i64 a0_6, .string a0_7, .slice A0_8 l0_8.length c0_8] 26 (0, 0)) (kz BK132)) : gb133 ≠ gb132)); clear BK132; clear HB; have BK132 := n0_; have HB := n1_; have BK133 := n2_; have GW133 := n3_; have GE133 := n4_; have NB132_133 := n5_; have NB133_132 := n6_; clear n0_ n1_ n2_ n3_ n4_ n5_ n6_; clear hb hbox hg))
 repeat (go_quiet (first | ((with_reducible refine gate_dst (N := 2) rfl ?_); (try (refine gate_guard (by rfl) ?_; dsimp only)); refine box_event ?hg (N := 2) ?hd (cs := #[.int .i64 a0_0, .int .i64 a0_1, .int .i64 a0_2, .int .i64 a0_3, .string a0_4, .int .i64 a0_5, .int .i64 a0_6, .string a0_7, .slice A0_8 l0_8.length c0_8]) (t := 26) ?hr ?_; (case hd => rfl); (case hg => rfl); (case hr => first | (go_simp; done) | (go_simp; rfl)); intro gb132 hg w4 hbox hb; have n0_ := Aside0.mk (below_step (hz HB) hb); have n1_ := Aside0.mk (hbox); have n2_ := Aside0.mk ((by rw [hg]; exact (below_size (hz HB)) : w.heap.size ≤ gb132)); have n3_ := Aside0.mk ((by rw [hg]; exact (below_size (hz HB)) : w.heap.size ≤ gb132)); clear HB; have HB := n0_; have BK132 := n1_; have GW132 := n2_; have GE132 := n3_; clear n0_ n1_ n2_ n3_; clear hb hbox hg) | ((with_reducible refine gate_dst (N := 3) rfl ?_); (try (refine gate_guard (by rfl) ?_; dsimp only)); refine box_event ?hg (N := 3) ?hd (cs := #[.int .i64 a1_0, .int .i64 a1_1, .int .i64 a1_2, .int .i64 a1_3, .string a1_4, .int .i64 a1_5, .int .i64 a1_6, .string a1_7, .slice A1_8 l1_8.length c1_8]) (t := 26) ?hr ?_; (case hd => rfl); (case hg => rfl); (case hr => first | (go_simp; done) | (go_simp; rfl)); intro gb133 hg w5 hbox hb; have n0_ := Aside0.mk (blk_below (g := gb132) (o := .cells #[.int .i64 a0_0, .int .i64 a0_1, .int .i64 a0_2, .int .i64 a0_3, .string a0_4, .int .i64 a0_5, .int .i64 a0_6, .string a0_7, .slice A0_8 l0_8.length c0_8] 26 (0, 0)) (kz BK132) hb); have n1_ := Aside0.mk (below_step (hz HB) hb); have n2_ := Aside0.mk (hbox); have n3_ := Aside0.mk ((by rw [hg]; exact (below_size (hz HB)) : w.heap.size ≤ gb133)); have n4_ := Aside0.mk ((by rw [hg]; exact (below_size (hz HB)) : w.heap.size ≤ gb133)); have n5_ := Aside0.mk ((by rw [hg]; exact Nat.ne_of_lt (blk_lt (g := gb132) (o := .cells #[.int .i64 a0_0, .int .i64 a0_1, .int .i64 a0_2, .int .i64 a0_3, .string a0_4, .int .i64 a0_5, .int .i64 a0_6, .string a0_7, .slice A0_8 l0_8.length c0_8] 26 (0, 0)) (kz BK132)) : gb132 ≠ gb133)); have n6_ := Aside0.mk ((by rw [hg]; exact Nat.ne_of_gt (blk_lt (g := gb132) (o := .cells #[.int .i64 a0_0, .int .i64 a0_1, .int .i64 a0_2, .int .i64 a0_3, .string a0_4, .int .i64 a0_5, .int .i64 a0_6, .string a0_7, .slice A0_8 l0_8.length c0_8] 26 (0, 0)) (kz BK132)) : gb133 ≠ gb132)); clear BK132; clear HB; have BK132 := n0_; have HB := n1_; have BK133 := n2_; have GW133 := n3_; have GE133 := n4_; have NB132_133 := n5_; have NB133_132 := n6_; clear n0_ n1_ n2_ n3_ n4_ n5_ n6_; clear hb hbox hg)); go_upto_region 1 with (first | ((with_reducible refine gate_dst (N := 2) rfl ?_); (try (refine gate_guard (by rfl) ?_; dsimp only)); refine box_event ?hg (N := 2) ?hd (cs := #[.int .i64 a0_0, .int .i64 a0_1, .int .i64 a0_2, .int .i64 a0_3, .string a0_4, .int .i64 a0_5, .int .i64 a0_6, .string a0_7, .slice A0_8 l0_8.length c0_8]) (t := 26) ?hr ?_; (case hd => rfl); (case hg => rfl); (case hr => first | (go_simp; done) | (go_simp; rfl)); intro gb132 hg w4 hbox hb; have n0_ := Aside0.mk (below_step (hz HB) hb); have n1_ := Aside0.mk (hbox); have n2_ := Aside0.mk ((by rw [hg]; exact (below_size (hz HB)) : w.heap.size ≤ gb132)); have n3_ := Aside0.mk ((by rw [hg]; exact (below_size (hz HB)) : w.heap.size ≤ gb132)); clear HB; have HB := n0_; have BK132 := n1_; have GW132 := n2_; have GE132 := n3_; clear n0_ n1_ n2_ n3_; clear hb hbox hg) | ((with_reducible refine gate_dst (N := 3) rfl ?_); (try (refine gate_guard (by rfl) ?_; dsimp only)); refine box_event ?hg (N := 3) ?hd (cs := #[.int .i64 a1_0, .int .i64 a1_1, .int .i64 a1_2, .int .i64 a1_3, .string a1_4, .int .i64 a1_5, .int .i64 a1_6, .string a1_7, .slice A1_8 l1_8.length c1_8]) (t := 26) ?hr ?_; (case hd => rfl); (case hg => rfl); (case hr => first | (go_simp; done) | (go_simp; rfl)); intro gb133 hg w5 hbox hb; have n0_ := Aside0.mk (blk_below (g := gb132) (o := .cells #[.int .i64 a0_0, .int .i64 a0_1, .int .i64 a0_2, .int .i64 a0_3, .string a0_4, .int .i64 a0_5, .int .i64 a0_6, .string a0_7, .slice A0_8 l0_8.length c0_8] 26 (0, 0)) (kz BK132) hb); have n1_ := Aside0.mk (below_step (hz HB) hb); have n2_ := Aside0.mk (hbox); have n3_ := Aside0.mk ((by rw [hg]; exact (below_size (hz HB)) : w.heap.size ≤ gb133)); have n4_ := Aside0.mk ((by rw [hg]; exact (below_size (hz HB)) : w.heap.size ≤ gb133)); have n5_ := Aside0.mk ((by rw [hg]; exact Nat.ne_of_lt (blk_lt (g := gb132) (o := .cells #[.int .i64 a0_0, .int .i64 a0_1, .int .i64 a0_2, .int .i64 a0_3, .string a0_4, .int .i64 a0_5, .int .i64 a0_6, .string a0_7, .slice A0_8 l0_8.length c0_8] 26 (0, 0)) (kz BK132)) : gb132 ≠ gb133)); have n6_ := Aside0.mk ((by rw [hg]; exact Nat.ne_of_gt (blk_lt (g := gb132) (o := .cells #[.int .i64 a0_0, .int .i64 a0_1, .int .i64 a0_2, .int .i64 a0_3, .string a0_4, .int .i64 a0_5, .int .i64 a0_6, .string a0_7, .slice A0_8 l0_8.length c0_8] 26 (0, 0)) (kz BK132)) : gb133 ≠ gb132)); clear BK132; clear HB; have BK132 := n0_; have HB := n1_; have BK133 := n2_; have GW133 := n3_; have GE133 := n4_; have NB132_133 := n5_; have NB133_132 := n6_; clear n0_ n1_ n2_ n3_ n4_ n5_ n6_; clear hb hbox hg)))
 (try simp only [Act.put, List.setIfInBounds_toArray, List.set_cons_zero, List.set_cons_succ])
 go_cut [61] (fun v61 wc => ∃ (kq : Nat) (x61_2 : Bool), v61 = .bool x61_2 ∧ Aside0 (vitrineref20_Same.j0 kq x61_2 a0_0 a0_1 a0_2 a0_3 a0_4 a0_5 a0_6 a0_7 l0_8 a1_0 a1_1 a1_2 a1_3 a1_4 a1_5 a1_6 a1_7 l1_8 = some r) ∧ Aside0 (kq ≤ k) ∧ Aside0 (wc.heap[gb132]? = some (.cells #[.int .i64 a0_0, .int .i64 a0_1, .int .i64 a0_2, .int .i64 a0_3, .string a0_4, .int .i64 a0_5, .int .i64 a0_6, .string a0_7, (.slice A0_8 l0_8.length c0_8)] 26 (0, 0))) ∧ Aside0 (wc.heap[gb133]? = some (.cells #[.int .i64 a1_0, .int .i64 a1_1, .int .i64 a1_2, .int .i64 a1_3, .string a1_4, .int .i64 a1_5, .int .i64 a1_6, .string a1_7, (.slice A1_8 l1_8.length c1_8)] 26 (0, 0))) ∧ Aside0 (Below w.heap.size w wc))
 case first =>
  have H := HC3.out
  clear HC3
  by_cases c6 : a0_0 = a1_0
  ·rw [if_pos c6] at H
   have c6b0 : (a0_0 == a1_0) = true := beq_iff_eq.mpr c6
   have c6b1 : (a0_0 != a1_0) = false := bne_eq_false_iff_eq.mpr c6
   clear c6
   (first | rw [c6b0] | (simp only [i64_w, i32_w]; rw [c6b0]) | skip)
   by_cases c7 : a0_1 = a1_1
   ·rw [if_pos c7] at H
    have c7b0 : (a0_1 == a1_1) = true := beq_iff_eq.mpr c7
    have c7b1 : (a0_1 != a1_1) = false := bne_eq_false_iff_eq.mpr c7
    clear c7
    by_cases c8 : a0_2 = a1_2
    ·rw [if_pos c8] at H
     have c8b0 : (a0_2 == a1_2) = true := beq_iff_eq.mpr c8
     have c8b1 : (a0_2 != a1_2) = false := bne_eq_false_iff_eq.mpr c8
     clear c8
     by_cases c9 : a0_3 = a1_3
     ·rw [if_pos c9] at H
      have c9b0 : (a0_3 == a1_3) = true := beq_iff_eq.mpr c9
      have c9b1 : (a0_3 != a1_3) = false := bne_eq_false_iff_eq.mpr c9
      clear c9
      by_cases c10 : a0_4.toList = a1_4.toList
      ·rw [if_pos c10] at H
       have c10b0 : (a0_4.toList == a1_4.toList) = true := beq_iff_eq.mpr c10
       have c10b1 : (a0_4.toList != a1_4.toList) = false := bne_eq_false_iff_eq.mpr c10
       clear c10
       by_cases c11 : (!(a0_5 == a1_5) || (!(a0_6 == a1_6))) = true
       ·rw [if_pos c11] at H
        have c11b0 : (!(a0_5 == a1_5) || (!(a0_6 == a1_6))) = true := c11
        clear c11
        have H' := Aside0.mk H
        clear H
        have hnb12 := NB132_133.out
        have hnc12 := NB133_132.out
        have hcz13_0 : w5.cell? ⟨gb132, 0, none⟩ = some (.int .i64 a0_0) := (blk_cell BK132.out 0).trans rfl
        have hcz13_1 : w5.cell? ⟨gb132, 1, none⟩ = some (.int .i64 a0_1) := (blk_cell BK132.out 1).trans rfl
        have hcz13_2 : w5.cell? ⟨gb132, 2, none⟩ = some (.int .i64 a0_2) := (blk_cell BK132.out 2).trans rfl
        have hcz13_3 : w5.cell? ⟨gb132, 3, none⟩ = some (.int .i64 a0_3) := (blk_cell BK132.out 3).trans rfl
        have hcz13_4 : w5.cell? ⟨gb132, 4, none⟩ = some (.string a0_4) := (blk_cell BK132.out 4).trans rfl
        have hcz13_5 : w5.cell? ⟨gb132, 5, none⟩ = some (.int .i64 a0_5) := (blk_cell BK132.out 5).trans rfl
        have hcz13_6 : w5.cell? ⟨gb132, 6, none⟩ = some (.int .i64 a0_6) := (blk_cell BK132.out 6).trans rfl
        have hcz13_7 : w5.cell? ⟨gb132, 7, none⟩ = some (.string a0_7) := (blk_cell BK132.out 7).trans rfl
        have hcz13_8 : w5.cell? ⟨gb132, 8, none⟩ = some (.slice A0_8 l0_8.length c0_8) := (blk_cell BK132.out 8).trans rfl
        have hfz13_0 := blk_frozen BK132.out 0
        have hfz13_1 := blk_frozen BK132.out 1
        have hfz13_2 := blk_frozen BK132.out 2
        have hfz13_3 := blk_frozen BK132.out 3
        have hfz13_4 := blk_frozen BK132.out 4
        have hfz13_5 := blk_frozen BK132.out 5
        have hfz13_6 := blk_frozen BK132.out 6
        have hfz13_7 := blk_frozen BK132.out 7
        have hfz13_8 := blk_frozen BK132.out 8
        have hcz14_0 : w5.cell? ⟨gb133, 0, none⟩ = some (.int .i64 a1_0) := (blk_cell BK133.out 0).trans rfl
        have hcz14_1 : w5.cell? ⟨gb133, 1, none⟩ = some (.int .i64 a1_1) := (blk_cell BK133.out 1).trans rfl
        have hcz14_2 : w5.cell? ⟨gb133, 2, none⟩ = some (.int .i64 a1_2) := (blk_cell BK133.out 2).trans rfl
        have hcz14_3 : w5.cell? ⟨gb133, 3, none⟩ = some (.int .i64 a1_3) := (blk_cell BK133.out 3).trans rfl
        have hcz14_4 : w5.cell? ⟨gb133, 4, none⟩ = some (.string a1_4) := (blk_cell BK133.out 4).trans rfl
        have hcz14_5 : w5.cell? ⟨gb133, 5, none⟩ = some (.int .i64 a1_5) := (blk_cell BK133.out 5).trans rfl
        have hcz14_6 : w5.cell? ⟨gb133, 6, none⟩ = some (.int .i64 a1_6) := (blk_cell BK133.out 6).trans rfl
        have hcz14_7 : w5.cell? ⟨gb133, 7, none⟩ = some (.string a1_7) := (blk_cell BK133.out 7).trans rfl
        have hcz14_8 : w5.cell? ⟨gb133, 8, none⟩ = some (.slice A1_8 l1_8.length c1_8) := (blk_cell BK133.out 8).trans rfl
        have hfz14_0 := blk_frozen BK133.out 0
        have hfz14_1 := blk_frozen BK133.out 1
        have hfz14_2 := blk_frozen BK133.out 2
        have hfz14_3 := blk_frozen BK133.out 3
        have hfz14_4 := blk_frozen BK133.out 4
        have hfz14_5 := blk_frozen BK133.out 5
        have hfz14_6 := blk_frozen BK133.out 6
        have hfz14_7 := blk_frozen BK133.out 7
        have hfz14_8 := blk_frozen BK133.out 8
        go_wp2
        repeat (go_quiet (fail); try go_wp2)
        go_meet
        case rel => exact ⟨_, (true), (by first | rfl | (simp; done) | (simp [*]; done)), H', ⟨by first | omega | exact Nat.le_refl _⟩, ⟨kz BK132⟩, ⟨kz BK133⟩, ⟨hz HB⟩⟩
       ·rw [if_neg c11] at H
        have c11b0 : (!(a0_5 == a1_5) || (!(a0_6 == a1_6))) = false := by simpa using c11
        clear c11
        by_cases c15 : a0_7.toList = a1_7.toList
        ·rw [if_pos c15] at H
         have c15b0 : (a0_7.toList == a1_7.toList) = true := beq_iff_eq.mpr c15
         have c15b1 : (a0_7.toList != a1_7.toList) = false := bne_eq_false_iff_eq.mpr c15
         clear c15
         have H' := Aside0.mk H
         clear H
         have hnb16 := NB132_133.out
         have hnc16 := NB133_132.out
         have hcz17_0 : w5.cell? ⟨gb132, 0, none⟩ = some (.int .i64 a0_0) := (blk_cell BK132.out 0).trans rfl
         have hcz17_1 : w5.cell? ⟨gb132, 1, none⟩ = some (.int .i64 a0_1) := (blk_cell BK132.out 1).trans rfl
         have hcz17_2 : w5.cell? ⟨gb132, 2, none⟩ = some (.int .i64 a0_2) := (blk_cell BK132.out 2).trans rfl
         have hcz17_3 : w5.cell? ⟨gb132, 3, none⟩ = some (.int .i64 a0_3) := (blk_cell BK132.out 3).trans rfl
         have hcz17_4 : w5.cell? ⟨gb132, 4, none⟩ = some (.string a0_4) := (blk_cell BK132.out 4).trans rfl
         have hcz17_5 : w5.cell? ⟨gb132, 5, none⟩ = some (.int .i64 a0_5) := (blk_cell BK132.out 5).trans rfl
         have hcz17_6 : w5.cell? ⟨gb132, 6, none⟩ = some (.int .i64 a0_6) := (blk_cell BK132.out 6).trans rfl
         have hcz17_7 : w5.cell? ⟨gb132, 7, none⟩ = some (.string a0_7) := (blk_cell BK132.out 7).trans rfl
         have hcz17_8 : w5.cell? ⟨gb132, 8, none⟩ = some (.slice A0_8 l0_8.length c0_8) := (blk_cell BK132.out 8).trans rfl
         have hfz17_0 := blk_frozen BK132.out 0
         have hfz17_1 := blk_frozen BK132.out 1
         have hfz17_2 := blk_frozen BK132.out 2
         have hfz17_3 := blk_frozen BK132.out 3
         have hfz17_4 := blk_frozen BK132.out 4
         have hfz17_5 := blk_frozen BK132.out 5
         have hfz17_6 := blk_frozen BK132.out 6
         have hfz17_7 := blk_frozen BK132.out 7
         have hfz17_8 := blk_frozen BK132.out 8
         have hcz18_0 : w5.cell? ⟨gb133, 0, none⟩ = some (.int .i64 a1_0) := (blk_cell BK133.out 0).trans rfl
         have hcz18_1 : w5.cell? ⟨gb133, 1, none⟩ = some (.int .i64 a1_1) := (blk_cell BK133.out 1).trans rfl
         have hcz18_2 : w5.cell? ⟨gb133, 2, none⟩ = some (.int .i64 a1_2) := (blk_cell BK133.out 2).trans rfl
         have hcz18_3 : w5.cell? ⟨gb133, 3, none⟩ = some (.int .i64 a1_3) := (blk_cell BK133.out 3).trans rfl
         have hcz18_4 : w5.cell? ⟨gb133, 4, none⟩ = some (.string a1_4) := (blk_cell BK133.out 4).trans rfl
         have hcz18_5 : w5.cell? ⟨gb133, 5, none⟩ = some (.int .i64 a1_5) := (blk_cell BK133.out 5).trans rfl
         have hcz18_6 : w5.cell? ⟨gb133, 6, none⟩ = some (.int .i64 a1_6) := (blk_cell BK133.out 6).trans rfl
         have hcz18_7 : w5.cell? ⟨gb133, 7, none⟩ = some (.string a1_7) := (blk_cell BK133.out 7).trans rfl
         have hcz18_8 : w5.cell? ⟨gb133, 8, none⟩ = some (.slice A1_8 l1_8.length c1_8) := (blk_cell BK133.out 8).trans rfl
         have hfz18_0 := blk_frozen BK133.out 0
         have hfz18_1 := blk_frozen BK133.out 1
         have hfz18_2 := blk_frozen BK133.out 2
         have hfz18_3 := blk_frozen BK133.out 3
         have hfz18_4 := blk_frozen BK133.out 4
         have hfz18_5 := blk_frozen BK133.out 5
         have hfz18_6 := blk_frozen BK133.out 6
         have hfz18_7 := blk_frozen BK133.out 7
         have hfz18_8 := blk_frozen BK133.out 8
         go_wp2
         repeat (go_quiet (fail); try go_wp2)
         go_meet
         case rel => exact ⟨_, (((l0_8.length : Int) != (l1_8.length : Int))), (by first | rfl | (simp; done) | (simp [*]; done)), H', ⟨by first | omega | exact Nat.le_refl _⟩, ⟨kz BK132⟩, ⟨kz BK133⟩, ⟨hz HB⟩⟩
        ·rw [if_neg c15] at H
         have c15b0 : (a0_7.toList == a1_7.toList) = false := beq_eq_false_iff_ne.mpr c15
         have c15b1 : (a0_7.toList != a1_7.toList) = true := bne_iff_ne.mpr c15
         have H' := Aside0.mk H
         clear H
         have hnb19 := NB132_133.out
         have hnc19 := NB133_132.out
         have hcz20_0 : w5.cell? ⟨gb132, 0, none⟩ = some (.int .i64 a0_0) := (blk_cell BK132.out 0).trans rfl
         have hcz20_1 : w5.cell? ⟨gb132, 1, none⟩ = some (.int .i64 a0_1) := (blk_cell BK132.out 1).trans rfl
         have hcz20_2 : w5.cell? ⟨gb132, 2, none⟩ = some (.int .i64 a0_2) := (blk_cell BK132.out 2).trans rfl
         have hcz20_3 : w5.cell? ⟨gb132, 3, none⟩ = some (.int .i64 a0_3) := (blk_cell BK132.out 3).trans rfl
         have hcz20_4 : w5.cell? ⟨gb132, 4, none⟩ = some (.string a0_4) := (blk_cell BK132.out 4).trans rfl
         have hcz20_5 : w5.cell? ⟨gb132, 5, none⟩ = some (.int .i64 a0_5) := (blk_cell BK132.out 5).trans rfl
         have hcz20_6 : w5.cell? ⟨gb132, 6, none⟩ = some (.int .i64 a0_6) := (blk_cell BK132.out 6).trans rfl
         have hcz20_7 : w5.cell? ⟨gb132, 7, none⟩ = some (.string a0_7) := (blk_cell BK132.out 7).trans rfl
         have hcz20_8 : w5.cell? ⟨gb132, 8, none⟩ = some (.slice A0_8 l0_8.length c0_8) := (blk_cell BK132.out 8).trans rfl
         have hfz20_0 := blk_frozen BK132.out 0
         have hfz20_1 := blk_frozen BK132.out 1
         have hfz20_2 := blk_frozen BK132.out 2
         have hfz20_3 := blk_frozen BK132.out 3
         have hfz20_4 := blk_frozen BK132.out 4
         have hfz20_5 := blk_frozen BK132.out 5
         have hfz20_6 := blk_frozen BK132.out 6
         have hfz20_7 := blk_frozen BK132.out 7
         have hfz20_8 := blk_frozen BK132.out 8
         have hcz21_0 : w5.cell? ⟨gb133, 0, none⟩ = some (.int .i64 a1_0) := (blk_cell BK133.out 0).trans rfl
         have hcz21_1 : w5.cell? ⟨gb133, 1, none⟩ = some (.int .i64 a1_1) := (blk_cell BK133.out 1).trans rfl
         have hcz21_2 : w5.cell? ⟨gb133, 2, none⟩ = some (.int .i64 a1_2) := (blk_cell BK133.out 2).trans rfl
         have hcz21_3 : w5.cell? ⟨gb133, 3, none⟩ = some (.int .i64 a1_3) := (blk_cell BK133.out 3).trans rfl
         have hcz21_4 : w5.cell? ⟨gb133, 4, none⟩ = some (.string a1_4) := (blk_cell BK133.out 4).trans rfl
         have hcz21_5 : w5.cell? ⟨gb133, 5, none⟩ = some (.int .i64 a1_5) := (blk_cell BK133.out 5).trans rfl
         have hcz21_6 : w5.cell? ⟨gb133, 6, none⟩ = some (.int .i64 a1_6) := (blk_cell BK133.out 6).trans rfl
         have hcz21_7 : w5.cell? ⟨gb133, 7, none⟩ = some (.string a1_7) := (blk_cell BK133.out 7).trans rfl
         have hcz21_8 : w5.cell? ⟨gb133, 8, none⟩ = some (.slice A1_8 l1_8.length c1_8) := (blk_cell BK133.out 8).trans rfl
         have hfz21_0 := blk_frozen BK133.out 0
         have hfz21_1 := blk_frozen BK133.out 1
         have hfz21_2 := blk_frozen BK133.out 2
         have hfz21_3 := blk_frozen BK133.out 3
         have hfz21_4 := blk_frozen BK133.out 4
         have hfz21_5 := blk_frozen BK133.out 5
         have hfz21_6 := blk_frozen BK133.out 6
         have hfz21_7 := blk_frozen BK133.out 7
         have hfz21_8 := blk_frozen BK133.out 8
         go_wp2
         repeat (go_quiet (fail); try go_wp2)
         go_meet
         case rel => exact ⟨_, (true), (by first | rfl | (simp; done) | (simp [*]; done)), H', ⟨by first | omega | exact Nat.le_refl _⟩, ⟨kz BK132⟩, ⟨kz BK133⟩, ⟨hz HB⟩⟩
      ·rw [if_neg c10] at H
       have c10b0 : (a0_4.toList == a1_4.toList) = false := beq_eq_false_iff_ne.mpr c10
       have c10b1 : (a0_4.toList != a1_4.toList) = true := bne_iff_ne.mpr c10
       have H' := Aside0.mk H
       clear H
       have hnb22 := NB132_133.out
       have hnc22 := NB133_132.out
       have hcz23_0 : w5.cell? ⟨gb132, 0, none⟩ = some (.int .i64 a0_0) := (blk_cell BK132.out 0).trans rfl
       have hcz23_1 : w5.cell? ⟨gb132, 1, none⟩ = some (.int .i64 a0_1) := (blk_cell BK132.out 1).trans rfl
       have hcz23_2 : w5.cell? ⟨gb132, 2, none⟩ = some (.int .i64 a0_2) := (blk_cell BK132.out 2).trans rfl
       have hcz23_3 : w5.cell? ⟨gb132, 3, none⟩ = some (.int .i64 a0_3) := (blk_cell BK132.out 3).trans rfl
       have hcz23_4 : w5.cell? ⟨gb132, 4, none⟩ = some (.string a0_4) := (blk_cell BK132.out 4).trans rfl
       have hcz23_5 : w5.cell? ⟨gb132, 5, none⟩ = some (.int .i64 a0_5) := (blk_cell BK132.out 5).trans rfl
       have hcz23_6 : w5.cell? ⟨gb132, 6, none⟩ = some (.int .i64 a0_6) := (blk_cell BK132.out 6).trans rfl
       have hcz23_7 : w5.cell? ⟨gb132, 7, none⟩ = some (.string a0_7) := (blk_cell BK132.out 7).trans rfl
       have hcz23_8 : w5.cell? ⟨gb132, 8, none⟩ = some (.slice A0_8 l0_8.length c0_8) := (blk_cell BK132.out 8).trans rfl
       have hfz23_0 := blk_frozen BK132.out 0
       have hfz23_1 := blk_frozen BK132.out 1
       have hfz23_2 := blk_frozen BK132.out 2
       have hfz23_3 := blk_frozen BK132.out 3
       have hfz23_4 := blk_frozen BK132.out 4
       have hfz23_5 := blk_frozen BK132.out 5
       have hfz23_6 := blk_frozen BK132.out 6
       have hfz23_7 := blk_frozen BK132.out 7
       have hfz23_8 := blk_frozen BK132.out 8
       have hcz24_0 : w5.cell? ⟨gb133, 0, none⟩ = some (.int .i64 a1_0) := (blk_cell BK133.out 0).trans rfl
       have hcz24_1 : w5.cell? ⟨gb133, 1, none⟩ = some (.int .i64 a1_1) := (blk_cell BK133.out 1).trans rfl
       have hcz24_2 : w5.cell? ⟨gb133, 2, none⟩ = some (.int .i64 a1_2) := (blk_cell BK133.out 2).trans rfl
       have hcz24_3 : w5.cell? ⟨gb133, 3, none⟩ = some (.int .i64 a1_3) := (blk_cell BK133.out 3).trans rfl
       have hcz24_4 : w5.cell? ⟨gb133, 4, none⟩ = some (.string a1_4) := (blk_cell BK133.out 4).trans rfl
       have hcz24_5 : w5.cell? ⟨gb133, 5, none⟩ = some (.int .i64 a1_5) := (blk_cell BK133.out 5).trans rfl
       have hcz24_6 : w5.cell? ⟨gb133, 6, none⟩ = some (.int .i64 a1_6) := (blk_cell BK133.out 6).trans rfl
       have hcz24_7 : w5.cell? ⟨gb133, 7, none⟩ = some (.string a1_7) := (blk_cell BK133.out 7).trans rfl
       have hcz24_8 : w5.cell? ⟨gb133, 8, none⟩ = some (.slice A1_8 l1_8.length c1_8) := (blk_cell BK133.out 8).trans rfl
       have hfz24_0 := blk_frozen BK133.out 0
       have hfz24_1 := blk_frozen BK133.out 1
       have hfz24_2 := blk_frozen BK133.out 2
       have hfz24_3 := blk_frozen BK133.out 3
       have hfz24_4 := blk_frozen BK133.out 4
       have hfz24_5 := blk_frozen BK133.out 5
       have hfz24_6 := blk_frozen BK133.out 6
       have hfz24_7 := blk_frozen BK133.out 7
       have hfz24_8 := blk_frozen BK133.out 8
       go_wp2
       repeat (go_quiet (fail); try go_wp2)
       go_meet
       case rel => exact ⟨_, (true), (by first | rfl | (simp; done) | (simp [*]; done)), H', ⟨by first | omega | exact Nat.le_refl _⟩, ⟨kz BK132⟩, ⟨kz BK133⟩, ⟨hz HB⟩⟩
     ·rw [if_neg c9] at H
      have c9b0 : (a0_3 == a1_3) = false := beq_eq_false_iff_ne.mpr c9
      have c9b1 : (a0_3 != a1_3) = true := bne_iff_ne.mpr c9
      have H' := Aside0.mk H
      clear H
      have hnb25 := NB132_133.out
      have hnc25 := NB133_132.out
      have hcz26_0 : w5.cell? ⟨gb132, 0, none⟩ = some (.int .i64 a0_0) := (blk_cell BK132.out 0).trans rfl
      have hcz26_1 : w5.cell? ⟨gb132, 1, none⟩ = some (.int .i64 a0_1) := (blk_cell BK132.out 1).trans rfl
      have hcz26_2 : w5.cell? ⟨gb132, 2, none⟩ = some (.int .i64 a0_2) := (blk_cell BK132.out 2).trans rfl
      have hcz26_3 : w5.cell? ⟨gb132, 3, none⟩ = some (.int .i64 a0_3) := (blk_cell BK132.out 3).trans rfl
      have hcz26_4 : w5.cell? ⟨gb132, 4, none⟩ = some (.string a0_4) := (blk_cell BK132.out 4).trans rfl
      have hcz26_5 : w5.cell? ⟨gb132, 5, none⟩ = some (.int .i64 a0_5) := (blk_cell BK132.out 5).trans rfl
      have hcz26_6 : w5.cell? ⟨gb132, 6, none⟩ = some (.int .i64 a0_6) := (blk_cell BK132.out 6).trans rfl
      have hcz26_7 : w5.cell? ⟨gb132, 7, none⟩ = some (.string a0_7) := (blk_cell BK132.out 7).trans rfl
      have hcz26_8 : w5.cell? ⟨gb132, 8, none⟩ = some (.slice A0_8 l0_8.length c0_8) := (blk_cell BK132.out 8).trans rfl
      have hfz26_0 := blk_frozen BK132.out 0
      have hfz26_1 := blk_frozen BK132.out 1
      have hfz26_2 := blk_frozen BK132.out 2
      have hfz26_3 := blk_frozen BK132.out 3
      have hfz26_4 := blk_frozen BK132.out 4
      have hfz26_5 := blk_frozen BK132.out 5
      have hfz26_6 := blk_frozen BK132.out 6
      have hfz26_7 := blk_frozen BK132.out 7
      have hfz26_8 := blk_frozen BK132.out 8
      have hcz27_0 : w5.cell? ⟨gb133, 0, none⟩ = some (.int .i64 a1_0) := (blk_cell BK133.out 0).trans rfl
      have hcz27_1 : w5.cell? ⟨gb133, 1, none⟩ = some (.int .i64 a1_1) := (blk_cell BK133.out 1).trans rfl
      have hcz27_2 : w5.cell? ⟨gb133, 2, none⟩ = some (.int .i64 a1_2) := (blk_cell BK133.out 2).trans rfl
      have hcz27_3 : w5.cell? ⟨gb133, 3, none⟩ = some (.int .i64 a1_3) := (blk_cell BK133.out 3).trans rfl
      have hcz27_4 : w5.cell? ⟨gb133, 4, none⟩ = some (.string a1_4) := (blk_cell BK133.out 4).trans rfl
      have hcz27_5 : w5.cell? ⟨gb133, 5, none⟩ = some (.int .i64 a1_5) := (blk_cell BK133.out 5).trans rfl
      have hcz27_6 : w5.cell? ⟨gb133, 6, none⟩ = some (.int .i64 a1_6) := (blk_cell BK133.out 6).trans rfl
      have hcz27_7 : w5.cell? ⟨gb133, 7, none⟩ = some (.string a1_7) := (blk_cell BK133.out 7).trans rfl
      have hcz27_8 : w5.cell? ⟨gb133, 8, none⟩ = some (.slice A1_8 l1_8.length c1_8) := (blk_cell BK133.out 8).trans rfl
      have hfz27_0 := blk_frozen BK133.out 0
      have hfz27_1 := blk_frozen BK133.out 1
      have hfz27_2 := blk_frozen BK133.out 2
      have hfz27_3 := blk_frozen BK133.out 3
      have hfz27_4 := blk_frozen BK133.out 4
      have hfz27_5 := blk_frozen BK133.out 5
      have hfz27_6 := blk_frozen BK133.out 6
      have hfz27_7 := blk_frozen BK133.out 7
      have hfz27_8 := blk_frozen BK133.out 8
      go_wp2
      repeat (go_quiet (fail); try go_wp2)
      go_meet
      case rel => exact ⟨_, (true), (by first | rfl | (simp; done) | (simp [*]; done)), H', ⟨by first | omega | exact Nat.le_refl _⟩, ⟨kz BK132⟩, ⟨kz BK133⟩, ⟨hz HB⟩⟩
    ·rw [if_neg c8] at H
     have c8b0 : (a0_2 == a1_2) = false := beq_eq_false_iff_ne.mpr c8
     have c8b1 : (a0_2 != a1_2) = true := bne_iff_ne.mpr c8
     have H' := Aside0.mk H
     clear H
     have hnb28 := NB132_133.out
     have hnc28 := NB133_132.out
     have hcz29_0 : w5.cell? ⟨gb132, 0, none⟩ = some (.int .i64 a0_0) := (blk_cell BK132.out 0).trans rfl
     have hcz29_1 : w5.cell? ⟨gb132, 1, none⟩ = some (.int .i64 a0_1) := (blk_cell BK132.out 1).trans rfl
     have hcz29_2 : w5.cell? ⟨gb132, 2, none⟩ = some (.int .i64 a0_2) := (blk_cell BK132.out 2).trans rfl
     have hcz29_3 : w5.cell? ⟨gb132, 3, none⟩ = some (.int .i64 a0_3) := (blk_cell BK132.out 3).trans rfl
     have hcz29_4 : w5.cell? ⟨gb132, 4, none⟩ = some (.string a0_4) := (blk_cell BK132.out 4).trans rfl
     have hcz29_5 : w5.cell? ⟨gb132, 5, none⟩ = some (.int .i64 a0_5) := (blk_cell BK132.out 5).trans rfl
     have hcz29_6 : w5.cell? ⟨gb132, 6, none⟩ = some (.int .i64 a0_6) := (blk_cell BK132.out 6).trans rfl
     have hcz29_7 : w5.cell? ⟨gb132, 7, none⟩ = some (.string a0_7) := (blk_cell BK132.out 7).trans rfl
     have hcz29_8 : w5.cell? ⟨gb132, 8, none⟩ = some (.slice A0_8 l0_8.length c0_8) := (blk_cell BK132.out 8).trans rfl
     have hfz29_0 := blk_frozen BK132.out 0
     have hfz29_1 := blk_frozen BK132.out 1
     have hfz29_2 := blk_frozen BK132.out 2
     have hfz29_3 := blk_frozen BK132.out 3
     have hfz29_4 := blk_frozen BK132.out 4
     have hfz29_5 := blk_frozen BK132.out 5
     have hfz29_6 := blk_frozen BK132.out 6
     have hfz29_7 := blk_frozen BK132.out 7
     have hfz29_8 := blk_frozen BK132.out 8
     have hcz30_0 : w5.cell? ⟨gb133, 0, none⟩ = some (.int .i64 a1_0) := (blk_cell BK133.out 0).trans rfl
     have hcz30_1 : w5.cell? ⟨gb133, 1, none⟩ = some (.int .i64 a1_1) := (blk_cell BK133.out 1).trans rfl
     have hcz30_2 : w5.cell? ⟨gb133, 2, none⟩ = some (.int .i64 a1_2) := (blk_cell BK133.out 2).trans rfl
     have hcz30_3 : w5.cell? ⟨gb133, 3, none⟩ = some (.int .i64 a1_3) := (blk_cell BK133.out 3).trans rfl
     have hcz30_4 : w5.cell? ⟨gb133, 4, none⟩ = some (.string a1_4) := (blk_cell BK133.out 4).trans rfl
     have hcz30_5 : w5.cell? ⟨gb133, 5, none⟩ = some (.int .i64 a1_5) := (blk_cell BK133.out 5).trans rfl
     have hcz30_6 : w5.cell? ⟨gb133, 6, none⟩ = some (.int .i64 a1_6) := (blk_cell BK133.out 6).trans rfl
     have hcz30_7 : w5.cell? ⟨gb133, 7, none⟩ = some (.string a1_7) := (blk_cell BK133.out 7).trans rfl
     have hcz30_8 : w5.cell? ⟨gb133, 8, none⟩ = some (.slice A1_8 l1_8.length c1_8) := (blk_cell BK133.out 8).trans rfl
     have hfz30_0 := blk_frozen BK133.out 0
     have hfz30_1 := blk_frozen BK133.out 1
     have hfz30_2 := blk_frozen BK133.out 2
     have hfz30_3 := blk_frozen BK133.out 3
     have hfz30_4 := blk_frozen BK133.out 4
     have hfz30_5 := blk_frozen BK133.out 5
     have hfz30_6 := blk_frozen BK133.out 6
     have hfz30_7 := blk_frozen BK133.out 7
     have hfz30_8 := blk_frozen BK133.out 8
     go_wp2
     repeat (go_quiet (fail); try go_wp2)
     go_meet
     case rel => exact ⟨_, (true), (by first | rfl | (simp; done) | (simp [*]; done)), H', ⟨by first | omega | exact Nat.le_refl _⟩, ⟨kz BK132⟩, ⟨kz BK133⟩, ⟨hz HB⟩⟩
   ·rw [if_neg c7] at H
    have c7b0 : (a0_1 == a1_1) = false := beq_eq_false_iff_ne.mpr c7
    have c7b1 : (a0_1 != a1_1) = true := bne_iff_ne.mpr c7
    have H' := Aside0.mk H
    clear H
    have hnb31 := NB132_133.out
    have hnc31 := NB133_132.out
    have hcz32_0 : w5.cell? ⟨gb132, 0, none⟩ = some (.int .i64 a0_0) := (blk_cell BK132.out 0).trans rfl
    have hcz32_1 : w5.cell? ⟨gb132, 1, none⟩ = some (.int .i64 a0_1) := (blk_cell BK132.out 1).trans rfl
    have hcz32_2 : w5.cell? ⟨gb132, 2, none⟩ = some (.int .i64 a0_2) := (blk_cell BK132.out 2).trans rfl
    have hcz32_3 : w5.cell? ⟨gb132, 3, none⟩ = some (.int .i64 a0_3) := (blk_cell BK132.out 3).trans rfl
    have hcz32_4 : w5.cell? ⟨gb132, 4, none⟩ = some (.string a0_4) := (blk_cell BK132.out 4).trans rfl
    have hcz32_5 : w5.cell? ⟨gb132, 5, none⟩ = some (.int .i64 a0_5) := (blk_cell BK132.out 5).trans rfl
    have hcz32_6 : w5.cell? ⟨gb132, 6, none⟩ = some (.int .i64 a0_6) := (blk_cell BK132.out 6).trans rfl
    have hcz32_7 : w5.cell? ⟨gb132, 7, none⟩ = some (.string a0_7) := (blk_cell BK132.out 7).trans rfl
    have hcz32_8 : w5.cell? ⟨gb132, 8, none⟩ = some (.slice A0_8 l0_8.length c0_8) := (blk_cell BK132.out 8).trans rfl
    have hfz32_0 := blk_frozen BK132.out 0
    have hfz32_1 := blk_frozen BK132.out 1
    have hfz32_2 := blk_frozen BK132.out 2
    have hfz32_3 := blk_frozen BK132.out 3
    have hfz32_4 := blk_frozen BK132.out 4
    have hfz32_5 := blk_frozen BK132.out 5
    have hfz32_6 := blk_frozen BK132.out 6
    have hfz32_7 := blk_frozen BK132.out 7
    have hfz32_8 := blk_frozen BK132.out 8
    have hcz33_0 : w5.cell? ⟨gb133, 0, none⟩ = some (.int .i64 a1_0) := (blk_cell BK133.out 0).trans rfl
    have hcz33_1 : w5.cell? ⟨gb133, 1, none⟩ = some (.int .i64 a1_1) := (blk_cell BK133.out 1).trans rfl
    have hcz33_2 : w5.cell? ⟨gb133, 2, none⟩ = some (.int .i64 a1_2) := (blk_cell BK133.out 2).trans rfl
    have hcz33_3 : w5.cell? ⟨gb133, 3, none⟩ = some (.int .i64 a1_3) := (blk_cell BK133.out 3).trans rfl
    have hcz33_4 : w5.cell? ⟨gb133, 4, none⟩ = some (.string a1_4) := (blk_cell BK133.out 4).trans rfl
    have hcz33_5 : w5.cell? ⟨gb133, 5, none⟩ = some (.int .i64 a1_5) := (blk_cell BK133.out 5).trans rfl
    have hcz33_6 : w5.cell? ⟨gb133, 6, none⟩ = some (.int .i64 a1_6) := (blk_cell BK133.out 6).trans rfl
    have hcz33_7 : w5.cell? ⟨gb133, 7, none⟩ = some (.string a1_7) := (blk_cell BK133.out 7).trans rfl
    have hcz33_8 : w5.cell? ⟨gb133, 8, none⟩ = some (.slice A1_8 l1_8.length c1_8) := (blk_cell BK133.out 8).trans rfl
    have hfz33_0 := blk_frozen BK133.out 0
    have hfz33_1 := blk_frozen BK133.out 1
    have hfz33_2 := blk_frozen BK133.out 2
    have hfz33_3 := blk_frozen BK133.out 3
    have hfz33_4 := blk_frozen BK133.out 4
    have hfz33_5 := blk_frozen BK133.out 5
    have hfz33_6 := blk_frozen BK133.out 6
    have hfz33_7 := blk_frozen BK133.out 7
    have hfz33_8 := blk_frozen BK133.out 8
    go_wp2
    repeat (go_quiet (fail); try go_wp2)
    go_meet
    case rel => exact ⟨_, (true), (by first | rfl | (simp; done) | (simp [*]; done)), H', ⟨by first | omega | exact Nat.le_refl _⟩, ⟨kz BK132⟩, ⟨kz BK133⟩, ⟨hz HB⟩⟩
  ·rw [if_neg c6] at H
   have c6b0 : (a0_0 == a1_0) = false := beq_eq_false_iff_ne.mpr c6
   have c6b1 : (a0_0 != a1_0) = true := bne_iff_ne.mpr c6
   (first | rw [c6b0] | (simp only [i64_w, i32_w]; rw [c6b0]) | skip)
   have H' := Aside0.mk H
   clear H
   have hnb34 := NB132_133.out
   have hnc34 := NB133_132.out
   have hcz35_0 : w5.cell? ⟨gb132, 0, none⟩ = some (.int .i64 a0_0) := (blk_cell BK132.out 0).trans rfl
   have hcz35_1 : w5.cell? ⟨gb132, 1, none⟩ = some (.int .i64 a0_1) := (blk_cell BK132.out 1).trans rfl
   have hcz35_2 : w5.cell? ⟨gb132, 2, none⟩ = some (.int .i64 a0_2) := (blk_cell BK132.out 2).trans rfl
   have hcz35_3 : w5.cell? ⟨gb132, 3, none⟩ = some (.int .i64 a0_3) := (blk_cell BK132.out 3).trans rfl
   have hcz35_4 : w5.cell? ⟨gb132, 4, none⟩ = some (.string a0_4) := (blk_cell BK132.out 4).trans rfl
   have hcz35_5 : w5.cell? ⟨gb132, 5, none⟩ = some (.int .i64 a0_5) := (blk_cell BK132.out 5).trans rfl
   have hcz35_6 : w5.cell? ⟨gb132, 6, none⟩ = some (.int .i64 a0_6) := (blk_cell BK132.out 6).trans rfl
   have hcz35_7 : w5.cell? ⟨gb132, 7, none⟩ = some (.string a0_7) := (blk_cell BK132.out 7).trans rfl
   have hcz35_8 : w5.cell? ⟨gb132, 8, none⟩ = some (.slice A0_8 l0_8.length c0_8) := (blk_cell BK132.out 8).trans rfl
   have hfz35_0 := blk_frozen BK132.out 0
   have hfz35_1 := blk_frozen BK132.out 1
   have hfz35_2 := blk_frozen BK132.out 2
   have hfz35_3 := blk_frozen BK132.out 3
   have hfz35_4 := blk_frozen BK132.out 4
   have hfz35_5 := blk_frozen BK132.out 5
   have hfz35_6 := blk_frozen BK132.out 6
   have hfz35_7 := blk_frozen BK132.out 7
   have hfz35_8 := blk_frozen BK132.out 8
   have hcz36_0 : w5.cell? ⟨gb133, 0, none⟩ = some (.int .i64 a1_0) := (blk_cell BK133.out 0).trans rfl
   have hcz36_1 : w5.cell? ⟨gb133, 1, none⟩ = some (.int .i64 a1_1) := (blk_cell BK133.out 1).trans rfl
   have hcz36_2 : w5.cell? ⟨gb133, 2, none⟩ = some (.int .i64 a1_2) := (blk_cell BK133.out 2).trans rfl
   have hcz36_3 : w5.cell? ⟨gb133, 3, none⟩ = some (.int .i64 a1_3) := (blk_cell BK133.out 3).trans rfl
   have hcz36_4 : w5.cell? ⟨gb133, 4, none⟩ = some (.string a1_4) := (blk_cell BK133.out 4).trans rfl
   have hcz36_5 : w5.cell? ⟨gb133, 5, none⟩ = some (.int .i64 a1_5) := (blk_cell BK133.out 5).trans rfl
   have hcz36_6 : w5.cell? ⟨gb133, 6, none⟩ = some (.int .i64 a1_6) := (blk_cell BK133.out 6).trans rfl
   have hcz36_7 : w5.cell? ⟨gb133, 7, none⟩ = some (.string a1_7) := (blk_cell BK133.out 7).trans rfl
   have hcz36_8 : w5.cell? ⟨gb133, 8, none⟩ = some (.slice A1_8 l1_8.length c1_8) := (blk_cell BK133.out 8).trans rfl
   have hfz36_0 := blk_frozen BK133.out 0
   have hfz36_1 := blk_frozen BK133.out 1
   have hfz36_2 := blk_frozen BK133.out 2
   have hfz36_3 := blk_frozen BK133.out 3
   have hfz36_4 := blk_frozen BK133.out 4
   have hfz36_5 := blk_frozen BK133.out 5
   have hfz36_6 := blk_frozen BK133.out 6
   have hfz36_7 := blk_frozen BK133.out 7
   have hfz36_8 := blk_frozen BK133.out 8
   go_wp2
   repeat (go_quiet (fail); try go_wp2)
   go_meet
   case rel => exact ⟨_, (true), (by first | rfl | (simp; done) | (simp [*]; done)), H', ⟨by first | omega | exact Nat.le_refl _⟩, ⟨kz BK132⟩, ⟨kz BK133⟩, ⟨hz HB⟩⟩
 case rest =>
  clear HC3
  obtain ⟨kq, x61_2, rfl, HA, HJ2, BK132, BK133, HB⟩ := hcut
  cases kq with
  | zero => exact absurd HA.out (by simp [vitrineref20_Same.j0])
  | succ kj2 =>
   have H := HA.out
   clear HA
   simp only [vitrineref20_Same.j0] at H
   by_cases c37 : x61_2 = true
   ·subst c37
    have H1 : (some false) = some r := by rw [if_pos rfl] at H; exact H
    clear H
    have H := H1
    clear H1
    obtain rfl := Option.some.inj H
    go_wp2
    repeat (go_quiet (fail); try go_wp2)
    go_ret
    exact ⟨by first | rfl | (simp [errW_none, errW_some] <;> rfl) | (simp [*, errW_none, errW_some] <;> rfl), by repeat (first | (with_reducible first | exact HB.out | apply below_alloc | apply pw_below_drewN | apply below_drew1 | refine below_set ?_ GE132.out | refine below_set ?_ GE133.out) | exact HB.out)⟩
   ·replace c37 := Bool.eq_false_iff.mpr c37
    subst c37
    have H1 : (vitrineref20_Same.l0 kj2 0 a0_0 a0_1 a0_2 a0_3 a0_4 a0_5 a0_6 a0_7 l0_8 a1_0 a1_1 a1_2 a1_3 a1_4 a1_5 a1_6 a1_7 l1_8) = some r := by rw [if_neg (show ¬ (false = true) by decide)] at H; exact H
    clear H
    have H := H1
    clear H1
    have H' := Aside0.mk H
    clear H
    go_wp2
    repeat (go_quiet (fail); try go_wp2)
    go_loopg [5] kj2 (fun kq v5 w' => ∃ (x5_2 : Int), v5 = .int .i64 x5_2 ∧ Aside0 (vitrineref20_Same.l0 kq x5_2 a0_0 a0_1 a0_2 a0_3 a0_4 a0_5 a0_6 a0_7 l0_8 a1_0 a1_1 a1_2 a1_3 a1_4 a1_5 a1_6 a1_7 l1_8 = some r) ∧ Aside0 (kq ≤ kj2) ∧ Aside0 (w'.heap[gb132]? = some (.cells #[.int .i64 a0_0, .int .i64 a0_1, .int .i64 a0_2, .int .i64 a0_3, .string a0_4, .int .i64 a0_5, .int .i64 a0_6, .string a0_7, (.slice A0_8 l0_8.length c0_8)] 26 (0, 0))) ∧ Aside0 (w'.heap[gb133]? = some (.cells #[.int .i64 a1_0, .int .i64 a1_1, .int .i64 a1_2, .int .i64 a1_3, .string a1_4, .int .i64 a1_5, .int .i64 a1_6, .string a1_7, (.slice A1_8 l1_8.length c1_8)] 26 (0, 0))) ∧ Aside0 (Below w.heap.size w w'))
    case atStart => exact ⟨(0), (by first | rfl | (simp; done) | (simp [*]; done)), H', ⟨Nat.le_refl _⟩, ⟨kz BK132⟩, ⟨kz BK133⟩, ⟨hz HB⟩⟩
    case round =>
     clear H'
     try clear c37
     obtain ⟨x5_2, rfl, HA, HK2, BK132, BK133, HB⟩ := hrel
     cases gk with
     | zero => exact absurd HA.out (by simp [vitrineref20_Same.l0])
     | succ k2 =>
      have H := HA.out
      clear HA
      simp only [vitrineref20_Same.l0] at H
      by_cases c38 : x5_2 < (l0_8.length : Int)
      ·rw [if_pos c38] at H
       have c38b0 : decide (x5_2 < (l0_8.length : Int)) = true := decide_eq_true c38
       clear c38
       by_cases c39 : 0 ≤ x5_2
       ·rw [if_pos c39] at H
        have c39b0 : decide (0 ≤ x5_2) = true := decide_eq_true c39
        clear c39
        by_cases c40 : x5_2 < (l1_8.length : Int)
        ·rw [if_pos c40] at H
         have c40b0 : decide (x5_2 < (l1_8.length : Int)) = true := decide_eq_true c40
         clear c40
         by_cases c41 : (rdOf ByteArray.empty l0_8 x5_2).toList = (rdOf ByteArray.empty l1_8 x5_2).toList
         ·rw [if_pos c41] at H
          have c41b0 : ((rdOf ByteArray.empty l0_8 x5_2).toList == (rdOf ByteArray.empty l1_8 x5_2).toList) = true := beq_iff_eq.mpr c41
          have c41b1 : ((rdOf ByteArray.empty l0_8 x5_2).toList != (rdOf ByteArray.empty l1_8 x5_2).toList) = false := bne_eq_false_iff_eq.mpr c41
          clear c41
          have H' := Aside0.mk H
          clear H
          have hnb42 := NB132_133.out
          have hnc42 := NB133_132.out
          have hcz43_0 : wr.cell? ⟨gb132, 0, none⟩ = some (.int .i64 a0_0) := (blk_cell BK132.out 0).trans rfl
          have hcz43_1 : wr.cell? ⟨gb132, 1, none⟩ = some (.int .i64 a0_1) := (blk_cell BK132.out 1).trans rfl
          have hcz43_2 : wr.cell? ⟨gb132, 2, none⟩ = some (.int .i64 a0_2) := (blk_cell BK132.out 2).trans rfl
          have hcz43_3 : wr.cell? ⟨gb132, 3, none⟩ = some (.int .i64 a0_3) := (blk_cell BK132.out 3).trans rfl
          have hcz43_4 : wr.cell? ⟨gb132, 4, none⟩ = some (.string a0_4) := (blk_cell BK132.out 4).trans rfl
          have hcz43_5 : wr.cell? ⟨gb132, 5, none⟩ = some (.int .i64 a0_5) := (blk_cell BK132.out 5).trans rfl
          have hcz43_6 : wr.cell? ⟨gb132, 6, none⟩ = some (.int .i64 a0_6) := (blk_cell BK132.out 6).trans rfl
          have hcz43_7 : wr.cell? ⟨gb132, 7, none⟩ = some (.string a0_7) := (blk_cell BK132.out 7).trans rfl
          have hcz43_8 : wr.cell? ⟨gb132, 8, none⟩ = some (.slice A0_8 l0_8.length c0_8) := (blk_cell BK132.out 8).trans rfl
          have hfz43_0 := blk_frozen BK132.out 0
          have hfz43_1 := blk_frozen BK132.out 1
          have hfz43_2 := blk_frozen BK132.out 2
          have hfz43_3 := blk_frozen BK132.out 3
          have hfz43_4 := blk_frozen BK132.out 4
          have hfz43_5 := blk_frozen BK132.out 5
          have hfz43_6 := blk_frozen BK132.out 6
          have hfz43_7 := blk_frozen BK132.out 7
          have hfz43_8 := blk_frozen BK132.out 8
          have p134 : 0 ≤ (x5_2 : Int) := of_decide_eq_true (by first | (with_reducible assumption) | assumption)
          have q134 : x5_2 < (l0_8.length : Int) := of_decide_eq_true (by first | (with_reducible assumption) | assumption)
          obtain ⟨ad134, e134, hx134_0⟩ := Kd.at_string HR0_8.out x5_2 p134 q134
          cases e134
          replace hx134_0 := (HB.out.cell (World.block_lt_of_cell? w _ hx134_0)).trans hx134_0
          replace p134 := eq_true p134
          replace q134 := eq_true q134
          have hcz44_0 : wr.cell? ⟨gb133, 0, none⟩ = some (.int .i64 a1_0) := (blk_cell BK133.out 0).trans rfl
          have hcz44_1 : wr.cell? ⟨gb133, 1, none⟩ = some (.int .i64 a1_1) := (blk_cell BK133.out 1).trans rfl
          have hcz44_2 : wr.cell? ⟨gb133, 2, none⟩ = some (.int .i64 a1_2) := (blk_cell BK133.out 2).trans rfl
          have hcz44_3 : wr.cell? ⟨gb133, 3, none⟩ = some (.int .i64 a1_3) := (blk_cell BK133.out 3).trans rfl
          have hcz44_4 : wr.cell? ⟨gb133, 4, none⟩ = some (.string a1_4) := (blk_cell BK133.out 4).trans rfl
          have hcz44_5 : wr.cell? ⟨gb133, 5, none⟩ = some (.int .i64 a1_5) := (blk_cell BK133.out 5).trans rfl
          have hcz44_6 : wr.cell? ⟨gb133, 6, none⟩ = some (.int .i64 a1_6) := (blk_cell BK133.out 6).trans rfl
          have hcz44_7 : wr.cell? ⟨gb133, 7, none⟩ = some (.string a1_7) := (blk_cell BK133.out 7).trans rfl
          have hcz44_8 : wr.cell? ⟨gb133, 8, none⟩ = some (.slice A1_8 l1_8.length c1_8) := (blk_cell BK133.out 8).trans rfl
          have hfz44_0 := blk_frozen BK133.out 0
          have hfz44_1 := blk_frozen BK133.out 1
          have hfz44_2 := blk_frozen BK133.out 2
          have hfz44_3 := blk_frozen BK133.out 3
          have hfz44_4 := blk_frozen BK133.out 4
          have hfz44_5 := blk_frozen BK133.out 5
          have hfz44_6 := blk_frozen BK133.out 6
          have hfz44_7 := blk_frozen BK133.out 7
          have hfz44_8 := blk_frozen BK133.out 8
          have p135 : 0 ≤ (x5_2 : Int) := of_decide_eq_true (by first | (with_reducible assumption) | assumption)
          have q135 : x5_2 < (l1_8.length : Int) := of_decide_eq_true (by first | (with_reducible assumption) | assumption)
          obtain ⟨ad135, e135, hx135_0⟩ := Kd.at_string HR1_8.out x5_2 p135 q135
          cases e135
          replace hx135_0 := (HB.out.cell (World.block_lt_of_cell? w _ hx135_0)).trans hx135_0
          replace p135 := eq_true p135
          replace q135 := eq_true q135
          go_wp2
          repeat (go_quiet (fail); try go_wp2)
          go_roundg k2
          case measure => have := HJ2.out; have := HK2.out; omega
          case rel => exact ⟨(wrap64 (x5_2 + 1)), (by first | rfl | (simp; done) | (simp [*]; done)), H', ⟨by have := HJ2.out; have := HK2.out; omega⟩, ⟨kz BK132⟩, ⟨kz BK133⟩, ⟨hz HB⟩⟩
         ·rw [if_neg c41] at H
          have c41b0 : ((rdOf ByteArray.empty l0_8 x5_2).toList == (rdOf ByteArray.empty l1_8 x5_2).toList) = false := beq_eq_false_iff_ne.mpr c41
          have c41b1 : ((rdOf ByteArray.empty l0_8 x5_2).toList != (rdOf ByteArray.empty l1_8 x5_2).toList) = true := bne_iff_ne.mpr c41
          obtain rfl := Option.some.inj H
          have hnb45 := NB132_133.out
          have hnc45 := NB133_132.out
          have hcz46_0 : wr.cell? ⟨gb132, 0, none⟩ = some (.int .i64 a0_0) := (blk_cell BK132.out 0).trans rfl
          have hcz46_1 : wr.cell? ⟨gb132, 1, none⟩ = some (.int .i64 a0_1) := (blk_cell BK132.out 1).trans rfl
          have hcz46_2 : wr.cell? ⟨gb132, 2, none⟩ = some (.int .i64 a0_2) := (blk_cell BK132.out 2).trans rfl
          have hcz46_3 : wr.cell? ⟨gb132, 3, none⟩ = some (.int .i64 a0_3) := (blk_cell BK132.out 3).trans rfl
          have hcz46_4 : wr.cell? ⟨gb132, 4, none⟩ = some (.string a0_4) := (blk_cell BK132.out 4).trans rfl
          have hcz46_5 : wr.cell? ⟨gb132, 5, none⟩ = some (.int .i64 a0_5) := (blk_cell BK132.out 5).trans rfl
          have hcz46_6 : wr.cell? ⟨gb132, 6, none⟩ = some (.int .i64 a0_6) := (blk_cell BK132.out 6).trans rfl
          have hcz46_7 : wr.cell? ⟨gb132, 7, none⟩ = some (.string a0_7) := (blk_cell BK132.out 7).trans rfl
          have hcz46_8 : wr.cell? ⟨gb132, 8, none⟩ = some (.slice A0_8 l0_8.length c0_8) := (blk_cell BK132.out 8).trans rfl
          have hfz46_0 := blk_frozen BK132.out 0
          have hfz46_1 := blk_frozen BK132.out 1
          have hfz46_2 := blk_frozen BK132.out 2
          have hfz46_3 := blk_frozen BK132.out 3
          have hfz46_4 := blk_frozen BK132.out 4
          have hfz46_5 := blk_frozen BK132.out 5
          have hfz46_6 := blk_frozen BK132.out 6
          have hfz46_7 := blk_frozen BK132.out 7
          have hfz46_8 := blk_frozen BK132.out 8
          have p134 : 0 ≤ (x5_2 : Int) := of_decide_eq_true (by first | (with_reducible assumption) | assumption)
          have q134 : x5_2 < (l0_8.length : Int) := of_decide_eq_true (by first | (with_reducible assumption) | assumption)
          obtain ⟨ad134, e134, hx134_0⟩ := Kd.at_string HR0_8.out x5_2 p134 q134
          cases e134
          replace hx134_0 := (HB.out.cell (World.block_lt_of_cell? w _ hx134_0)).trans hx134_0
          replace p134 := eq_true p134
          replace q134 := eq_true q134
          have hcz47_0 : wr.cell? ⟨gb133, 0, none⟩ = some (.int .i64 a1_0) := (blk_cell BK133.out 0).trans rfl
          have hcz47_1 : wr.cell? ⟨gb133, 1, none⟩ = some (.int .i64 a1_1) := (blk_cell BK133.out 1).trans rfl
          have hcz47_2 : wr.cell? ⟨gb133, 2, none⟩ = some (.int .i64 a1_2) := (blk_cell BK133.out 2).trans rfl
          have hcz47_3 : wr.cell? ⟨gb133, 3, none⟩ = some (.int .i64 a1_3) := (blk_cell BK133.out 3).trans rfl
          have hcz47_4 : wr.cell? ⟨gb133, 4, none⟩ = some (.string a1_4) := (blk_cell BK133.out 4).trans rfl
          have hcz47_5 : wr.cell? ⟨gb133, 5, none⟩ = some (.int .i64 a1_5) := (blk_cell BK133.out 5).trans rfl
          have hcz47_6 : wr.cell? ⟨gb133, 6, none⟩ = some (.int .i64 a1_6) := (blk_cell BK133.out 6).trans rfl
          have hcz47_7 : wr.cell? ⟨gb133, 7, none⟩ = some (.string a1_7) := (blk_cell BK133.out 7).trans rfl
          have hcz47_8 : wr.cell? ⟨gb133, 8, none⟩ = some (.slice A1_8 l1_8.length c1_8) := (blk_cell BK133.out 8).trans rfl
          have hfz47_0 := blk_frozen BK133.out 0
          have hfz47_1 := blk_frozen BK133.out 1
          have hfz47_2 := blk_frozen BK133.out 2
          have hfz47_3 := blk_frozen BK133.out 3
          have hfz47_4 := blk_frozen BK133.out 4
          have hfz47_5 := blk_frozen BK133.out 5
          have hfz47_6 := blk_frozen BK133.out 6
          have hfz47_7 := blk_frozen BK133.out 7
          have hfz47_8 := blk_frozen BK133.out 8
          have p135 : 0 ≤ (x5_2 : Int) := of_decide_eq_true (by first | (with_reducible assumption) | assumption)
          have q135 : x5_2 < (l1_8.length : Int) := of_decide_eq_true (by first | (with_reducible assumption) | assumption)
          obtain ⟨ad135, e135, hx135_0⟩ := Kd.at_string HR1_8.out x5_2 p135 q135
          cases e135
          replace hx135_0 := (HB.out.cell (World.block_lt_of_cell? w _ hx135_0)).trans hx135_0
          replace p135 := eq_true p135
          replace q135 := eq_true q135
          go_wp2
          repeat (go_quiet (fail); try go_wp2)
          go_ret
          exact ⟨by first | rfl | (simp [errW_none, errW_some] <;> rfl) | (simp [*, errW_none, errW_some] <;> rfl), by repeat (first | (with_reducible first | exact HB.out | apply below_alloc | apply pw_below_drewN | apply below_drew1 | refine below_set ?_ GE132.out | refine below_set ?_ GE133.out) | exact HB.out)⟩
        ·rw [if_neg c40] at H
         exact absurd H (by simp)
       ·rw [if_neg c39] at H
        exact absurd H (by simp)
      ·rw [if_neg c38] at H
       have c38b0 : decide (x5_2 < (l0_8.length : Int)) = false := decide_eq_false c38
       clear c38
       obtain rfl := Option.some.inj H
       have hnb48 := NB132_133.out
       have hnc48 := NB133_132.out
       have hcz49_0 : wr.cell? ⟨gb132, 0, none⟩ = some (.int .i64 a0_0) := (blk_cell BK132.out 0).trans rfl
       have hcz49_1 : wr.cell? ⟨gb132, 1, none⟩ = some (.int .i64 a0_1) := (blk_cell BK132.out 1).trans rfl
       have hcz49_2 : wr.cell? ⟨gb132, 2, none⟩ = some (.int .i64 a0_2) := (blk_cell BK132.out 2).trans rfl
       have hcz49_3 : wr.cell? ⟨gb132, 3, none⟩ = some (.int .i64 a0_3) := (blk_cell BK132.out 3).trans rfl
       have hcz49_4 : wr.cell? ⟨gb132, 4, none⟩ = some (.string a0_4) := (blk_cell BK132.out 4).trans rfl
       have hcz49_5 : wr.cell? ⟨gb132, 5, none⟩ = some (.int .i64 a0_5) := (blk_cell BK132.out 5).trans rfl
       have hcz49_6 : wr.cell? ⟨gb132, 6, none⟩ = some (.int .i64 a0_6) := (blk_cell BK132.out 6).trans rfl
       have hcz49_7 : wr.cell? ⟨gb132, 7, none⟩ = some (.string a0_7) := (blk_cell BK132.out 7).trans rfl
       have hcz49_8 : wr.cell? ⟨gb132, 8, none⟩ = some (.slice A0_8 l0_8.length c0_8) := (blk_cell BK132.out 8).trans rfl
       have hfz49_0 := blk_frozen BK132.out 0
       have hfz49_1 := blk_frozen BK132.out 1
       have hfz49_2 := blk_frozen BK132.out 2
       have hfz49_3 := blk_frozen BK132.out 3
       have hfz49_4 := blk_frozen BK132.out 4
       have hfz49_5 := blk_frozen BK132.out 5
       have hfz49_6 := blk_frozen BK132.out 6
       have hfz49_7 := blk_frozen BK132.out 7
       have hfz49_8 := blk_frozen BK132.out 8
       go_wp2
       repeat (go_quiet (fail); try go_wp2)
       go_ret
       exact ⟨by first | rfl | (simp [errW_none, errW_some] <;> rfl) | (simp [*, errW_none, errW_some] <;> rfl), by repeat (first | (with_reducible first | exact HB.out | apply below_alloc | apply pw_below_drewN | apply below_drew1 | refine below_set ?_ GE132.out | refine below_set ?_ GE133.out) | exact HB.out)⟩

end Go.Proofs.Ytdbiokmlgniobaa.PL22
