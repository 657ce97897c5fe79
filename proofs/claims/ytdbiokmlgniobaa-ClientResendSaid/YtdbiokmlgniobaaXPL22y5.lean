/- What an operation's end is told as, and that the chapter's examples hold: walks of the given program's functions. No conditions but those that each theorem names. -/
import Derived.Test.YtdbiokmlgniobaaXSets
import Derived.Test.YtdbiokmlgniobaaXV
import Derived.Maps.OwnOps
import Derived.Maps.Keyed
import Derived.LoopTactic
import Derived.StillTailTactics
import Derived.Laws.Rows
import Derived.Deep.QuietTactic
import Derived.BigQuiet
import Derived.Laws.Cover3
import Derived.Test.YtdbiokmlgniobaaXPL22y2
namespace Go.Proofs.Ytdbiokmlgniobaa.PL22
open Go.RowKit Go.Proofs.YtdbiokmlgniobaaW.PrintWords Go.Proofs.YtdbiokmlgniobaaW.PrintLast Go.Proofs.YtdbiokmlgniobaaW.PrintMore
attribute [local go_sem] max2_int min2_int max_two min_two max_three min_three max_four min_four
set_option linter.unusedVariables false
set_option linter.unusedSimpArgs false
open Go.Proofs.YtdbiokmlgniobaaV
attribute [local go_sem high] eqA23
attribute [local go_sem] eql_nil
def client_tell.T4 : Bool × List (List Nat × List Nat) := (true, [([], []), ([0], [0]), ([1], [1]), ([2], [2]), ([3], [3]), ([4], [4]), ([5, 4], [5]), ([6], [6]), ([7, 6], [6, 7]), ([6], [6]), ([9, 6], [6, 9]), ([10, 6], [6, 10]), ([11, 6], [6, 11]), ([12, 6], [6, 12]), ([8, 13, 6, 6], [6, 8, 13]), ([6, 14], [6, 14])])
def client_tell.B4 : List Nat := [0, 1, 3, 7, 15, 31, 63, 127, 255, 127, 639, 1663, 3711, 7807, 16383, 32767]
theorem client_tell.tab4 : rtab .any (opsOf Try.f30 4) = client_tell.T4 := by kernel_rfl
theorem client_tell.bits4 : waitsOk client_tell.T4.2 client_tell.B4 = true := by kernel_rfl
def client_tell.T7 : Bool × List (List Nat × List Nat) := (true, [([], []), ([0], [0]), ([1], [1]), ([2], [2]), ([], []), ([4], [4]), ([3, 5, 0, 1, 2, 3, 4, 5], [3, 5])])
def client_tell.B7 : List Nat := [0, 1, 3, 7, 0, 16, 63]
theorem client_tell.tab7 : rtab .any (opsOf Try.f30 7) = client_tell.T7 := by kernel_rfl
theorem client_tell.bits7 : waitsOk client_tell.T7.2 client_tell.B7 = true := by kernel_rfl
theorem R_map {α : Type} {d : Kd α} {e base gm : Nat} {w w' : World} {v : Value} {xs : List α} (h : d.R e w base (fun _ => True) v xs) (hm : ∃ es clock, w.heap[gm]? = some (.map es clock)) (hg : w.grownBy w' (some gm)) : d.R e w' base (fun _ => True) v xs := by
  refine Kd.R_mono (Kd.R_step (Kd.R_bound h) (fun k hk1 hk2 => ?_)) (fun _ _ => trivial)
  obtain ⟨_, _, _, q, hq, cells, hc⟩ := hk1
  refine hg.block k hk2 (fun e1 => ?_)
  obtain ⟨es, clock, hm1⟩ := hm
  rw [Option.some.inj e1, hm1] at hc
  cases hc
set_option maxHeartbeats 40000000 in
set_option maxRecDepth 100000 in
theorem tell_empty0_wait (k : Nat) (g gm : Nat) (s : CS) (m : S26) (Am : Option Addr) (cm : Nat) (j1 j2 : Int) (j3 : ByteArray) (je : Int) (w : World) (hc : Cl g (some gm) s [] w) (hr : ∀ W', Fr g (some gm) w W' → Kd.string.C W' Am m.f7.length m.f7) (hcm : m.f7.length ≤ cm) (hlm : m.f7.length ≤ 1000000) (hj : bands_Join.f k m.f6 m.f7 = some (j1, j2, j3, je)) (hk : m.f0 = 2) (hv : m.f5.f0 = 0) (hx : -9223372036854775808 ≤ m.f1 ∧ m.f1 ≤ 9223372036854775807) (hnew : m.f1 ∉ []) (hln : ([] : List Int).length ≤ 1000) (hmo : decide (s.n < wrap64 (2 * (((m.f1 :: []).length : Nat) : Int))) = false) : Calls Try.prog 30 #[.pointer (some ⟨g, 0, none⟩), .agg #[.int .i64 m.f0, .int .i64 m.f1, .int .i64 m.f2, .int .i64 m.f3, .string m.f4, .int .i64 m.f5.f0, .int .i64 m.f5.f1, .string m.f6, .slice Am m.f7.length cm]] w (PostB g (some gm) w ⟨s.id, s.n, s.op, s.ph, s.put, m, s.work, s.en⟩ (m.f1 :: []) [] false) := by
  obtain ⟨vb, vw, om, hs, h4, h2, h3, h1, hm⟩ := hc.open2
  have HS := Aside0.mk hs
  have H4 := Aside0.mk h4
  have H2 := Aside0.mk h2
  have H3 := Aside0.mk h3
  have H1 := Aside0.mk h1
  have HO1 := Aside0.mk hm
  clear hs h4 h2 h3 h1 hm hc
  have HR := Aside0.mk hr
  have HCm := Aside0.mk hcm
  have HLm := Aside0.mk hlm
  have HJ := Aside0.mk hj
  have HX := Aside0.mk hx
  have HNW := Aside0.mk hnew
  have HLN := Aside0.mk hln
  have HMO := Aside0.mk hmo
  clear hr hcm hlm hj hx hnew hln hmo
  have q1 : (m.f0 != 2) = false := bne_eq_false_iff_eq.mpr hk
  clear hk
  have q2 : (m.f5.f0 != 0) = false := bne_eq_false_iff_eq.mpr hv
  have HVz := Aside0.mk hv
  clear hv
  go_enter Try.func30, Try.ntmps30
  go_upto_region 2 with (first | ((with_reducible refine gate_dst (N := 3) rfl ?_); refine box_event ?hg (N := 3) ?hd (cs := #[.int .i64 m.f0, .int .i64 m.f1, .int .i64 m.f2, .int .i64 m.f3, .string m.f4, .int .i64 m.f5.f0, .int .i64 m.f5.f1, .string m.f6, .slice Am m.f7.length cm]) (t := 26) ?hr ?_; (case hd => rfl); (case hg => rfl); (case hr => first | (go_simp; done) | (go_simp; rfl)); intro gb hg wgb hbox hb; have n_HS := Aside0.mk (HS.out.box hb hg hbox); clear HS hg hb hbox; have HS := n_HS; clear n_HS; have yb0 := (HS.out.cell 0 rfl 0).trans (show (#[.int .i64 m.f0, .int .i64 m.f1, .int .i64 m.f2, .int .i64 m.f3, .string m.f4, .int .i64 m.f5.f0, .int .i64 m.f5.f1, .string m.f6, .slice Am m.f7.length cm] : Array Value)[0]? = some (.int .i64 m.f0) from rfl); have yb5 := (HS.out.cell 0 rfl 5).trans (show (#[.int .i64 m.f0, .int .i64 m.f1, .int .i64 m.f2, .int .i64 m.f3, .string m.f4, .int .i64 m.f5.f0, .int .i64 m.f5.f1, .string m.f6, .slice Am m.f7.length cm] : Array Value)[5]? = some (.int .i64 m.f5.f0) from rfl); have yb7 := (HS.out.cell 0 rfl 7).trans (show (#[.int .i64 m.f0, .int .i64 m.f1, .int .i64 m.f2, .int .i64 m.f3, .string m.f4, .int .i64 m.f5.f0, .int .i64 m.f5.f1, .string m.f6, .slice Am m.f7.length cm] : Array Value)[7]? = some (.string m.f6) from rfl); have yb8 := (HS.out.cell 0 rfl 8).trans (show (#[.int .i64 m.f0, .int .i64 m.f1, .int .i64 m.f2, .int .i64 m.f3, .string m.f4, .int .i64 m.f5.f0, .int .i64 m.f5.f1, .string m.f6, .slice Am m.f7.length cm] : Array Value)[8]? = some (.slice Am m.f7.length cm) from rfl)) | (go_at_call 34; (with_reducible refine (bands_Join.calls k m.f6 Am cm m.f7 j1 j2 j3 je _ (HR.out _ HS.out.fr) HCm.out HJ.out).mono ?_); rintro e w2 ⟨rfl, hb⟩; have n_HS := Aside0.mk (HS.out.step hb); clear HS hb yb0 yb5 yb7 yb8; have HS := n_HS; clear n_HS) | ((with_reducible refine gate_dst (N := 6) rfl ?_); refine box_event ?hg (N := 6) ?hd (cs := #[.int .i64 0, .int .i64 0, .string (⟨#[]⟩ : ByteArray)]) (t := 57) ?hr ?_; (case hd => rfl); (case hg => rfl); (case hr => first | (go_simp; done) | (go_simp; rfl)); intro gr hg wgr hbox hb; have n_HS := Aside0.mk (HS.out.box hb hg hbox); clear HS hg hb hbox; have HS := n_HS; clear n_HS; have yr0 := (HS.out.cell 0 rfl 0).trans (show (#[.int .i64 0, .int .i64 0, .string (⟨#[]⟩ : ByteArray)] : Array Value)[0]? = some (.int .i64 0) from rfl); have fr0 := HS.out.fz 0 rfl 0; have yr1 := (HS.out.cell 0 rfl 1).trans (show (#[.int .i64 0, .int .i64 0, .string (⟨#[]⟩ : ByteArray)] : Array Value)[1]? = some (.int .i64 0) from rfl); have fr1 := HS.out.fz 0 rfl 1; have yr2 := (HS.out.cell 0 rfl 2).trans (show (#[.int .i64 0, .int .i64 0, .string (⟨#[]⟩ : ByteArray)] : Array Value)[2]? = some (.string (⟨#[]⟩ : ByteArray)) from rfl); have fr2 := HS.out.fz 0 rfl 2))
  have hs1_ : Ov w g (some gm) ((gr, .cells (#[.int .i64 j1, .int .i64 0, .string (⟨#[]⟩ : ByteArray)] : Array Value) 57 (0, 0)) :: (gb, .cells (#[.int .i64 m.f0, .int .i64 m.f1, .int .i64 m.f2, .int .i64 m.f3, .string m.f4, .int .i64 m.f5.f0, .int .i64 m.f5.f1, .string m.f6, .slice Am m.f7.length cm] : Array Value) 26 (0, 0)) :: (g, .cells (#[.int .i64 s.id, .int .i64 s.n, .int .i64 s.op, .int .i64 s.ph, .bool s.put, .map (some gm), .int .i64 s.best.f0, .int .i64 s.best.f1, .int .i64 s.best.f2, .int .i64 s.best.f3, .string s.best.f4, .int .i64 s.best.f5.f0, .int .i64 s.best.f5.f1, .string s.best.f6, vb, .int .i64 s.work.f0, .int .i64 s.work.f1, .int .i64 s.work.f2, .int .i64 s.work.f3, .string s.work.f4, .int .i64 s.work.f5.f0, .int .i64 s.work.f5.f1, .string s.work.f6, vw, .int .i64 s.en] : Array Value) 70 (0, 0)) :: (gm, om) :: []) (World.setCell wgr ⟨gr, 0, none⟩ (.int .i64 j1)) := Ov.set HS.out 0 rfl 0 (.int .i64 j1)
  have hs2_ : Ov w g (some gm) ((gr, .cells (#[.int .i64 j1, .int .i64 j2, .string (⟨#[]⟩ : ByteArray)] : Array Value) 57 (0, 0)) :: (gb, .cells (#[.int .i64 m.f0, .int .i64 m.f1, .int .i64 m.f2, .int .i64 m.f3, .string m.f4, .int .i64 m.f5.f0, .int .i64 m.f5.f1, .string m.f6, .slice Am m.f7.length cm] : Array Value) 26 (0, 0)) :: (g, .cells (#[.int .i64 s.id, .int .i64 s.n, .int .i64 s.op, .int .i64 s.ph, .bool s.put, .map (some gm), .int .i64 s.best.f0, .int .i64 s.best.f1, .int .i64 s.best.f2, .int .i64 s.best.f3, .string s.best.f4, .int .i64 s.best.f5.f0, .int .i64 s.best.f5.f1, .string s.best.f6, vb, .int .i64 s.work.f0, .int .i64 s.work.f1, .int .i64 s.work.f2, .int .i64 s.work.f3, .string s.work.f4, .int .i64 s.work.f5.f0, .int .i64 s.work.f5.f1, .string s.work.f6, vw, .int .i64 s.en] : Array Value) 70 (0, 0)) :: (gm, om) :: []) (World.setCell (World.setCell wgr ⟨gr, 0, none⟩ (.int .i64 j1)) ⟨gr, 1, none⟩ (.int .i64 j2)) := Ov.set hs1_ 0 rfl 1 (.int .i64 j2)
  have hs3_ : Ov w g (some gm) ((gr, .cells (#[.int .i64 j1, .int .i64 j2, .string j3] : Array Value) 57 (0, 0)) :: (gb, .cells (#[.int .i64 m.f0, .int .i64 m.f1, .int .i64 m.f2, .int .i64 m.f3, .string m.f4, .int .i64 m.f5.f0, .int .i64 m.f5.f1, .string m.f6, .slice Am m.f7.length cm] : Array Value) 26 (0, 0)) :: (g, .cells (#[.int .i64 s.id, .int .i64 s.n, .int .i64 s.op, .int .i64 s.ph, .bool s.put, .map (some gm), .int .i64 s.best.f0, .int .i64 s.best.f1, .int .i64 s.best.f2, .int .i64 s.best.f3, .string s.best.f4, .int .i64 s.best.f5.f0, .int .i64 s.best.f5.f1, .string s.best.f6, vb, .int .i64 s.work.f0, .int .i64 s.work.f1, .int .i64 s.work.f2, .int .i64 s.work.f3, .string s.work.f4, .int .i64 s.work.f5.f0, .int .i64 s.work.f5.f1, .string s.work.f6, vw, .int .i64 s.en] : Array Value) 70 (0, 0)) :: (gm, om) :: []) (World.setCell (World.setCell (World.setCell wgr ⟨gr, 0, none⟩ (.int .i64 j1)) ⟨gr, 1, none⟩ (.int .i64 j2)) ⟨gr, 2, none⟩ (.string j3)) := Ov.set hs2_ 0 rfl 2 (.string j3)
  refine (fun (h_ : ∀ w_, Ov w g (some gm) ((gr, .cells (#[.int .i64 j1, .int .i64 j2, .string j3] : Array Value) 57 (0, 0)) :: (gb, .cells (#[.int .i64 m.f0, .int .i64 m.f1, .int .i64 m.f2, .int .i64 m.f3, .string m.f4, .int .i64 m.f5.f0, .int .i64 m.f5.f1, .string m.f6, .slice Am m.f7.length cm] : Array Value) 26 (0, 0)) :: (g, .cells (#[.int .i64 s.id, .int .i64 s.n, .int .i64 s.op, .int .i64 s.ph, .bool s.put, .map (some gm), .int .i64 s.best.f0, .int .i64 s.best.f1, .int .i64 s.best.f2, .int .i64 s.best.f3, .string s.best.f4, .int .i64 s.best.f5.f0, .int .i64 s.best.f5.f1, .string s.best.f6, vb, .int .i64 s.work.f0, .int .i64 s.work.f1, .int .i64 s.work.f2, .int .i64 s.work.f3, .string s.work.f4, .int .i64 s.work.f5.f0, .int .i64 s.work.f5.f1, .string s.work.f6, vw, .int .i64 s.en] : Array Value) 70 (0, 0)) :: (gm, om) :: []) w_ → Code.wp _ _ _ _ w_) => h_ (World.setCell (World.setCell (World.setCell wgr ⟨gr, 0, none⟩ (.int .i64 j1)) ⟨gr, 1, none⟩ (.int .i64 j2)) ⟨gr, 2, none⟩ (.string j3)) hs3_) ?_
  clear HS hs1_ hs2_ hs3_  yr0 fr0 yr1 fr1 yr2 fr2
  intro w3 HS_
  have HS := Aside0.mk HS_
  clear HS_
  have yb0 := (HS.out.cell 1 rfl 0).trans (show (#[.int .i64 m.f0, .int .i64 m.f1, .int .i64 m.f2, .int .i64 m.f3, .string m.f4, .int .i64 m.f5.f0, .int .i64 m.f5.f1, .string m.f6, .slice Am m.f7.length cm] : Array Value)[0]? = some (.int .i64 m.f0) from rfl)
  have yb5 := (HS.out.cell 1 rfl 5).trans (show (#[.int .i64 m.f0, .int .i64 m.f1, .int .i64 m.f2, .int .i64 m.f3, .string m.f4, .int .i64 m.f5.f0, .int .i64 m.f5.f1, .string m.f6, .slice Am m.f7.length cm] : Array Value)[5]? = some (.int .i64 m.f5.f0) from rfl)
  go_upto_region 4 with (fail)
  clear yb0 yb5
  have yc5 := (HS.out.cell 2 rfl 5).trans (show (#[.int .i64 s.id, .int .i64 s.n, .int .i64 s.op, .int .i64 s.ph, .bool s.put, .map (some gm), .int .i64 s.best.f0, .int .i64 s.best.f1, .int .i64 s.best.f2, .int .i64 s.best.f3, .string s.best.f4, .int .i64 s.best.f5.f0, .int .i64 s.best.f5.f1, .string s.best.f6, vb, .int .i64 s.work.f0, .int .i64 s.work.f1, .int .i64 s.work.f2, .int .i64 s.work.f3, .string s.work.f4, .int .i64 s.work.f5.f0, .int .i64 s.work.f5.f1, .string s.work.f6, vw, .int .i64 s.en] : Array Value)[5]? = some (.map (some gm)) from rfl)
  have hlen : ∀ q_, (Builtin.len_ #[62] 3 #[.map (some gm)]).run Try.prog (World.drewN _ q_) = .ok (.int .i64 0) (World.drewN _ q_) := fun q_ => ck_len (HM.below (HM.blk H4.out ((HS.out.at 3 rfl).trans HO1.out.symm)) (pw_below_drewN (Below.refl _ _) q_)) _
  go_quiet (fail)
  clear hlen yc5
  refine (fun (h_ : ∀ w_, Ov w g (some gm) ((gr, .cells (#[.int .i64 j1, .int .i64 j2, .string j3] : Array Value) 57 (0, 0)) :: (gb, .cells (#[.int .i64 m.f0, .int .i64 m.f1, .int .i64 m.f2, .int .i64 m.f3, .string m.f4, .int .i64 m.f5.f0, .int .i64 m.f5.f1, .string m.f6, .slice Am m.f7.length cm] : Array Value) 26 (0, 0)) :: (g, .cells (#[.int .i64 s.id, .int .i64 s.n, .int .i64 s.op, .int .i64 s.ph, .bool s.put, .map (some gm), .int .i64 s.best.f0, .int .i64 s.best.f1, .int .i64 s.best.f2, .int .i64 s.best.f3, .string s.best.f4, .int .i64 s.best.f5.f0, .int .i64 s.best.f5.f1, .string s.best.f6, vb, .int .i64 s.work.f0, .int .i64 s.work.f1, .int .i64 s.work.f2, .int .i64 s.work.f3, .string s.work.f4, .int .i64 s.work.f5.f0, .int .i64 s.work.f5.f1, .string s.work.f6, vw, .int .i64 s.en] : Array Value) 70 (0, 0)) :: (gm, om) :: []) w_ → Exit.then _ _ _ _ w_) => h_ _ (HS.out.drewN _)) ?_
  clear HS
  intro w4 HS_
  have HS := Aside0.mk HS_
  clear HS_
  have yb0 := (HS.out.cell 1 rfl 0).trans (show (#[.int .i64 m.f0, .int .i64 m.f1, .int .i64 m.f2, .int .i64 m.f3, .string m.f4, .int .i64 m.f5.f0, .int .i64 m.f5.f1, .string m.f6, .slice Am m.f7.length cm] : Array Value)[0]? = some (.int .i64 m.f0) from rfl)
  have yb1 := (HS.out.cell 1 rfl 1).trans (show (#[.int .i64 m.f0, .int .i64 m.f1, .int .i64 m.f2, .int .i64 m.f3, .string m.f4, .int .i64 m.f5.f0, .int .i64 m.f5.f1, .string m.f6, .slice Am m.f7.length cm] : Array Value)[1]? = some (.int .i64 m.f1) from rfl)
  have yb2 := (HS.out.cell 1 rfl 2).trans (show (#[.int .i64 m.f0, .int .i64 m.f1, .int .i64 m.f2, .int .i64 m.f3, .string m.f4, .int .i64 m.f5.f0, .int .i64 m.f5.f1, .string m.f6, .slice Am m.f7.length cm] : Array Value)[2]? = some (.int .i64 m.f2) from rfl)
  have yb3 := (HS.out.cell 1 rfl 3).trans (show (#[.int .i64 m.f0, .int .i64 m.f1, .int .i64 m.f2, .int .i64 m.f3, .string m.f4, .int .i64 m.f5.f0, .int .i64 m.f5.f1, .string m.f6, .slice Am m.f7.length cm] : Array Value)[3]? = some (.int .i64 m.f3) from rfl)
  have yb4 := (HS.out.cell 1 rfl 4).trans (show (#[.int .i64 m.f0, .int .i64 m.f1, .int .i64 m.f2, .int .i64 m.f3, .string m.f4, .int .i64 m.f5.f0, .int .i64 m.f5.f1, .string m.f6, .slice Am m.f7.length cm] : Array Value)[4]? = some (.string m.f4) from rfl)
  have yb5 := (HS.out.cell 1 rfl 5).trans (show (#[.int .i64 m.f0, .int .i64 m.f1, .int .i64 m.f2, .int .i64 m.f3, .string m.f4, .int .i64 m.f5.f0, .int .i64 m.f5.f1, .string m.f6, .slice Am m.f7.length cm] : Array Value)[5]? = some (.int .i64 m.f5.f0) from rfl)
  have yb6 := (HS.out.cell 1 rfl 6).trans (show (#[.int .i64 m.f0, .int .i64 m.f1, .int .i64 m.f2, .int .i64 m.f3, .string m.f4, .int .i64 m.f5.f0, .int .i64 m.f5.f1, .string m.f6, .slice Am m.f7.length cm] : Array Value)[6]? = some (.int .i64 m.f5.f1) from rfl)
  have yb7 := (HS.out.cell 1 rfl 7).trans (show (#[.int .i64 m.f0, .int .i64 m.f1, .int .i64 m.f2, .int .i64 m.f3, .string m.f4, .int .i64 m.f5.f0, .int .i64 m.f5.f1, .string m.f6, .slice Am m.f7.length cm] : Array Value)[7]? = some (.string m.f6) from rfl)
  have yb8 := (HS.out.cell 1 rfl 8).trans (show (#[.int .i64 m.f0, .int .i64 m.f1, .int .i64 m.f2, .int .i64 m.f3, .string m.f4, .int .i64 m.f5.f0, .int .i64 m.f5.f1, .string m.f6, .slice Am m.f7.length cm] : Array Value)[8]? = some (.slice Am m.f7.length cm) from rfl)
  have yc6 := (HS.out.cell 2 rfl 6).trans (show (#[.int .i64 s.id, .int .i64 s.n, .int .i64 s.op, .int .i64 s.ph, .bool s.put, .map (some gm), .int .i64 s.best.f0, .int .i64 s.best.f1, .int .i64 s.best.f2, .int .i64 s.best.f3, .string s.best.f4, .int .i64 s.best.f5.f0, .int .i64 s.best.f5.f1, .string s.best.f6, vb, .int .i64 s.work.f0, .int .i64 s.work.f1, .int .i64 s.work.f2, .int .i64 s.work.f3, .string s.work.f4, .int .i64 s.work.f5.f0, .int .i64 s.work.f5.f1, .string s.work.f6, vw, .int .i64 s.en] : Array Value)[6]? = some (.int .i64 s.best.f0) from rfl)
  have fc6 := HS.out.fz 2 rfl 6
  have yc7 := (HS.out.cell 2 rfl 7).trans (show (#[.int .i64 s.id, .int .i64 s.n, .int .i64 s.op, .int .i64 s.ph, .bool s.put, .map (some gm), .int .i64 s.best.f0, .int .i64 s.best.f1, .int .i64 s.best.f2, .int .i64 s.best.f3, .string s.best.f4, .int .i64 s.best.f5.f0, .int .i64 s.best.f5.f1, .string s.best.f6, vb, .int .i64 s.work.f0, .int .i64 s.work.f1, .int .i64 s.work.f2, .int .i64 s.work.f3, .string s.work.f4, .int .i64 s.work.f5.f0, .int .i64 s.work.f5.f1, .string s.work.f6, vw, .int .i64 s.en] : Array Value)[7]? = some (.int .i64 s.best.f1) from rfl)
  have fc7 := HS.out.fz 2 rfl 7
  have yc8 := (HS.out.cell 2 rfl 8).trans (show (#[.int .i64 s.id, .int .i64 s.n, .int .i64 s.op, .int .i64 s.ph, .bool s.put, .map (some gm), .int .i64 s.best.f0, .int .i64 s.best.f1, .int .i64 s.best.f2, .int .i64 s.best.f3, .string s.best.f4, .int .i64 s.best.f5.f0, .int .i64 s.best.f5.f1, .string s.best.f6, vb, .int .i64 s.work.f0, .int .i64 s.work.f1, .int .i64 s.work.f2, .int .i64 s.work.f3, .string s.work.f4, .int .i64 s.work.f5.f0, .int .i64 s.work.f5.f1, .string s.work.f6, vw, .int .i64 s.en] : Array Value)[8]? = some (.int .i64 s.best.f2) from rfl)
  have fc8 := HS.out.fz 2 rfl 8
  have yc9 := (HS.out.cell 2 rfl 9).trans (show (#[.int .i64 s.id, .int .i64 s.n, .int .i64 s.op, .int .i64 s.ph, .bool s.put, .map (some gm), .int .i64 s.best.f0, .int .i64 s.best.f1, .int .i64 s.best.f2, .int .i64 s.best.f3, .string s.best.f4, .int .i64 s.best.f5.f0, .int .i64 s.best.f5.f1, .string s.best.f6, vb, .int .i64 s.work.f0, .int .i64 s.work.f1, .int .i64 s.work.f2, .int .i64 s.work.f3, .string s.work.f4, .int .i64 s.work.f5.f0, .int .i64 s.work.f5.f1, .string s.work.f6, vw, .int .i64 s.en] : Array Value)[9]? = some (.int .i64 s.best.f3) from rfl)
  have fc9 := HS.out.fz 2 rfl 9
  have yc10 := (HS.out.cell 2 rfl 10).trans (show (#[.int .i64 s.id, .int .i64 s.n, .int .i64 s.op, .int .i64 s.ph, .bool s.put, .map (some gm), .int .i64 s.best.f0, .int .i64 s.best.f1, .int .i64 s.best.f2, .int .i64 s.best.f3, .string s.best.f4, .int .i64 s.best.f5.f0, .int .i64 s.best.f5.f1, .string s.best.f6, vb, .int .i64 s.work.f0, .int .i64 s.work.f1, .int .i64 s.work.f2, .int .i64 s.work.f3, .string s.work.f4, .int .i64 s.work.f5.f0, .int .i64 s.work.f5.f1, .string s.work.f6, vw, .int .i64 s.en] : Array Value)[10]? = some (.string s.best.f4) from rfl)
  have fc10 := HS.out.fz 2 rfl 10
  have yc11 := (HS.out.cell 2 rfl 11).trans (show (#[.int .i64 s.id, .int .i64 s.n, .int .i64 s.op, .int .i64 s.ph, .bool s.put, .map (some gm), .int .i64 s.best.f0, .int .i64 s.best.f1, .int .i64 s.best.f2, .int .i64 s.best.f3, .string s.best.f4, .int .i64 s.best.f5.f0, .int .i64 s.best.f5.f1, .string s.best.f6, vb, .int .i64 s.work.f0, .int .i64 s.work.f1, .int .i64 s.work.f2, .int .i64 s.work.f3, .string s.work.f4, .int .i64 s.work.f5.f0, .int .i64 s.work.f5.f1, .string s.work.f6, vw, .int .i64 s.en] : Array Value)[11]? = some (.int .i64 s.best.f5.f0) from rfl)
  have fc11 := HS.out.fz 2 rfl 11
  have yc12 := (HS.out.cell 2 rfl 12).trans (show (#[.int .i64 s.id, .int .i64 s.n, .int .i64 s.op, .int .i64 s.ph, .bool s.put, .map (some gm), .int .i64 s.best.f0, .int .i64 s.best.f1, .int .i64 s.best.f2, .int .i64 s.best.f3, .string s.best.f4, .int .i64 s.best.f5.f0, .int .i64 s.best.f5.f1, .string s.best.f6, vb, .int .i64 s.work.f0, .int .i64 s.work.f1, .int .i64 s.work.f2, .int .i64 s.work.f3, .string s.work.f4, .int .i64 s.work.f5.f0, .int .i64 s.work.f5.f1, .string s.work.f6, vw, .int .i64 s.en] : Array Value)[12]? = some (.int .i64 s.best.f5.f1) from rfl)
  have fc12 := HS.out.fz 2 rfl 12
  have yc13 := (HS.out.cell 2 rfl 13).trans (show (#[.int .i64 s.id, .int .i64 s.n, .int .i64 s.op, .int .i64 s.ph, .bool s.put, .map (some gm), .int .i64 s.best.f0, .int .i64 s.best.f1, .int .i64 s.best.f2, .int .i64 s.best.f3, .string s.best.f4, .int .i64 s.best.f5.f0, .int .i64 s.best.f5.f1, .string s.best.f6, vb, .int .i64 s.work.f0, .int .i64 s.work.f1, .int .i64 s.work.f2, .int .i64 s.work.f3, .string s.work.f4, .int .i64 s.work.f5.f0, .int .i64 s.work.f5.f1, .string s.work.f6, vw, .int .i64 s.en] : Array Value)[13]? = some (.string s.best.f6) from rfl)
  have fc13 := HS.out.fz 2 rfl 13
  have yc14 := (HS.out.cell 2 rfl 14).trans (show (#[.int .i64 s.id, .int .i64 s.n, .int .i64 s.op, .int .i64 s.ph, .bool s.put, .map (some gm), .int .i64 s.best.f0, .int .i64 s.best.f1, .int .i64 s.best.f2, .int .i64 s.best.f3, .string s.best.f4, .int .i64 s.best.f5.f0, .int .i64 s.best.f5.f1, .string s.best.f6, vb, .int .i64 s.work.f0, .int .i64 s.work.f1, .int .i64 s.work.f2, .int .i64 s.work.f3, .string s.work.f4, .int .i64 s.work.f5.f0, .int .i64 s.work.f5.f1, .string s.work.f6, vw, .int .i64 s.en] : Array Value)[14]? = some (vb) from rfl)
  have fc14 := HS.out.fz 2 rfl 14
  go_upto_region 6 with (fail)
  have hs4_ : Ov w g (some gm) ((gr, .cells (#[.int .i64 j1, .int .i64 j2, .string j3] : Array Value) 57 (0, 0)) :: (gb, .cells (#[.int .i64 m.f0, .int .i64 m.f1, .int .i64 m.f2, .int .i64 m.f3, .string m.f4, .int .i64 m.f5.f0, .int .i64 m.f5.f1, .string m.f6, .slice Am m.f7.length cm] : Array Value) 26 (0, 0)) :: (g, .cells (#[.int .i64 s.id, .int .i64 s.n, .int .i64 s.op, .int .i64 s.ph, .bool s.put, .map (some gm), .int .i64 m.f0, .int .i64 s.best.f1, .int .i64 s.best.f2, .int .i64 s.best.f3, .string s.best.f4, .int .i64 s.best.f5.f0, .int .i64 s.best.f5.f1, .string s.best.f6, vb, .int .i64 s.work.f0, .int .i64 s.work.f1, .int .i64 s.work.f2, .int .i64 s.work.f3, .string s.work.f4, .int .i64 s.work.f5.f0, .int .i64 s.work.f5.f1, .string s.work.f6, vw, .int .i64 s.en] : Array Value) 70 (0, 0)) :: (gm, om) :: []) (World.setCell w4 ⟨g, 6, none⟩ (.int .i64 m.f0)) := Ov.set HS.out 2 rfl 6 (.int .i64 m.f0)
  have hs5_ : Ov w g (some gm) ((gr, .cells (#[.int .i64 j1, .int .i64 j2, .string j3] : Array Value) 57 (0, 0)) :: (gb, .cells (#[.int .i64 m.f0, .int .i64 m.f1, .int .i64 m.f2, .int .i64 m.f3, .string m.f4, .int .i64 m.f5.f0, .int .i64 m.f5.f1, .string m.f6, .slice Am m.f7.length cm] : Array Value) 26 (0, 0)) :: (g, .cells (#[.int .i64 s.id, .int .i64 s.n, .int .i64 s.op, .int .i64 s.ph, .bool s.put, .map (some gm), .int .i64 m.f0, .int .i64 m.f1, .int .i64 s.best.f2, .int .i64 s.best.f3, .string s.best.f4, .int .i64 s.best.f5.f0, .int .i64 s.best.f5.f1, .string s.best.f6, vb, .int .i64 s.work.f0, .int .i64 s.work.f1, .int .i64 s.work.f2, .int .i64 s.work.f3, .string s.work.f4, .int .i64 s.work.f5.f0, .int .i64 s.work.f5.f1, .string s.work.f6, vw, .int .i64 s.en] : Array Value) 70 (0, 0)) :: (gm, om) :: []) (World.setCell (World.setCell w4 ⟨g, 6, none⟩ (.int .i64 m.f0)) ⟨g, 7, none⟩ (.int .i64 m.f1)) := Ov.set hs4_ 2 rfl 7 (.int .i64 m.f1)
  have hs6_ : Ov w g (some gm) ((gr, .cells (#[.int .i64 j1, .int .i64 j2, .string j3] : Array Value) 57 (0, 0)) :: (gb, .cells (#[.int .i64 m.f0, .int .i64 m.f1, .int .i64 m.f2, .int .i64 m.f3, .string m.f4, .int .i64 m.f5.f0, .int .i64 m.f5.f1, .string m.f6, .slice Am m.f7.length cm] : Array Value) 26 (0, 0)) :: (g, .cells (#[.int .i64 s.id, .int .i64 s.n, .int .i64 s.op, .int .i64 s.ph, .bool s.put, .map (some gm), .int .i64 m.f0, .int .i64 m.f1, .int .i64 m.f2, .int .i64 s.best.f3, .string s.best.f4, .int .i64 s.best.f5.f0, .int .i64 s.best.f5.f1, .string s.best.f6, vb, .int .i64 s.work.f0, .int .i64 s.work.f1, .int .i64 s.work.f2, .int .i64 s.work.f3, .string s.work.f4, .int .i64 s.work.f5.f0, .int .i64 s.work.f5.f1, .string s.work.f6, vw, .int .i64 s.en] : Array Value) 70 (0, 0)) :: (gm, om) :: []) (World.setCell (World.setCell (World.setCell w4 ⟨g, 6, none⟩ (.int .i64 m.f0)) ⟨g, 7, none⟩ (.int .i64 m.f1)) ⟨g, 8, none⟩ (.int .i64 m.f2)) := Ov.set hs5_ 2 rfl 8 (.int .i64 m.f2)
  have hs7_ : Ov w g (some gm) ((gr, .cells (#[.int .i64 j1, .int .i64 j2, .string j3] : Array Value) 57 (0, 0)) :: (gb, .cells (#[.int .i64 m.f0, .int .i64 m.f1, .int .i64 m.f2, .int .i64 m.f3, .string m.f4, .int .i64 m.f5.f0, .int .i64 m.f5.f1, .string m.f6, .slice Am m.f7.length cm] : Array Value) 26 (0, 0)) :: (g, .cells (#[.int .i64 s.id, .int .i64 s.n, .int .i64 s.op, .int .i64 s.ph, .bool s.put, .map (some gm), .int .i64 m.f0, .int .i64 m.f1, .int .i64 m.f2, .int .i64 m.f3, .string s.best.f4, .int .i64 s.best.f5.f0, .int .i64 s.best.f5.f1, .string s.best.f6, vb, .int .i64 s.work.f0, .int .i64 s.work.f1, .int .i64 s.work.f2, .int .i64 s.work.f3, .string s.work.f4, .int .i64 s.work.f5.f0, .int .i64 s.work.f5.f1, .string s.work.f6, vw, .int .i64 s.en] : Array Value) 70 (0, 0)) :: (gm, om) :: []) (World.setCell (World.setCell (World.setCell (World.setCell w4 ⟨g, 6, none⟩ (.int .i64 m.f0)) ⟨g, 7, none⟩ (.int .i64 m.f1)) ⟨g, 8, none⟩ (.int .i64 m.f2)) ⟨g, 9, none⟩ (.int .i64 m.f3)) := Ov.set hs6_ 2 rfl 9 (.int .i64 m.f3)
  have hs8_ : Ov w g (some gm) ((gr, .cells (#[.int .i64 j1, .int .i64 j2, .string j3] : Array Value) 57 (0, 0)) :: (gb, .cells (#[.int .i64 m.f0, .int .i64 m.f1, .int .i64 m.f2, .int .i64 m.f3, .string m.f4, .int .i64 m.f5.f0, .int .i64 m.f5.f1, .string m.f6, .slice Am m.f7.length cm] : Array Value) 26 (0, 0)) :: (g, .cells (#[.int .i64 s.id, .int .i64 s.n, .int .i64 s.op, .int .i64 s.ph, .bool s.put, .map (some gm), .int .i64 m.f0, .int .i64 m.f1, .int .i64 m.f2, .int .i64 m.f3, .string m.f4, .int .i64 s.best.f5.f0, .int .i64 s.best.f5.f1, .string s.best.f6, vb, .int .i64 s.work.f0, .int .i64 s.work.f1, .int .i64 s.work.f2, .int .i64 s.work.f3, .string s.work.f4, .int .i64 s.work.f5.f0, .int .i64 s.work.f5.f1, .string s.work.f6, vw, .int .i64 s.en] : Array Value) 70 (0, 0)) :: (gm, om) :: []) (World.setCell (World.setCell (World.setCell (World.setCell (World.setCell w4 ⟨g, 6, none⟩ (.int .i64 m.f0)) ⟨g, 7, none⟩ (.int .i64 m.f1)) ⟨g, 8, none⟩ (.int .i64 m.f2)) ⟨g, 9, none⟩ (.int .i64 m.f3)) ⟨g, 10, none⟩ (.string m.f4)) := Ov.set hs7_ 2 rfl 10 (.string m.f4)
  have hs9_ : Ov w g (some gm) ((gr, .cells (#[.int .i64 j1, .int .i64 j2, .string j3] : Array Value) 57 (0, 0)) :: (gb, .cells (#[.int .i64 m.f0, .int .i64 m.f1, .int .i64 m.f2, .int .i64 m.f3, .string m.f4, .int .i64 m.f5.f0, .int .i64 m.f5.f1, .string m.f6, .slice Am m.f7.length cm] : Array Value) 26 (0, 0)) :: (g, .cells (#[.int .i64 s.id, .int .i64 s.n, .int .i64 s.op, .int .i64 s.ph, .bool s.put, .map (some gm), .int .i64 m.f0, .int .i64 m.f1, .int .i64 m.f2, .int .i64 m.f3, .string m.f4, .int .i64 m.f5.f0, .int .i64 s.best.f5.f1, .string s.best.f6, vb, .int .i64 s.work.f0, .int .i64 s.work.f1, .int .i64 s.work.f2, .int .i64 s.work.f3, .string s.work.f4, .int .i64 s.work.f5.f0, .int .i64 s.work.f5.f1, .string s.work.f6, vw, .int .i64 s.en] : Array Value) 70 (0, 0)) :: (gm, om) :: []) (World.setCell (World.setCell (World.setCell (World.setCell (World.setCell (World.setCell w4 ⟨g, 6, none⟩ (.int .i64 m.f0)) ⟨g, 7, none⟩ (.int .i64 m.f1)) ⟨g, 8, none⟩ (.int .i64 m.f2)) ⟨g, 9, none⟩ (.int .i64 m.f3)) ⟨g, 10, none⟩ (.string m.f4)) ⟨g, 11, none⟩ (.int .i64 m.f5.f0)) := Ov.set hs8_ 2 rfl 11 (.int .i64 m.f5.f0)
  have hs10_ : Ov w g (some gm) ((gr, .cells (#[.int .i64 j1, .int .i64 j2, .string j3] : Array Value) 57 (0, 0)) :: (gb, .cells (#[.int .i64 m.f0, .int .i64 m.f1, .int .i64 m.f2, .int .i64 m.f3, .string m.f4, .int .i64 m.f5.f0, .int .i64 m.f5.f1, .string m.f6, .slice Am m.f7.length cm] : Array Value) 26 (0, 0)) :: (g, .cells (#[.int .i64 s.id, .int .i64 s.n, .int .i64 s.op, .int .i64 s.ph, .bool s.put, .map (some gm), .int .i64 m.f0, .int .i64 m.f1, .int .i64 m.f2, .int .i64 m.f3, .string m.f4, .int .i64 m.f5.f0, .int .i64 m.f5.f1, .string s.best.f6, vb, .int .i64 s.work.f0, .int .i64 s.work.f1, .int .i64 s.work.f2, .int .i64 s.work.f3, .string s.work.f4, .int .i64 s.work.f5.f0, .int .i64 s.work.f5.f1, .string s.work.f6, vw, .int .i64 s.en] : Array Value) 70 (0, 0)) :: (gm, om) :: []) (World.setCell (World.setCell (World.setCell (World.setCell (World.setCell (World.setCell (World.setCell w4 ⟨g, 6, none⟩ (.int .i64 m.f0)) ⟨g, 7, none⟩ (.int .i64 m.f1)) ⟨g, 8, none⟩ (.int .i64 m.f2)) ⟨g, 9, none⟩ (.int .i64 m.f3)) ⟨g, 10, none⟩ (.string m.f4)) ⟨g, 11, none⟩ (.int .i64 m.f5.f0)) ⟨g, 12, none⟩ (.int .i64 m.f5.f1)) := Ov.set hs9_ 2 rfl 12 (.int .i64 m.f5.f1)
  have hs11_ : Ov w g (some gm) ((gr, .cells (#[.int .i64 j1, .int .i64 j2, .string j3] : Array Value) 57 (0, 0)) :: (gb, .cells (#[.int .i64 m.f0, .int .i64 m.f1, .int .i64 m.f2, .int .i64 m.f3, .string m.f4, .int .i64 m.f5.f0, .int .i64 m.f5.f1, .string m.f6, .slice Am m.f7.length cm] : Array Value) 26 (0, 0)) :: (g, .cells (#[.int .i64 s.id, .int .i64 s.n, .int .i64 s.op, .int .i64 s.ph, .bool s.put, .map (some gm), .int .i64 m.f0, .int .i64 m.f1, .int .i64 m.f2, .int .i64 m.f3, .string m.f4, .int .i64 m.f5.f0, .int .i64 m.f5.f1, .string m.f6, vb, .int .i64 s.work.f0, .int .i64 s.work.f1, .int .i64 s.work.f2, .int .i64 s.work.f3, .string s.work.f4, .int .i64 s.work.f5.f0, .int .i64 s.work.f5.f1, .string s.work.f6, vw, .int .i64 s.en] : Array Value) 70 (0, 0)) :: (gm, om) :: []) (World.setCell (World.setCell (World.setCell (World.setCell (World.setCell (World.setCell (World.setCell (World.setCell w4 ⟨g, 6, none⟩ (.int .i64 m.f0)) ⟨g, 7, none⟩ (.int .i64 m.f1)) ⟨g, 8, none⟩ (.int .i64 m.f2)) ⟨g, 9, none⟩ (.int .i64 m.f3)) ⟨g, 10, none⟩ (.string m.f4)) ⟨g, 11, none⟩ (.int .i64 m.f5.f0)) ⟨g, 12, none⟩ (.int .i64 m.f5.f1)) ⟨g, 13, none⟩ (.string m.f6)) := Ov.set hs10_ 2 rfl 13 (.string m.f6)
  have hs12_ : Ov w g (some gm) ((gr, .cells (#[.int .i64 j1, .int .i64 j2, .string j3] : Array Value) 57 (0, 0)) :: (gb, .cells (#[.int .i64 m.f0, .int .i64 m.f1, .int .i64 m.f2, .int .i64 m.f3, .string m.f4, .int .i64 m.f5.f0, .int .i64 m.f5.f1, .string m.f6, .slice Am m.f7.length cm] : Array Value) 26 (0, 0)) :: (g, .cells (#[.int .i64 s.id, .int .i64 s.n, .int .i64 s.op, .int .i64 s.ph, .bool s.put, .map (some gm), .int .i64 m.f0, .int .i64 m.f1, .int .i64 m.f2, .int .i64 m.f3, .string m.f4, .int .i64 m.f5.f0, .int .i64 m.f5.f1, .string m.f6, .slice Am m.f7.length cm, .int .i64 s.work.f0, .int .i64 s.work.f1, .int .i64 s.work.f2, .int .i64 s.work.f3, .string s.work.f4, .int .i64 s.work.f5.f0, .int .i64 s.work.f5.f1, .string s.work.f6, vw, .int .i64 s.en] : Array Value) 70 (0, 0)) :: (gm, om) :: []) (World.setCell (World.setCell (World.setCell (World.setCell (World.setCell (World.setCell (World.setCell (World.setCell (World.setCell w4 ⟨g, 6, none⟩ (.int .i64 m.f0)) ⟨g, 7, none⟩ (.int .i64 m.f1)) ⟨g, 8, none⟩ (.int .i64 m.f2)) ⟨g, 9, none⟩ (.int .i64 m.f3)) ⟨g, 10, none⟩ (.string m.f4)) ⟨g, 11, none⟩ (.int .i64 m.f5.f0)) ⟨g, 12, none⟩ (.int .i64 m.f5.f1)) ⟨g, 13, none⟩ (.string m.f6)) ⟨g, 14, none⟩ (.slice Am m.f7.length cm)) := Ov.set hs11_ 2 rfl 14 (.slice Am m.f7.length cm)
  refine (fun (h_ : ∀ w_, Ov w g (some gm) ((gr, .cells (#[.int .i64 j1, .int .i64 j2, .string j3] : Array Value) 57 (0, 0)) :: (gb, .cells (#[.int .i64 m.f0, .int .i64 m.f1, .int .i64 m.f2, .int .i64 m.f3, .string m.f4, .int .i64 m.f5.f0, .int .i64 m.f5.f1, .string m.f6, .slice Am m.f7.length cm] : Array Value) 26 (0, 0)) :: (g, .cells (#[.int .i64 s.id, .int .i64 s.n, .int .i64 s.op, .int .i64 s.ph, .bool s.put, .map (some gm), .int .i64 m.f0, .int .i64 m.f1, .int .i64 m.f2, .int .i64 m.f3, .string m.f4, .int .i64 m.f5.f0, .int .i64 m.f5.f1, .string m.f6, .slice Am m.f7.length cm, .int .i64 s.work.f0, .int .i64 s.work.f1, .int .i64 s.work.f2, .int .i64 s.work.f3, .string s.work.f4, .int .i64 s.work.f5.f0, .int .i64 s.work.f5.f1, .string s.work.f6, vw, .int .i64 s.en] : Array Value) 70 (0, 0)) :: (gm, om) :: []) w_ → Code.wp _ _ _ _ w_) => h_ (World.setCell (World.setCell (World.setCell (World.setCell (World.setCell (World.setCell (World.setCell (World.setCell (World.setCell w4 ⟨g, 6, none⟩ (.int .i64 m.f0)) ⟨g, 7, none⟩ (.int .i64 m.f1)) ⟨g, 8, none⟩ (.int .i64 m.f2)) ⟨g, 9, none⟩ (.int .i64 m.f3)) ⟨g, 10, none⟩ (.string m.f4)) ⟨g, 11, none⟩ (.int .i64 m.f5.f0)) ⟨g, 12, none⟩ (.int .i64 m.f5.f1)) ⟨g, 13, none⟩ (.string m.f6)) ⟨g, 14, none⟩ (.slice Am m.f7.length cm)) hs12_) ?_
  clear HS hs4_ hs5_ hs6_ hs7_ hs8_ hs9_ hs10_ hs11_ hs12_  yb0 yb1 yb2 yb3 yb4 yb5 yb6 yb7 yb8 yc6 fc6 yc7 fc7 yc8 fc8 yc9 fc9 yc10 fc10 yc11 fc11 yc12 fc12 yc13 fc13 yc14 fc14
  intro w5a HS_
  have HS := Aside0.mk HS_
  clear HS_
  have yb8 := (HS.out.cell 1 rfl 8).trans (show (#[.int .i64 m.f0, .int .i64 m.f1, .int .i64 m.f2, .int .i64 m.f3, .string m.f4, .int .i64 m.f5.f0, .int .i64 m.f5.f1, .string m.f6, .slice Am m.f7.length cm] : Array Value)[8]? = some (.slice Am m.f7.length cm) from rfl)
  go_upto_region 7 with (first | (go_at_call 35; (with_reducible refine (clone_calls Am cm m.f7 _ (HR.out _ HS.out.fr) HCm.out HLm.out).mono ?_); rintro e w6 ⟨v5, rfl, hr_, hb⟩; obtain ⟨Av, cv, rfl⟩ := Kd.R_slice hr_; have HV := Aside0.mk (Kd.R_lower hr_ (Nat.zero_le _)); have n_HS := Aside0.mk (HS.out.step hb); clear HS hb hr_; have HS := n_HS; clear n_HS; clear yb8; have yc14 := (HS.out.cell 2 rfl 14).trans (show ((#[.int .i64 s.id, .int .i64 s.n, .int .i64 s.op, .int .i64 s.ph, .bool s.put, .map (some gm), .int .i64 m.f0, .int .i64 m.f1, .int .i64 m.f2, .int .i64 m.f3, .string m.f4, .int .i64 m.f5.f0, .int .i64 m.f5.f1, .string m.f6, .slice Am m.f7.length cm, .int .i64 s.work.f0, .int .i64 s.work.f1, .int .i64 s.work.f2, .int .i64 s.work.f3, .string s.work.f4, .int .i64 s.work.f5.f0, .int .i64 s.work.f5.f1, .string s.work.f6, vw, .int .i64 s.en] : Array Value) : Array Value)[14]? = some (.slice Am m.f7.length cm) from rfl); have fc14 := HS.out.fz 2 rfl 14) | fail)
  have hs13_ : Ov w g (some gm) ((gr, .cells (#[.int .i64 j1, .int .i64 j2, .string j3] : Array Value) 57 (0, 0)) :: (gb, .cells (#[.int .i64 m.f0, .int .i64 m.f1, .int .i64 m.f2, .int .i64 m.f3, .string m.f4, .int .i64 m.f5.f0, .int .i64 m.f5.f1, .string m.f6, .slice Am m.f7.length cm] : Array Value) 26 (0, 0)) :: (g, .cells (#[.int .i64 s.id, .int .i64 s.n, .int .i64 s.op, .int .i64 s.ph, .bool s.put, .map (some gm), .int .i64 m.f0, .int .i64 m.f1, .int .i64 m.f2, .int .i64 m.f3, .string m.f4, .int .i64 m.f5.f0, .int .i64 m.f5.f1, .string m.f6, .slice Av m.f7.length cv, .int .i64 s.work.f0, .int .i64 s.work.f1, .int .i64 s.work.f2, .int .i64 s.work.f3, .string s.work.f4, .int .i64 s.work.f5.f0, .int .i64 s.work.f5.f1, .string s.work.f6, vw, .int .i64 s.en] : Array Value) 70 (0, 0)) :: (gm, om) :: []) (World.setCell w6 ⟨g, 14, none⟩ (.slice Av m.f7.length cv)) := Ov.set HS.out 2 rfl 14 (.slice Av m.f7.length cv)
  refine (fun (h_ : ∀ w_, Ov w g (some gm) ((gr, .cells (#[.int .i64 j1, .int .i64 j2, .string j3] : Array Value) 57 (0, 0)) :: (gb, .cells (#[.int .i64 m.f0, .int .i64 m.f1, .int .i64 m.f2, .int .i64 m.f3, .string m.f4, .int .i64 m.f5.f0, .int .i64 m.f5.f1, .string m.f6, .slice Am m.f7.length cm] : Array Value) 26 (0, 0)) :: (g, .cells (#[.int .i64 s.id, .int .i64 s.n, .int .i64 s.op, .int .i64 s.ph, .bool s.put, .map (some gm), .int .i64 m.f0, .int .i64 m.f1, .int .i64 m.f2, .int .i64 m.f3, .string m.f4, .int .i64 m.f5.f0, .int .i64 m.f5.f1, .string m.f6, .slice Av m.f7.length cv, .int .i64 s.work.f0, .int .i64 s.work.f1, .int .i64 s.work.f2, .int .i64 s.work.f3, .string s.work.f4, .int .i64 s.work.f5.f0, .int .i64 s.work.f5.f1, .string s.work.f6, vw, .int .i64 s.en] : Array Value) 70 (0, 0)) :: (gm, om) :: []) w_ → Kd.string.R 9 w_ 0 (fun _ => True) (.slice Av m.f7.length cv) m.f7 → Code.wp _ _ _ _ w_) => h_ (World.setCell w6 ⟨g, 14, none⟩ (.slice Av m.f7.length cv)) hs13_ (R_set HV.out (Ov.at HS.out 2 rfl) str_not)) ?_
  clear HS hs13_ HV yc14 fc14
  intro w7 HS_ HV_
  have HS := Aside0.mk HS_
  have HV := Aside0.mk HV_
  clear HS_ HV_
  have n_HS := Aside0.mk (HS.out.drew)
  have n_HV := Aside0.mk (Kd.R_drew HV.out)
  clear HS HV
  have HS := n_HS
  have HV := n_HV
  clear n_HS n_HV
  refine start_ (n := 7) (S := fun w' => w'.cell? ⟨g, 5, none⟩ = some (.map (some gm)) ∧ w'.cell? ⟨gb, 1, none⟩ = some (.int .i64 m.f1)) (ds := []) #[false, false, false, false, false, false, false] (by kernel_rfl) rfl rfl ⟨(HS.out.cell 2 rfl 5).trans rfl, (HS.out.cell 1 rfl 1).trans rfl⟩ (fun hHeld => ?_)
  refine with_tabW client_tell.tab7 client_tell.bits7 (fun HT_ HW_ => ?_)
  generalize World.drew _ = w8 at HS HV hHeld ⊢
  refine pure_ (i := 0) (N := some 56) (v := ?_) (a' := ?_) #[true, false, false, false, false, false, false] rfl rfl (any_of HT_.out (by kernel_rfl)) (fun _ _ _ h => h) (Or.inl ⟨by rfl, ?_⟩) ?_ ?_
  rotate_left
  · intro w'
    go_simp
    with_reducible rfl
  rotate_left
  · simp only [Act.put, List.setIfInBounds_toArray, List.set_cons_zero, List.set_cons_succ, i64_w, i32_w]
    rfl
  refine pure_ (i := 1) (N := some 57) (v := ?_) (a' := ?_) #[true, true, false, false, false, false, false] rfl rfl (any_of HT_.out (by kernel_rfl)) (fun _ _ _ h => h) (Or.inl ⟨by rfl, ?_⟩) ?_ ?_
  rotate_left
  · intro w'
    go_simp
    with_reducible rfl
  rotate_left
  · simp only [Act.put, List.setIfInBounds_toArray, List.set_cons_zero, List.set_cons_succ, i64_w, i32_w]
    rfl
  refine pure_ (i := 2) (N := some 58) (v := ?_) (a' := ?_) #[true, true, true, false, false, false, false] rfl rfl (any_of HT_.out (by kernel_rfl)) (fun _ _ _ h => h) (Or.inl ⟨by rfl, ?_⟩) ?_ ?_
  rotate_left
  · intro w'
    go_simp
    with_reducible rfl
  rotate_left
  · simp only [Act.put, List.setIfInBounds_toArray, List.set_cons_zero, List.set_cons_succ, i64_w, i32_w]
    rfl
  refine pure_ (i := 4) (N := some 60) (v := ?_) (a' := ?_) #[true, true, true, false, true, false, false] rfl rfl (any_of HT_.out (by kernel_rfl)) (fun _ _ _ h => h) (Or.inl ⟨by rfl, ?_⟩) ?_ ?_
  rotate_left
  · intro w'
    go_simp
    with_reducible rfl
  rotate_left
  · simp only [Act.put, List.setIfInBounds_toArray, List.set_cons_zero, List.set_cons_succ, i64_w, i32_w]
    rfl
  refine take_ (i := 3) (N := some 59) (v := ?_) (a' := ?_) #[true, true, true, true, true, false, false] rfl rfl (take_ofW HT_.out HW_.out (by kernel_rfl)) (fun _ _ _ h => h) (Or.inl ⟨by rfl, ?_⟩) hHeld ?_ ?_
  rotate_left
  · rintro w' ⟨s0_, s1_⟩
    go_simp
    with_reducible rfl
  rotate_left
  · simp only [Act.put, List.setIfInBounds_toArray, List.set_cons_zero, List.set_cons_succ, i64_w, i32_w]
    rfl
  refine take_ (i := 5) (N := some 61) (v := ?_) (a' := ?_) #[true, true, true, true, true, true, false] rfl rfl (take_ofW HT_.out HW_.out (by kernel_rfl)) (fun _ _ _ h => h) (Or.inl ⟨by rfl, ?_⟩) hHeld ?_ ?_
  rotate_left
  · rintro w' ⟨s0_, s1_⟩
    go_simp
    with_reducible rfl
  rotate_left
  · simp only [Act.put, List.setIfInBounds_toArray, List.set_cons_zero, List.set_cons_succ, i64_w, i32_w]
    rfl
  refine one_ (i := 6) (N := none) #[true, true, true, true, true, true, true] rfl rfl (one_of HT_.out (by kernel_rfl)) (by decide) (fun K hK => ?_)
  obtain ⟨w9, hrun, hm9, hg9⟩ := ck_put (HM.blk H4.out ((HS.out.at 3 rfl).trans HO1.out.symm)) m.f1 HX.out HLN.out HNW.out
  refine skip_ (w1 := w9) (by rfl) rfl (by go_simp) ?_
  clear hrun
  obtain ⟨es9, ck9, hx9⟩ := set_obj hm9
  have HM9 := Aside0.mk hm9
  have n_HS : Aside0 (Ov w g (some gm) ((gr, .cells (#[.int .i64 j1, .int .i64 j2, .string j3] : Array Value) 57 (0, 0)) :: (gb, .cells (#[.int .i64 m.f0, .int .i64 m.f1, .int .i64 m.f2, .int .i64 m.f3, .string m.f4, .int .i64 m.f5.f0, .int .i64 m.f5.f1, .string m.f6, .slice Am m.f7.length cm] : Array Value) 26 (0, 0)) :: (g, .cells (#[.int .i64 s.id, .int .i64 s.n, .int .i64 s.op, .int .i64 s.ph, .bool s.put, .map (some gm), .int .i64 m.f0, .int .i64 m.f1, .int .i64 m.f2, .int .i64 m.f3, .string m.f4, .int .i64 m.f5.f0, .int .i64 m.f5.f1, .string m.f6, .slice Av m.f7.length cv, .int .i64 s.work.f0, .int .i64 s.work.f1, .int .i64 s.work.f2, .int .i64 s.work.f3, .string s.work.f4, .int .i64 s.work.f5.f0, .int .i64 s.work.f5.f1, .string s.work.f6, vw, .int .i64 s.en] : Array Value) 70 (0, 0)) :: (gm, .map es9 ck9) :: []) w9) := ⟨Ov.mapped HS.out 3 rfl hg9 hx9⟩
  have n_HV := Aside0.mk (R_map HV.out (set_obj (HM.blk H4.out ((HS.out.at 3 rfl).trans HO1.out.symm))) hg9)
  clear HS hm9 hg9 hx9 HV
  have HS := n_HS
  have HV := n_HV
  clear n_HS n_HV
  refine hK.out _ _ ⟨(HS.out.cell 2 rfl 5).trans rfl, (HS.out.cell 1 rfl 1).trans rfl⟩ (fun hHeld => ?_)
  clear hK K
  refine done_ (done_of HT_.out (by kernel_rfl)) ?_
  clear HT_ HW_ hHeld
  have HC9 : Aside0 (Cl g (some gm) ⟨s.id, s.n, s.op, s.ph, s.put, m, s.work, s.en⟩ (m.f1 :: []) w9) := ⟨Cl.shut (s' := ⟨s.id, s.n, s.op, s.ph, s.put, m, s.work, s.en⟩) H1.out (HM.moN H4.out) HS.out 2 rfl HM9.out HV.out (R_fr H3.out H1.out (HM.moN H4.out) str_not HS.out.fr)⟩
  have HF9 := Aside0.mk HS.out.fr
  go_wp2_with (go_at_call 51; (with_reducible refine (most_calls g gm ⟨s.id, s.n, s.op, s.ph, s.put, m, s.work, s.en⟩ (m.f1 :: []) false w9 HC9.out HMO.out).mono ?_); rintro e w10 ⟨rfl, hb⟩; have HC10 := Aside0.mk (HC9.out.below hb); have n_HS := Aside0.mk (HS.out.step hb); clear HS hb; have HS := n_HS; clear n_HS)
  go_ret2
  exact ⟨_, some gm, rfl, Kd.R_nil _ _ _ _ _, HC10.out, HS.out.fr, .inl rfl⟩
set_option maxHeartbeats 40000000 in
set_option maxRecDepth 100000 in
theorem tell_older0_none (k : Nat) (g gm : Nat) (s : CS) (H : List Int) (m : S26) (Am : Option Addr) (cm : Nat) (j1 j2 : Int) (j3 : ByteArray) (je : Int) (w : World) (hc : Cl g (some gm) s H w) (hr : ∀ W', Fr g (some gm) w W' → Kd.string.C W' Am m.f7.length m.f7) (hcm : m.f7.length ≤ cm) (hlm : m.f7.length ≤ 1000000) (hj : bands_Join.f k m.f6 m.f7 = some (j1, j2, j3, je)) (hk : m.f0 = 2) (hv : m.f5.f0 = 0) (hne : H.length ≠ 0) (hnw : store_Newer.f k m.f5.f0 m.f5.f1 s.best.f5.f0 s.best.f5.f1 = some false) (hx : -9223372036854775808 ≤ m.f1 ∧ m.f1 ≤ 9223372036854775807) (hnew : m.f1 ∉ H) (hln : (H : List Int).length ≤ 1000) (hmo : decide (s.n < wrap64 (2 * (((m.f1 :: H).length : Nat) : Int))) = true) (hput : s.put = false) (hcn : s.best.f5.f0 = 0) : Calls Try.prog 30 #[.pointer (some ⟨g, 0, none⟩), .agg #[.int .i64 m.f0, .int .i64 m.f1, .int .i64 m.f2, .int .i64 m.f3, .string m.f4, .int .i64 m.f5.f0, .int .i64 m.f5.f1, .string m.f6, .slice Am m.f7.length cm]] w (PostB g (some gm) w ⟨s.id, s.n, s.op, 0, s.put, s.best, s.work, 41⟩ (m.f1 :: H) [] true) := by
  obtain ⟨vb, vw, om, hs, h4, h2, h3, h1, hm⟩ := hc.open2
  have HS := Aside0.mk hs
  have H4 := Aside0.mk h4
  have H2 := Aside0.mk h2
  have H3 := Aside0.mk h3
  have H1 := Aside0.mk h1
  have HO1 := Aside0.mk hm
  clear hs h4 h2 h3 h1 hm hc
  have HR := Aside0.mk hr
  have HCm := Aside0.mk hcm
  have HLm := Aside0.mk hlm
  have HJ := Aside0.mk hj
  have HX := Aside0.mk hx
  have HNW := Aside0.mk hnew
  have HLN := Aside0.mk hln
  have HMO := Aside0.mk hmo
  clear hr hcm hlm hj hx hnew hln hmo
  have q1 : (m.f0 != 2) = false := bne_eq_false_iff_eq.mpr hk
  clear hk
  have q2 : (m.f5.f0 != 0) = false := bne_eq_false_iff_eq.mpr hv
  have HVz := Aside0.mk hv
  clear hv
  have q3 : ((H.length : Int) == 0) = false := beq_eq_false_iff_ne.mpr (by omega)
  have HNwr := Aside0.mk hnw
  clear hne hnw
  have HPut := Aside0.mk hput
  clear hput
  have HCn := Aside0.mk hcn
  clear hcn
  go_enter Try.func30, Try.ntmps30
  go_upto_region 2 with (first | ((with_reducible refine gate_dst (N := 3) rfl ?_); refine box_event ?hg (N := 3) ?hd (cs := #[.int .i64 m.f0, .int .i64 m.f1, .int .i64 m.f2, .int .i64 m.f3, .string m.f4, .int .i64 m.f5.f0, .int .i64 m.f5.f1, .string m.f6, .slice Am m.f7.length cm]) (t := 26) ?hr ?_; (case hd => rfl); (case hg => rfl); (case hr => first | (go_simp; done) | (go_simp; rfl)); intro gb hg wgb hbox hb; have n_HS := Aside0.mk (HS.out.box hb hg hbox); clear HS hg hb hbox; have HS := n_HS; clear n_HS; have yb0 := (HS.out.cell 0 rfl 0).trans (show (#[.int .i64 m.f0, .int .i64 m.f1, .int .i64 m.f2, .int .i64 m.f3, .string m.f4, .int .i64 m.f5.f0, .int .i64 m.f5.f1, .string m.f6, .slice Am m.f7.length cm] : Array Value)[0]? = some (.int .i64 m.f0) from rfl); have yb5 := (HS.out.cell 0 rfl 5).trans (show (#[.int .i64 m.f0, .int .i64 m.f1, .int .i64 m.f2, .int .i64 m.f3, .string m.f4, .int .i64 m.f5.f0, .int .i64 m.f5.f1, .string m.f6, .slice Am m.f7.length cm] : Array Value)[5]? = some (.int .i64 m.f5.f0) from rfl); have yb7 := (HS.out.cell 0 rfl 7).trans (show (#[.int .i64 m.f0, .int .i64 m.f1, .int .i64 m.f2, .int .i64 m.f3, .string m.f4, .int .i64 m.f5.f0, .int .i64 m.f5.f1, .string m.f6, .slice Am m.f7.length cm] : Array Value)[7]? = some (.string m.f6) from rfl); have yb8 := (HS.out.cell 0 rfl 8).trans (show (#[.int .i64 m.f0, .int .i64 m.f1, .int .i64 m.f2, .int .i64 m.f3, .string m.f4, .int .i64 m.f5.f0, .int .i64 m.f5.f1, .string m.f6, .slice Am m.f7.length cm] : Array Value)[8]? = some (.slice Am m.f7.length cm) from rfl)) | (go_at_call 34; (with_reducible refine (bands_Join.calls k m.f6 Am cm m.f7 j1 j2 j3 je _ (HR.out _ HS.out.fr) HCm.out HJ.out).mono ?_); rintro e w2 ⟨rfl, hb⟩; have n_HS := Aside0.mk (HS.out.step hb); clear HS hb yb0 yb5 yb7 yb8; have HS := n_HS; clear n_HS) | ((with_reducible refine gate_dst (N := 6) rfl ?_); refine box_event ?hg (N := 6) ?hd (cs := #[.int .i64 0, .int .i64 0, .string (⟨#[]⟩ : ByteArray)]) (t := 57) ?hr ?_; (case hd => rfl); (case hg => rfl); (case hr => first | (go_simp; done) | (go_simp; rfl)); intro gr hg wgr hbox hb; have n_HS := Aside0.mk (HS.out.box hb hg hbox); clear HS hg hb hbox; have HS := n_HS; clear n_HS; have yr0 := (HS.out.cell 0 rfl 0).trans (show (#[.int .i64 0, .int .i64 0, .string (⟨#[]⟩ : ByteArray)] : Array Value)[0]? = some (.int .i64 0) from rfl); have fr0 := HS.out.fz 0 rfl 0; have yr1 := (HS.out.cell 0 rfl 1).trans (show (#[.int .i64 0, .int .i64 0, .string (⟨#[]⟩ : ByteArray)] : Array Value)[1]? = some (.int .i64 0) from rfl); have fr1 := HS.out.fz 0 rfl 1; have yr2 := (HS.out.cell 0 rfl 2).trans (show (#[.int .i64 0, .int .i64 0, .string (⟨#[]⟩ : ByteArray)] : Array Value)[2]? = some (.string (⟨#[]⟩ : ByteArray)) from rfl); have fr2 := HS.out.fz 0 rfl 2))
  have hs1_ : Ov w g (some gm) ((gr, .cells (#[.int .i64 j1, .int .i64 0, .string (⟨#[]⟩ : ByteArray)] : Array Value) 57 (0, 0)) :: (gb, .cells (#[.int .i64 m.f0, .int .i64 m.f1, .int .i64 m.f2, .int .i64 m.f3, .string m.f4, .int .i64 m.f5.f0, .int .i64 m.f5.f1, .string m.f6, .slice Am m.f7.length cm] : Array Value) 26 (0, 0)) :: (g, .cells (#[.int .i64 s.id, .int .i64 s.n, .int .i64 s.op, .int .i64 s.ph, .bool s.put, .map (some gm), .int .i64 s.best.f0, .int .i64 s.best.f1, .int .i64 s.best.f2, .int .i64 s.best.f3, .string s.best.f4, .int .i64 s.best.f5.f0, .int .i64 s.best.f5.f1, .string s.best.f6, vb, .int .i64 s.work.f0, .int .i64 s.work.f1, .int .i64 s.work.f2, .int .i64 s.work.f3, .string s.work.f4, .int .i64 s.work.f5.f0, .int .i64 s.work.f5.f1, .string s.work.f6, vw, .int .i64 s.en] : Array Value) 70 (0, 0)) :: (gm, om) :: []) (World.setCell wgr ⟨gr, 0, none⟩ (.int .i64 j1)) := Ov.set HS.out 0 rfl 0 (.int .i64 j1)
  have hs2_ : Ov w g (some gm) ((gr, .cells (#[.int .i64 j1, .int .i64 j2, .string (⟨#[]⟩ : ByteArray)] : Array Value) 57 (0, 0)) :: (gb, .cells (#[.int .i64 m.f0, .int .i64 m.f1, .int .i64 m.f2, .int .i64 m.f3, .string m.f4, .int .i64 m.f5.f0, .int .i64 m.f5.f1, .string m.f6, .slice Am m.f7.length cm] : Array Value) 26 (0, 0)) :: (g, .cells (#[.int .i64 s.id, .int .i64 s.n, .int .i64 s.op, .int .i64 s.ph, .bool s.put, .map (some gm), .int .i64 s.best.f0, .int .i64 s.best.f1, .int .i64 s.best.f2, .int .i64 s.best.f3, .string s.best.f4, .int .i64 s.best.f5.f0, .int .i64 s.best.f5.f1, .string s.best.f6, vb, .int .i64 s.work.f0, .int .i64 s.work.f1, .int .i64 s.work.f2, .int .i64 s.work.f3, .string s.work.f4, .int .i64 s.work.f5.f0, .int .i64 s.work.f5.f1, .string s.work.f6, vw, .int .i64 s.en] : Array Value) 70 (0, 0)) :: (gm, om) :: []) (World.setCell (World.setCell wgr ⟨gr, 0, none⟩ (.int .i64 j1)) ⟨gr, 1, none⟩ (.int .i64 j2)) := Ov.set hs1_ 0 rfl 1 (.int .i64 j2)
  have hs3_ : Ov w g (some gm) ((gr, .cells (#[.int .i64 j1, .int .i64 j2, .string j3] : Array Value) 57 (0, 0)) :: (gb, .cells (#[.int .i64 m.f0, .int .i64 m.f1, .int .i64 m.f2, .int .i64 m.f3, .string m.f4, .int .i64 m.f5.f0, .int .i64 m.f5.f1, .string m.f6, .slice Am m.f7.length cm] : Array Value) 26 (0, 0)) :: (g, .cells (#[.int .i64 s.id, .int .i64 s.n, .int .i64 s.op, .int .i64 s.ph, .bool s.put, .map (some gm), .int .i64 s.best.f0, .int .i64 s.best.f1, .int .i64 s.best.f2, .int .i64 s.best.f3, .string s.best.f4, .int .i64 s.best.f5.f0, .int .i64 s.best.f5.f1, .string s.best.f6, vb, .int .i64 s.work.f0, .int .i64 s.work.f1, .int .i64 s.work.f2, .int .i64 s.work.f3, .string s.work.f4, .int .i64 s.work.f5.f0, .int .i64 s.work.f5.f1, .string s.work.f6, vw, .int .i64 s.en] : Array Value) 70 (0, 0)) :: (gm, om) :: []) (World.setCell (World.setCell (World.setCell wgr ⟨gr, 0, none⟩ (.int .i64 j1)) ⟨gr, 1, none⟩ (.int .i64 j2)) ⟨gr, 2, none⟩ (.string j3)) := Ov.set hs2_ 0 rfl 2 (.string j3)
  refine (fun (h_ : ∀ w_, Ov w g (some gm) ((gr, .cells (#[.int .i64 j1, .int .i64 j2, .string j3] : Array Value) 57 (0, 0)) :: (gb, .cells (#[.int .i64 m.f0, .int .i64 m.f1, .int .i64 m.f2, .int .i64 m.f3, .string m.f4, .int .i64 m.f5.f0, .int .i64 m.f5.f1, .string m.f6, .slice Am m.f7.length cm] : Array Value) 26 (0, 0)) :: (g, .cells (#[.int .i64 s.id, .int .i64 s.n, .int .i64 s.op, .int .i64 s.ph, .bool s.put, .map (some gm), .int .i64 s.best.f0, .int .i64 s.best.f1, .int .i64 s.best.f2, .int .i64 s.best.f3, .string s.best.f4, .int .i64 s.best.f5.f0, .int .i64 s.best.f5.f1, .string s.best.f6, vb, .int .i64 s.work.f0, .int .i64 s.work.f1, .int .i64 s.work.f2, .int .i64 s.work.f3, .string s.work.f4, .int .i64 s.work.f5.f0, .int .i64 s.work.f5.f1, .string s.work.f6, vw, .int .i64 s.en] : Array Value) 70 (0, 0)) :: (gm, om) :: []) w_ → Code.wp _ _ _ _ w_) => h_ (World.setCell (World.setCell (World.setCell wgr ⟨gr, 0, none⟩ (.int .i64 j1)) ⟨gr, 1, none⟩ (.int .i64 j2)) ⟨gr, 2, none⟩ (.string j3)) hs3_) ?_
  clear HS hs1_ hs2_ hs3_  yr0 fr0 yr1 fr1 yr2 fr2
  intro w3 HS_
  have HS := Aside0.mk HS_
  clear HS_
  have yb0 := (HS.out.cell 1 rfl 0).trans (show (#[.int .i64 m.f0, .int .i64 m.f1, .int .i64 m.f2, .int .i64 m.f3, .string m.f4, .int .i64 m.f5.f0, .int .i64 m.f5.f1, .string m.f6, .slice Am m.f7.length cm] : Array Value)[0]? = some (.int .i64 m.f0) from rfl)
  have yb5 := (HS.out.cell 1 rfl 5).trans (show (#[.int .i64 m.f0, .int .i64 m.f1, .int .i64 m.f2, .int .i64 m.f3, .string m.f4, .int .i64 m.f5.f0, .int .i64 m.f5.f1, .string m.f6, .slice Am m.f7.length cm] : Array Value)[5]? = some (.int .i64 m.f5.f0) from rfl)
  go_upto_region 4 with (fail)
  clear yb0 yb5
  have n_HS := Aside0.mk (HS.out.drew)
  clear HS
  have HS := n_HS
  clear n_HS
  refine start_ (n := 16) (S := fun w' => w'.cell? ⟨g, 5, none⟩ = some (.map (some gm)) ∧ w'.cell? ⟨g, 11, none⟩ = some (.int .i64 s.best.f5.f0) ∧ w'.cell? ⟨g, 12, none⟩ = some (.int .i64 s.best.f5.f1) ∧ w'.cell? ⟨gb, 5, none⟩ = some (.int .i64 m.f5.f0) ∧ w'.cell? ⟨gb, 6, none⟩ = some (.int .i64 m.f5.f1) ∧ (Builtin.len_ #[62] 3 #[.map (some gm)]).run Try.prog w' = .ok (.int .i64 H.length) w') (ds := []) #[false, false, false, false, false, false, false, false, false, false, false, false, false, false, false, false] (by kernel_rfl) rfl rfl ⟨(HS.out.cell 2 rfl 5).trans rfl, (HS.out.cell 2 rfl 11).trans rfl, (HS.out.cell 2 rfl 12).trans rfl, (HS.out.cell 1 rfl 5).trans rfl, (HS.out.cell 1 rfl 6).trans rfl, ck_len (HM.blk H4.out ((HS.out.at 3 rfl).trans HO1.out.symm)) _⟩ (fun hHeld => ?_)
  refine with_tabW client_tell.tab4 client_tell.bits4 (fun HT_ HW_ => ?_)
  generalize World.drew _ = w4 at HS  hHeld ⊢
  refine pure_ (i := 0) (N := some 29) (v := ?_) (a' := ?_) #[true, false, false, false, false, false, false, false, false, false, false, false, false, false, false, false] rfl rfl (any_of HT_.out (by kernel_rfl)) (fun _ _ _ h => h) (Or.inl ⟨by rfl, ?_⟩) ?_ ?_
  rotate_left
  · intro w'
    go_simp
    with_reducible rfl
  rotate_left
  · simp only [Act.put, List.setIfInBounds_toArray, List.set_cons_zero, List.set_cons_succ, i64_w, i32_w]
    rfl
  refine pure_ (i := 1) (N := some 30) (v := ?_) (a' := ?_) #[true, true, false, false, false, false, false, false, false, false, false, false, false, false, false, false] rfl rfl (any_of HT_.out (by kernel_rfl)) (fun _ _ _ h => h) (Or.inl ⟨by rfl, ?_⟩) ?_ ?_
  rotate_left
  · intro w'
    go_simp
    with_reducible rfl
  rotate_left
  · simp only [Act.put, List.setIfInBounds_toArray, List.set_cons_zero, List.set_cons_succ, i64_w, i32_w]
    rfl
  refine pure_ (i := 2) (N := some 31) (v := ?_) (a' := ?_) #[true, true, true, false, false, false, false, false, false, false, false, false, false, false, false, false] rfl rfl (any_of HT_.out (by kernel_rfl)) (fun _ _ _ h => h) (Or.inl ⟨by rfl, ?_⟩) ?_ ?_
  rotate_left
  · intro w'
    go_simp
    with_reducible rfl
  rotate_left
  · simp only [Act.put, List.setIfInBounds_toArray, List.set_cons_zero, List.set_cons_succ, i64_w, i32_w]
    rfl
  refine take_ (i := 3) (N := some 32) (v := ?_) (a' := ?_) #[true, true, true, true, false, false, false, false, false, false, false, false, false, false, false, false] rfl rfl (take_ofW HT_.out HW_.out (by kernel_rfl)) (fun _ _ _ h => h) (Or.inl ⟨by rfl, ?_⟩) hHeld ?_ ?_
  rotate_left
  · rintro w' ⟨s0_, s1_, s2_, s3_, s4_, s5_⟩
    go_simp
    with_reducible rfl
  rotate_left
  · simp only [Act.put, List.setIfInBounds_toArray, List.set_cons_zero, List.set_cons_succ, i64_w, i32_w]
    rfl
  refine take_ (i := 4) (N := some 33) (v := ?_) (a' := ?_) #[true, true, true, true, true, false, false, false, false, false, false, false, false, false, false, false] rfl rfl (take_ofW HT_.out HW_.out (by kernel_rfl)) (fun _ _ _ h => h) (Or.inl ⟨by rfl, ?_⟩) hHeld ?_ ?_
  rotate_left
  · rintro w' ⟨s0_, s1_, s2_, s3_, s4_, s5_⟩
    go_simp
    with_reducible rfl
  rotate_left
  · simp only [Act.put, List.setIfInBounds_toArray, List.set_cons_zero, List.set_cons_succ, i64_w, i32_w]
    rfl
  refine pure_ (i := 5) (N := some 34) (v := ?_) (a' := ?_) #[true, true, true, true, true, true, false, false, false, false, false, false, false, false, false, false] rfl rfl (any_of HT_.out (by kernel_rfl)) (fun _ _ _ h => h) (Or.inl ⟨by rfl, ?_⟩) ?_ ?_
  rotate_left
  · intro w'
    go_simp
    with_reducible rfl
  rotate_left
  · simp only [Act.put, List.setIfInBounds_toArray, List.set_cons_zero, List.set_cons_succ, i64_w, i32_w]
    rfl
  refine pure_ (i := 6) (N := some 35) (v := ?_) (a' := ?_) #[true, true, true, true, true, true, true, false, false, false, false, false, false, false, false, false] rfl rfl (any_of HT_.out (by kernel_rfl)) (fun _ _ _ h => h) (Or.inl ⟨by rfl, ?_⟩) ?_ ?_
  rotate_left
  · intro w'
    go_simp
    with_reducible rfl
  rotate_left
  · simp only [Act.put, List.setIfInBounds_toArray, List.set_cons_zero, List.set_cons_succ, i64_w, i32_w]
    rfl
  refine pure_ (i := 7) (N := some 36) (v := ?_) (a' := ?_) #[true, true, true, true, true, true, true, true, false, false, false, false, false, false, false, false] rfl rfl (any_of HT_.out (by kernel_rfl)) (fun _ _ _ h => h) (Or.inl ⟨by rfl, ?_⟩) ?_ ?_
  rotate_left
  · intro w'
    go_simp
    with_reducible rfl
  rotate_left
  · simp only [Act.put, List.setIfInBounds_toArray, List.set_cons_zero, List.set_cons_succ, i64_w, i32_w]
    rfl
  refine pure_ (i := 9) (N := some 38) (v := ?_) (a' := ?_) #[true, true, true, true, true, true, true, true, false, true, false, false, false, false, false, false] rfl rfl (any_of HT_.out (by kernel_rfl)) (fun _ _ _ h => h) (Or.inl ⟨by rfl, ?_⟩) ?_ ?_
  rotate_left
  · intro w'
    go_simp
    with_reducible rfl
  rotate_left
  · simp only [Act.put, List.setIfInBounds_toArray, List.set_cons_zero, List.set_cons_succ, i64_w, i32_w]
    rfl
  refine pure_ (i := 10) (N := some 39) (v := ?_) (a' := ?_) #[true, true, true, true, true, true, true, true, false, true, true, false, false, false, false, false] rfl rfl (any_of HT_.out (by kernel_rfl)) (fun _ _ _ h => h) (Or.inl ⟨by rfl, ?_⟩) ?_ ?_
  rotate_left
  · intro w'
    go_simp
    with_reducible rfl
  rotate_left
  · simp only [Act.put, List.setIfInBounds_toArray, List.set_cons_zero, List.set_cons_succ, i64_w, i32_w]
    rfl
  refine pure_ (i := 11) (N := some 40) (v := ?_) (a' := ?_) #[true, true, true, true, true, true, true, true, false, true, true, true, false, false, false, false] rfl rfl (any_of HT_.out (by kernel_rfl)) (fun _ _ _ h => h) (Or.inl ⟨by rfl, ?_⟩) ?_ ?_
  rotate_left
  · intro w'
    go_simp
    with_reducible rfl
  rotate_left
  · simp only [Act.put, List.setIfInBounds_toArray, List.set_cons_zero, List.set_cons_succ, i64_w, i32_w]
    rfl
  refine pure_ (i := 12) (N := some 41) (v := ?_) (a' := ?_) #[true, true, true, true, true, true, true, true, false, true, true, true, true, false, false, false] rfl rfl (any_of HT_.out (by kernel_rfl)) (fun _ _ _ h => h) (Or.inl ⟨by rfl, ?_⟩) ?_ ?_
  rotate_left
  · intro w'
    go_simp
    with_reducible rfl
  rotate_left
  · simp only [Act.put, List.setIfInBounds_toArray, List.set_cons_zero, List.set_cons_succ, i64_w, i32_w]
    rfl
  refine take_ (i := 8) (N := some 37) (v := ?_) (a' := ?_) #[true, true, true, true, true, true, true, true, true, true, true, true, true, false, false, false] rfl rfl (take_ofW HT_.out HW_.out (by kernel_rfl)) (fun _ _ _ h => h) (Or.inl ⟨by rfl, ?_⟩) hHeld ?_ ?_
  rotate_left
  · rintro w' ⟨s0_, s1_, s2_, s3_, s4_, s5_⟩
    go_simp
    with_reducible rfl
  rotate_left
  · simp only [Act.put, List.setIfInBounds_toArray, List.set_cons_zero, List.set_cons_succ, i64_w, i32_w]
    rfl
  refine take_ (i := 13) (N := some 42) (v := ?_) (a' := ?_) #[true, true, true, true, true, true, true, true, true, true, true, true, true, true, false, false] rfl rfl (take_ofW HT_.out HW_.out (by kernel_rfl)) (fun _ _ _ h => h) (Or.inl ⟨by rfl, ?_⟩) hHeld ?_ ?_
  rotate_left
  · rintro w' ⟨s0_, s1_, s2_, s3_, s4_, s5_⟩
    go_simp
    with_reducible rfl
  rotate_left
  · simp only [Act.put, List.setIfInBounds_toArray, List.set_cons_zero, List.set_cons_succ, i64_w, i32_w]
    rfl
  refine one_ (i := 14) (N := some 43) #[true, true, true, true, true, true, true, true, true, true, true, true, true, true, true, false] rfl rfl (one_of HT_.out (by kernel_rfl)) (by decide) (fun K hK => ?_)
  refine goes_ Try.func28 (by kernel_rfl) rfl #[.agg #[.int .i64 m.f5.f0, .int .i64 m.f5.f1], .agg #[.int .i64 s.best.f5.f0, .int .i64 s.best.f5.f1]] (by rfl) rfl rfl (by (try simp only [List.map_toArray, List.map_cons, List.map_nil]); first | done | rfl) ?_
  with_reducible refine (store_Newer.calls k m.f5.f0 m.f5.f1 s.best.f5.f0 s.best.f5.f1 false _ HNwr.out).mono ?_
  rintro e w5 ⟨rfl, hb⟩
  refine ⟨_, rfl, ?_⟩
  have n_HS := Aside0.mk (HS.out.step hb)
  clear HS hb
  have HS := n_HS
  clear n_HS
  refine hK.out _ _ ⟨(HS.out.cell 2 rfl 5).trans rfl, (HS.out.cell 2 rfl 11).trans rfl, (HS.out.cell 2 rfl 12).trans rfl, (HS.out.cell 1 rfl 5).trans rfl, (HS.out.cell 1 rfl 6).trans rfl, ck_len (HM.blk H4.out ((HS.out.at 3 rfl).trans HO1.out.symm)) _⟩ (fun hHeld => ?_)
  clear hK K
  refine norm_ (a' := ?_) ?_ ?_
  rotate_left
  · show Act.put _ (some 43) _ = _
    simp only [Act.put, List.setIfInBounds_toArray, List.set_cons_zero, List.set_cons_succ, i64_w, i32_w]
    rfl
  refine pure_ (i := 15) (N := some 44) (v := ?_) (a' := ?_) #[true, true, true, true, true, true, true, true, true, true, true, true, true, true, true, true] rfl rfl (any_of HT_.out (by kernel_rfl)) (fun _ _ _ h => h) (Or.inl ⟨by rfl, ?_⟩) ?_ ?_
  rotate_left
  · intro w'
    go_simp
    with_reducible rfl
  rotate_left
  · simp only [Act.put, List.setIfInBounds_toArray, List.set_cons_zero, List.set_cons_succ, i64_w, i32_w]
    rfl
  refine done_ (done_of HT_.out (by kernel_rfl)) ?_
  clear HT_ HW_ hHeld
  clear q3
  go_upto_region 7 with (fail)
  have n_HS := Aside0.mk (HS.out.drew)
  clear HS
  have HS := n_HS
  clear n_HS
  refine start_ (n := 7) (S := fun w' => w'.cell? ⟨g, 5, none⟩ = some (.map (some gm)) ∧ w'.cell? ⟨gb, 1, none⟩ = some (.int .i64 m.f1)) (ds := []) #[false, false, false, false, false, false, false] (by kernel_rfl) rfl rfl ⟨(HS.out.cell 2 rfl 5).trans rfl, (HS.out.cell 1 rfl 1).trans rfl⟩ (fun hHeld => ?_)
  refine with_tabW client_tell.tab7 client_tell.bits7 (fun HT_ HW_ => ?_)
  generalize World.drew _ = w8 at HS  hHeld ⊢
  refine pure_ (i := 0) (N := some 56) (v := ?_) (a' := ?_) #[true, false, false, false, false, false, false] rfl rfl (any_of HT_.out (by kernel_rfl)) (fun _ _ _ h => h) (Or.inl ⟨by rfl, ?_⟩) ?_ ?_
  rotate_left
  · intro w'
    go_simp
    with_reducible rfl
  rotate_left
  · simp only [Act.put, List.setIfInBounds_toArray, List.set_cons_zero, List.set_cons_succ, i64_w, i32_w]
    rfl
  refine pure_ (i := 1) (N := some 57) (v := ?_) (a' := ?_) #[true, true, false, false, false, false, false] rfl rfl (any_of HT_.out (by kernel_rfl)) (fun _ _ _ h => h) (Or.inl ⟨by rfl, ?_⟩) ?_ ?_
  rotate_left
  · intro w'
    go_simp
    with_reducible rfl
  rotate_left
  · simp only [Act.put, List.setIfInBounds_toArray, List.set_cons_zero, List.set_cons_succ, i64_w, i32_w]
    rfl
  refine pure_ (i := 2) (N := some 58) (v := ?_) (a' := ?_) #[true, true, true, false, false, false, false] rfl rfl (any_of HT_.out (by kernel_rfl)) (fun _ _ _ h => h) (Or.inl ⟨by rfl, ?_⟩) ?_ ?_
  rotate_left
  · intro w'
    go_simp
    with_reducible rfl
  rotate_left
  · simp only [Act.put, List.setIfInBounds_toArray, List.set_cons_zero, List.set_cons_succ, i64_w, i32_w]
    rfl
  refine pure_ (i := 4) (N := some 60) (v := ?_) (a' := ?_) #[true, true, true, false, true, false, false] rfl rfl (any_of HT_.out (by kernel_rfl)) (fun _ _ _ h => h) (Or.inl ⟨by rfl, ?_⟩) ?_ ?_
  rotate_left
  · intro w'
    go_simp
    with_reducible rfl
  rotate_left
  · simp only [Act.put, List.setIfInBounds_toArray, List.set_cons_zero, List.set_cons_succ, i64_w, i32_w]
    rfl
  refine take_ (i := 3) (N := some 59) (v := ?_) (a' := ?_) #[true, true, true, true, true, false, false] rfl rfl (take_ofW HT_.out HW_.out (by kernel_rfl)) (fun _ _ _ h => h) (Or.inl ⟨by rfl, ?_⟩) hHeld ?_ ?_
  rotate_left
  · rintro w' ⟨s0_, s1_⟩
    go_simp
    with_reducible rfl
  rotate_left
  · simp only [Act.put, List.setIfInBounds_toArray, List.set_cons_zero, List.set_cons_succ, i64_w, i32_w]
    rfl
  refine take_ (i := 5) (N := some 61) (v := ?_) (a' := ?_) #[true, true, true, true, true, true, false] rfl rfl (take_ofW HT_.out HW_.out (by kernel_rfl)) (fun _ _ _ h => h) (Or.inl ⟨by rfl, ?_⟩) hHeld ?_ ?_
  rotate_left
  · rintro w' ⟨s0_, s1_⟩
    go_simp
    with_reducible rfl
  rotate_left
  · simp only [Act.put, List.setIfInBounds_toArray, List.set_cons_zero, List.set_cons_succ, i64_w, i32_w]
    rfl
  refine one_ (i := 6) (N := none) #[true, true, true, true, true, true, true] rfl rfl (one_of HT_.out (by kernel_rfl)) (by decide) (fun K hK => ?_)
  obtain ⟨w9, hrun, hm9, hg9⟩ := ck_put (HM.blk H4.out ((HS.out.at 3 rfl).trans HO1.out.symm)) m.f1 HX.out HLN.out HNW.out
  refine skip_ (w1 := w9) (by rfl) rfl (by go_simp) ?_
  clear hrun
  obtain ⟨es9, ck9, hx9⟩ := set_obj hm9
  have HM9 := Aside0.mk hm9
  have n_HS : Aside0 (Ov w g (some gm) ((gr, .cells (#[.int .i64 j1, .int .i64 j2, .string j3] : Array Value) 57 (0, 0)) :: (gb, .cells (#[.int .i64 m.f0, .int .i64 m.f1, .int .i64 m.f2, .int .i64 m.f3, .string m.f4, .int .i64 m.f5.f0, .int .i64 m.f5.f1, .string m.f6, .slice Am m.f7.length cm] : Array Value) 26 (0, 0)) :: (g, .cells (#[.int .i64 s.id, .int .i64 s.n, .int .i64 s.op, .int .i64 s.ph, .bool s.put, .map (some gm), .int .i64 s.best.f0, .int .i64 s.best.f1, .int .i64 s.best.f2, .int .i64 s.best.f3, .string s.best.f4, .int .i64 s.best.f5.f0, .int .i64 s.best.f5.f1, .string s.best.f6, vb, .int .i64 s.work.f0, .int .i64 s.work.f1, .int .i64 s.work.f2, .int .i64 s.work.f3, .string s.work.f4, .int .i64 s.work.f5.f0, .int .i64 s.work.f5.f1, .string s.work.f6, vw, .int .i64 s.en] : Array Value) 70 (0, 0)) :: (gm, .map es9 ck9) :: []) w9) := ⟨Ov.mapped HS.out 3 rfl hg9 hx9⟩
  clear HS hm9 hg9 hx9
  have HS := n_HS
  clear n_HS
  refine hK.out _ _ ⟨(HS.out.cell 2 rfl 5).trans rfl, (HS.out.cell 1 rfl 1).trans rfl⟩ (fun hHeld => ?_)
  clear hK K
  refine done_ (done_of HT_.out (by kernel_rfl)) ?_
  clear HT_ HW_ hHeld
  have HC9 : Aside0 (Cl g (some gm) ⟨s.id, s.n, s.op, s.ph, s.put, s.best, s.work, s.en⟩ (m.f1 :: H) w9) := ⟨Cl.shut (s' := ⟨s.id, s.n, s.op, s.ph, s.put, s.best, s.work, s.en⟩) H1.out (HM.moN H4.out) HS.out 2 rfl HM9.out (R_fr H2.out H1.out (HM.moN H4.out) str_not HS.out.fr) (R_fr H3.out H1.out (HM.moN H4.out) str_not HS.out.fr)⟩
  have HF9 := Aside0.mk HS.out.fr
  go_wp2_with (first | (go_at_call 51; (with_reducible refine (most_calls g gm ⟨s.id, s.n, s.op, s.ph, s.put, s.best, s.work, s.en⟩ (m.f1 :: H) true w9 HC9.out HMO.out).mono ?_); rintro e w10 ⟨rfl, hb⟩; have HC10 := Aside0.mk (HC9.out.below hb); have n_HS := Aside0.mk (HS.out.step hb); clear HS hb; have HS := n_HS; clear n_HS; have yc4 := (HS.out.cell 2 rfl 4).trans (show (#[.int .i64 s.id, .int .i64 s.n, .int .i64 s.op, .int .i64 s.ph, .bool s.put, .map (some gm), .int .i64 s.best.f0, .int .i64 s.best.f1, .int .i64 s.best.f2, .int .i64 s.best.f3, .string s.best.f4, .int .i64 s.best.f5.f0, .int .i64 s.best.f5.f1, .string s.best.f6, vb, .int .i64 s.work.f0, .int .i64 s.work.f1, .int .i64 s.work.f2, .int .i64 s.work.f3, .string s.work.f4, .int .i64 s.work.f5.f0, .int .i64 s.work.f5.f1, .string s.work.f6, vw, .int .i64 s.en] : Array Value)[4]? = some (.bool s.put) from rfl); have yc11 := (HS.out.cell 2 rfl 11).trans (show (#[.int .i64 s.id, .int .i64 s.n, .int .i64 s.op, .int .i64 s.ph, .bool s.put, .map (some gm), .int .i64 s.best.f0, .int .i64 s.best.f1, .int .i64 s.best.f2, .int .i64 s.best.f3, .string s.best.f4, .int .i64 s.best.f5.f0, .int .i64 s.best.f5.f1, .string s.best.f6, vb, .int .i64 s.work.f0, .int .i64 s.work.f1, .int .i64 s.work.f2, .int .i64 s.work.f3, .string s.work.f4, .int .i64 s.work.f5.f0, .int .i64 s.work.f5.f1, .string s.work.f6, vw, .int .i64 s.en] : Array Value)[11]? = some (.int .i64 s.best.f5.f0) from rfl); rw [HPut.out] at yc4; rw [HCn.out] at yc11) | (go_at_call 52; (with_reducible refine (ends_calls g (some gm) ⟨s.id, s.n, s.op, s.ph, s.put, s.best, s.work, s.en⟩ (m.f1 :: H) 41 _ HC10.out).mono ?_); rintro e w11 ⟨v, row', rfl, hr_, hc_, hf_, ho_⟩; have HR_ := Aside0.mk hr_; have HC_ := Aside0.mk hc_; have HF_ := Aside0.mk hf_; have HO_ := Aside0.mk ho_; clear hr_ hc_ hf_ ho_; obtain ⟨Ar, cr, rfl⟩ := Kd.R_slice HR_.out))
  go_ret2
  exact ⟨_, row', rfl, Kd.R_lower HR_.out HS.out.fr.2.2.2.1, HC_.out, HS.out.fr.trans HF_.out (.inl rfl), RowOk.trans (.inl rfl) HS.out.fr.2.2.2.1 HO_.out⟩

end Go.Proofs.Ytdbiokmlgniobaa.PL22

namespace Go.Proofs.Ytdbiokmlgniobaa.PL22
open Go.RowKit Go.Proofs.YtdbiokmlgniobaaW.PrintWords Go.Proofs.YtdbiokmlgniobaaW.PrintLast Go.Proofs.YtdbiokmlgniobaaW.PrintMore
attribute [local go_sem] max2_int min2_int max_two min_two max_three min_three max_four min_four
set_option linter.unusedVariables false
set_option linter.unusedSimpArgs false
open Go.Proofs.YtdbiokmlgniobaaV
attribute [local go_sem high] eqA23
attribute [local go_sem] eql_nil
theorem Cl.hm {g gm : Nat} {s : CS} {H : List Int} {w : World} (h : Cl g (some gm) s H w) : HM w (some gm) H := by
  obtain ⟨_, _, _, _, _, h4⟩ := h
  exact h4
set_option maxHeartbeats 40000000 in
set_option maxRecDepth 100000 in
theorem handle_asks (g gm : Nat) (s : CS) (H : List Int) (m : S26) (Am : Option Addr) (lm cm : Nat) (w : World) (hc : Cl g (some gm) s H w) (hto : m.f2 = s.id) (hop : m.f3 = s.op) (hneg : ¬ m.f1 < 0) (hbig : ¬ s.n ≤ m.f1) (hhe : m.f1 ∉ H) (hph : s.ph = 1) (hx : -9223372036854775808 ≤ m.f1 ∧ m.f1 ≤ 9223372036854775807) (s' : CS) (H' : List Int) (l : List S26) (b : Bool) (hT : ∀ w1, Below w.heap.size w w1 → Calls Try.prog 30 #[.pointer (some ⟨g, 0, none⟩), .agg #[.int .i64 m.f0, .int .i64 m.f1, .int .i64 m.f2, .int .i64 m.f3, .string m.f4, .int .i64 m.f5.f0, .int .i64 m.f5.f1, .string m.f6, .slice Am lm cm]] w1 (PostB g (some gm) w1 s' H' l b)) : Calls Try.prog 11 #[.pointer (some ⟨g, 0, none⟩), .agg #[.int .i64 m.f0, .int .i64 m.f1, .int .i64 m.f2, .int .i64 m.f3, .string m.f4, .int .i64 m.f5.f0, .int .i64 m.f5.f1, .string m.f6, .slice Am lm cm]] w (PostB g (some gm) w s' H' l b) := by
  obtain ⟨vb, vw, h1, h2, h3, h4⟩ := hc
  have H1 := Aside0.mk h1
  have HC := Aside0.mk (show Cl g (some gm) s H w from ⟨vb, vw, h1, h2, h3, h4⟩)
  have hp : s.ph ≠ 0 := by omega
  have q_idle : (s.ph == 0) = false := beq_eq_false_iff_ne.mpr hp
  have q_to : (m.f2 != s.id) = false := bne_eq_false_iff_eq.mpr hto
  have q_op : (m.f3 != s.op) = false := bne_eq_false_iff_eq.mpr hop
  have q_neg : decide (m.f1 < 0) = false := decide_eq_false hneg
  have q_big : decide (s.n ≤ m.f1) = false := decide_eq_false hbig
  have HX := Aside0.mk hx
  have HIN := Aside0.mk (decide_eq_false hhe)
  have HT := Aside0.mk hT
  have q_ph : (s.ph == 1) = true := beq_iff_eq.mpr hph
  clear hp hto hop hneg hbig hhe hx hph hT
  clear h1 h2 h3 h4
  go_enter Try.func11, Try.ntmps11
  go_wp2_with ((with_reducible refine gate_dst (N := 3) rfl ?_); refine box_event ?hg (N := 3) ?hd (cs := #[.int .i64 m.f0, .int .i64 m.f1, .int .i64 m.f2, .int .i64 m.f3, .string m.f4, .int .i64 m.f5.f0, .int .i64 m.f5.f1, .string m.f6, .slice Am lm cm]) (t := 26) ?hr ?_; (case hd => rfl); (case hg => rfl); (case hr => first | (go_simp; done) | (go_simp; rfl)); intro gb hg w1 hbox hb; have yc0 := (blk_cell (blk_below H1.out hb) 0).trans (show (CC s (.map (some gm)) vb vw)[0]? = some (.int .i64 s.id) from rfl); have yc1 := (blk_cell (blk_below H1.out hb) 1).trans (show (CC s (.map (some gm)) vb vw)[1]? = some (.int .i64 s.n) from rfl); have yc2 := (blk_cell (blk_below H1.out hb) 2).trans (show (CC s (.map (some gm)) vb vw)[2]? = some (.int .i64 s.op) from rfl); have yc3 := (blk_cell (blk_below H1.out hb) 3).trans (show (CC s (.map (some gm)) vb vw)[3]? = some (.int .i64 s.ph) from rfl); have yc5 := (blk_cell (blk_below H1.out hb) 5).trans (show (CC s (.map (some gm)) vb vw)[5]? = some (.map (some gm)) from rfl); have yb1 := (blk_cell hbox 1).trans (show (#[.int .i64 m.f0, .int .i64 m.f1, .int .i64 m.f2, .int .i64 m.f3, .string m.f4, .int .i64 m.f5.f0, .int .i64 m.f5.f1, .string m.f6, .slice Am lm cm] : Array Value)[1]? = some (.int .i64 m.f1) from rfl); have yb2 := (blk_cell hbox 2).trans (show (#[.int .i64 m.f0, .int .i64 m.f1, .int .i64 m.f2, .int .i64 m.f3, .string m.f4, .int .i64 m.f5.f0, .int .i64 m.f5.f1, .string m.f6, .slice Am lm cm] : Array Value)[2]? = some (.int .i64 m.f2) from rfl); have yb3 := (blk_cell hbox 3).trans (show (#[.int .i64 m.f0, .int .i64 m.f1, .int .i64 m.f2, .int .i64 m.f3, .string m.f4, .int .i64 m.f5.f0, .int .i64 m.f5.f1, .string m.f6, .slice Am lm cm] : Array Value)[3]? = some (.int .i64 m.f3) from rfl); have lk : ∀ q_, (Instr.lookup 62 (.map (some gm)) (.int .i64 m.f1) false).run Try.prog (World.drewN _ q_) = .ok (.bool false) (World.drewN _ q_) := fun q_ => ck_look ((HC.out.below hb).below (pw_below_drewN (Below.refl _ _) q_)).hm m.f1 HX.out false HIN.out; have HB := Aside0.mk hb; have HX1 := Aside0.mk hbox; clear hg hb hbox)
  go_quiet (fail)
  refine (fun (h_ : ∀ w_, Below w.heap.size w w_ → w_.heap[gb]? = some (.cells #[.int .i64 m.f0, .int .i64 m.f1, .int .i64 m.f2, .int .i64 m.f3, .string m.f4, .int .i64 m.f5.f0, .int .i64 m.f5.f1, .string m.f6, .slice Am lm cm] 26 (0, 0)) → Exit.then _ _ _ _ w_) => h_ _ (pw_below_drewN HB.out _) (blk_drewN HX1.out _)) ?_
  clear HB HX1 yc0 yc1 yc2 yc3 yc5 yb1 yb2 yb3 lk
  intro w2 hb hx1
  have HB := Aside0.mk hb
  have HX1 := Aside0.mk hx1
  clear hb hx1
  have yc3 := (blk_cell (blk_below H1.out HB.out) 3).trans (show (CC s (.map (some gm)) vb vw)[3]? = some (.int .i64 s.ph) from rfl)
  have yb0 := (blk_cell HX1.out 0).trans (show (#[.int .i64 m.f0, .int .i64 m.f1, .int .i64 m.f2, .int .i64 m.f3, .string m.f4, .int .i64 m.f5.f0, .int .i64 m.f5.f1, .string m.f6, .slice Am lm cm] : Array Value)[0]? = some (.int .i64 m.f0) from rfl)
  have yb1 := (blk_cell HX1.out 1).trans (show (#[.int .i64 m.f0, .int .i64 m.f1, .int .i64 m.f2, .int .i64 m.f3, .string m.f4, .int .i64 m.f5.f0, .int .i64 m.f5.f1, .string m.f6, .slice Am lm cm] : Array Value)[1]? = some (.int .i64 m.f1) from rfl)
  have yb2 := (blk_cell HX1.out 2).trans (show (#[.int .i64 m.f0, .int .i64 m.f1, .int .i64 m.f2, .int .i64 m.f3, .string m.f4, .int .i64 m.f5.f0, .int .i64 m.f5.f1, .string m.f6, .slice Am lm cm] : Array Value)[2]? = some (.int .i64 m.f2) from rfl)
  have yb3 := (blk_cell HX1.out 3).trans (show (#[.int .i64 m.f0, .int .i64 m.f1, .int .i64 m.f2, .int .i64 m.f3, .string m.f4, .int .i64 m.f5.f0, .int .i64 m.f5.f1, .string m.f6, .slice Am lm cm] : Array Value)[3]? = some (.int .i64 m.f3) from rfl)
  have yb4 := (blk_cell HX1.out 4).trans (show (#[.int .i64 m.f0, .int .i64 m.f1, .int .i64 m.f2, .int .i64 m.f3, .string m.f4, .int .i64 m.f5.f0, .int .i64 m.f5.f1, .string m.f6, .slice Am lm cm] : Array Value)[4]? = some (.string m.f4) from rfl)
  have yb5 := (blk_cell HX1.out 5).trans (show (#[.int .i64 m.f0, .int .i64 m.f1, .int .i64 m.f2, .int .i64 m.f3, .string m.f4, .int .i64 m.f5.f0, .int .i64 m.f5.f1, .string m.f6, .slice Am lm cm] : Array Value)[5]? = some (.int .i64 m.f5.f0) from rfl)
  have yb6 := (blk_cell HX1.out 6).trans (show (#[.int .i64 m.f0, .int .i64 m.f1, .int .i64 m.f2, .int .i64 m.f3, .string m.f4, .int .i64 m.f5.f0, .int .i64 m.f5.f1, .string m.f6, .slice Am lm cm] : Array Value)[6]? = some (.int .i64 m.f5.f1) from rfl)
  have yb7 := (blk_cell HX1.out 7).trans (show (#[.int .i64 m.f0, .int .i64 m.f1, .int .i64 m.f2, .int .i64 m.f3, .string m.f4, .int .i64 m.f5.f0, .int .i64 m.f5.f1, .string m.f6, .slice Am lm cm] : Array Value)[7]? = some (.string m.f6) from rfl)
  have yb8 := (blk_cell HX1.out 8).trans (show (#[.int .i64 m.f0, .int .i64 m.f1, .int .i64 m.f2, .int .i64 m.f3, .string m.f4, .int .i64 m.f5.f0, .int .i64 m.f5.f1, .string m.f6, .slice Am lm cm] : Array Value)[8]? = some (.slice Am lm cm) from rfl)
  go_wp2_with (go_at_call 30; (with_reducible refine (HT.out w2 HB.out).mono ?_); rintro e w3 ⟨v, row', rfl, hr_, hc_, hf_, ho_⟩; have HR_ := Aside0.mk hr_; have HC_ := Aside0.mk hc_; have HF_ := Aside0.mk hf_; have HO_ := Aside0.mk ho_; clear hr_ hc_ hf_ ho_; obtain ⟨Ar, cr, rfl⟩ := Kd.R_slice HR_.out)
  go_ret2
  exact ⟨_, row', rfl, Kd.R_lower HR_.out HB.out.size, HC_.out, (Fr.of_below HB.out).trans HF_.out (.inl rfl), RowOk.trans (.inl rfl) HB.out.size HO_.out⟩
end Go.Proofs.Ytdbiokmlgniobaa.PL22

namespace Go.Proofs.Ytdbiokmlgniobaa.PL22
open Go.RowKit Go.Proofs.YtdbiokmlgniobaaW.PrintWords Go.Proofs.YtdbiokmlgniobaaW.PrintLast Go.Proofs.YtdbiokmlgniobaaW.PrintMore
attribute [local go_sem] max2_int min2_int max_two min_two max_three min_three max_four min_four
set_option linter.unusedVariables false
set_option linter.unusedSimpArgs false
open Go.Proofs.YtdbiokmlgniobaaV
attribute [local go_sem high] eqA23
attribute [local go_sem] eql_nil
def client_Result.T6 : Bool × List (List Nat × List Nat) := (true, [([], []), ([], []), ([1], [1]), ([2], [2]), ([3], [3]), ([0, 0], [0]), ([5, 0, 5], []), ([6, 0, 5, 6], []), ([4, 7, 0, 1, 2, 3, 4, 5, 6, 7], [4])])
def client_Result.B6 : List Nat := [0, 0, 2, 6, 14, 1, 33, 97, 255]
theorem client_Result.tab6 : rtab .any (opsOf Try.f16 6) = client_Result.T6 := by kernel_rfl
theorem client_Result.bits6 : waitsOk client_Result.T6.2 client_Result.B6 = true := by kernel_rfl
set_option maxHeartbeats 40000000 in
set_option maxRecDepth 100000 in
theorem result_ended (g : Nat) (row : Option Nat) (s : CS) (H : List Int) (w : World) (hc : Cl g row s H w) (hp : s.ph = 0) (he : s.en ≠ 0) : Calls Try.prog 16 #[.pointer (some ⟨g, 0, none⟩)] w (RetV 0 0 (⟨#[]⟩ : ByteArray) [] s.en w) := by
  obtain ⟨vb, vw, h1, _⟩ := hc
  have H1 := Aside0.mk h1
  have q1 : (s.ph != 0) = false := bne_eq_false_iff_eq.mpr hp
  have q2 : (s.en != 0) = true := bne_iff_ne.mpr he
  clear h1 hp he
  go_enter Try.func16, Try.ntmps16
  go_upto_region 6 with ((with_reducible refine gate_dst (N := 2) rfl ?_); refine box_event ?hg (N := 2) ?hd (cs := #[.int .i64 0, .int .i64 0]) (t := 23) ?hr ?_; (case hd => rfl); (case hg => rfl); (case hr => first | (go_simp; done) | (go_simp; rfl)); intro gv hg w1 hbox hb; have HS := Aside0.mk ((Sv.new w).box hb hg hbox); have yv0 := (HS.out.cell 0 rfl 0).trans (show (#[.int .i64 0, .int .i64 0] : Array Value)[0]? = some (.int .i64 0) from rfl); have fv0 := HS.out.fz 0 rfl 0; have yv1 := (HS.out.cell 0 rfl 1).trans (show (#[.int .i64 0, .int .i64 0] : Array Value)[1]? = some (.int .i64 0) from rfl); have fv1 := HS.out.fz 0 rfl 1; have yc3 := (blk_cell (blk_below H1.out hb) 3).trans (show (CC s (.map row) vb vw)[3]? = some (.int .i64 s.ph) from rfl); have yc24 := (blk_cell (blk_below H1.out hb) 24).trans (show (CC s (.map row) vb vw)[24]? = some (.int .i64 s.en) from rfl); clear hg hb hbox)
  have HB := Aside0.mk HS.out.below
  clear yc3 yc24 yv0 yv1 fv0 fv1 q1 q2
  have n_HS := Aside0.mk (HS.out.drew)
  clear HS
  have HS := n_HS
  clear n_HS
  refine start_ (n := 9) (S := fun w' => w'.cell? ⟨g, 24, none⟩ = some (.int .i64 s.en)) (ds := []) #[false, false, false, false, false, false, false, false, false] (by kernel_rfl) rfl rfl ((blk_cell (blk_below H1.out HS.out.below) 24).trans rfl) (fun hHeld => ?_)
  refine with_tabW client_Result.tab6 client_Result.bits6 (fun HT_ HW_ => ?_)
  generalize World.drew _ = w2 at HS hHeld ⊢
  refine pure_ (i := 0) (N := some 23) (v := ?_) (a' := ?_) #[true, false, false, false, false, false, false, false, false] rfl rfl (any_of HT_.out (by kernel_rfl)) (fun _ _ _ h => h) (Or.inl ⟨by rfl, ?_⟩) ?_ ?_
  rotate_left
  · intro w'
    go_simp
    with_reducible rfl
  rotate_left
  · simp only [Act.put, List.setIfInBounds_toArray, List.set_cons_zero, List.set_cons_succ, i64_w, i32_w]
    rfl
  refine pure_ (i := 1) (N := some 24) (v := ?_) (a' := ?_) #[true, true, false, false, false, false, false, false, false] rfl rfl (any_of HT_.out (by kernel_rfl)) (fun _ _ _ h => h) (Or.inl ⟨by rfl, ?_⟩) ?_ ?_
  rotate_left
  · intro w'
    go_simp
    with_reducible rfl
  rotate_left
  · simp only [Act.put, List.setIfInBounds_toArray, List.set_cons_zero, List.set_cons_succ, i64_w, i32_w]
    rfl
  refine pure_ (i := 2) (N := some 25) (v := ?_) (a' := ?_) #[true, true, true, false, false, false, false, false, false] rfl rfl (any_of HT_.out (by kernel_rfl)) (fun _ _ _ h => h) (Or.inl ⟨by rfl, ?_⟩) ?_ ?_
  rotate_left
  · intro w'
    go_simp
    with_reducible rfl
  rotate_left
  · simp only [Act.put, List.setIfInBounds_toArray, List.set_cons_zero, List.set_cons_succ, i64_w, i32_w]
    rfl
  refine pure_ (i := 3) (N := some 26) (v := ?_) (a' := ?_) #[true, true, true, true, false, false, false, false, false] rfl rfl (any_of HT_.out (by kernel_rfl)) (fun _ _ _ h => h) (Or.inl ⟨by rfl, ?_⟩) ?_ ?_
  rotate_left
  · intro w'
    go_simp
    with_reducible rfl
  rotate_left
  · simp only [Act.put, List.setIfInBounds_toArray, List.set_cons_zero, List.set_cons_succ, i64_w, i32_w]
    rfl
  refine take_ (i := 4) (N := some 27) (v := ?_) (a' := ?_) #[true, true, true, true, true, false, false, false, false] rfl rfl (take_ofW HT_.out HW_.out (by kernel_rfl)) (fun _ _ _ h => h) (Or.inl ⟨by rfl, ?_⟩) hHeld ?_ ?_
  rotate_left
  · rintro w' s0_
    go_simp
    with_reducible rfl
  rotate_left
  · simp only [Act.put, List.setIfInBounds_toArray, List.set_cons_zero, List.set_cons_succ, i64_w, i32_w]
    rfl
  refine one_ (i := 5) (N := none) #[true, true, true, true, true, true, false, false, false] rfl rfl (one_of HT_.out (by kernel_rfl)) (by decide) (fun K hK => ?_)
  have yv0 := (HS.out.cell 0 rfl 0).trans (show (#[.int .i64 0, .int .i64 0] : Array Value)[0]? = some (.int .i64 0) from rfl); have fv0 := HS.out.fz 0 rfl 0
  have yv1 := (HS.out.cell 0 rfl 1).trans (show (#[.int .i64 0, .int .i64 0] : Array Value)[1]? = some (.int .i64 0) from rfl); have fv1 := HS.out.fz 0 rfl 1
  refine skip_ (w1 := ?_) (by rfl) rfl ?_ ?_
  rotate_left
  · go_simp
    rfl
  refine (fun (h_ : ∀ w_, Sv w [(gv, (#[.int .i64 0, .int .i64 0] : Array Value), 23)] w_ → K _ w_) => h_ ((World.setCell w2 ⟨gv, 0, none⟩ (.int .i64 0)).setCell ⟨gv, 1, none⟩ (.int .i64 0)) ((HS.out.set 0 rfl 0 (.int .i64 0)).set 0 rfl 1 (.int .i64 0))) ?_
  clear HS yv0 yv1 fv0 fv1
  intro w3 HS_
  have HS := Aside0.mk HS_
  clear HS_
  refine hK.out _ _ ((blk_cell (blk_below H1.out HS.out.below) 24).trans rfl) (fun hHeld => ?_)
  clear hK K
  refine pure_ (i := 6) (N := some 3) (v := ?_) (a' := ?_) #[true, true, true, true, true, true, true, false, false] rfl rfl (any_of HT_.out (by kernel_rfl)) (fun _ _ _ h => h) (Or.inl ⟨by rfl, ?_⟩) ?_ ?_
  rotate_left
  · intro w'
    go_simp
    with_reducible rfl
  rotate_left
  · simp only [Act.put, List.setIfInBounds_toArray, List.set_cons_zero, List.set_cons_succ, i64_w, i32_w]
    rfl
  refine pure_ (i := 7) (N := some 4) (v := ?_) (a' := ?_) #[true, true, true, true, true, true, true, true, false] rfl rfl (any_of HT_.out (by kernel_rfl)) (fun _ _ _ h => h) (Or.inl ⟨by rfl, ?_⟩) ?_ ?_
  rotate_left
  · intro w'
    go_simp
    with_reducible rfl
  rotate_left
  · simp only [Act.put, List.setIfInBounds_toArray, List.set_cons_zero, List.set_cons_succ, i64_w, i32_w]
    rfl
  refine pure_ (i := 8) (N := some 5) (v := ?_) (a' := ?_) #[true, true, true, true, true, true, true, true, true] rfl rfl (any_of HT_.out (by kernel_rfl)) (fun _ _ _ h => h) (Or.inl ⟨by rfl, ?_⟩) ?_ ?_
  rotate_left
  · intro w'
    go_simp
    with_reducible rfl
  rotate_left
  · simp only [Act.put, List.setIfInBounds_toArray, List.set_cons_zero, List.set_cons_succ, i64_w, i32_w]
    rfl
  refine done_ (done_of HT_.out (by kernel_rfl)) ?_
  clear HT_ HW_ hHeld
  try go_wp2
  refine bodyPost_ret (results_ct4 rfl _ _ gv 23 #[.int .i64 0, .int .i64 0] (0, 0) _ rfl (Sv.at HS.out 0 rfl) Try.underlying23 rfl (by kernel_rfl)) rfl ?_
  exact ⟨_, rfl, Kd.R_nil _ _ _ _ _, HS.out.below⟩
def awJ : Int := 42
theorem aw_name : bands_Name.f 60 (⟨#[97]⟩ : ByteArray) = some 0 := by kernel_rfl
theorem aw_newer : store_Newer.f 60 0 0 0 0 = some false := by kernel_rfl
theorem aw_join : bands_Join.f 60 (⟨#[]⟩ : ByteArray) [] = some (0, 0, (⟨#[]⟩ : ByteArray), awJ) := by kernel_rfl
def awW : S26 := ⟨0, 0, 0, 0, (⟨#[97]⟩ : ByteArray), ⟨0, 0⟩, (⟨#[]⟩ : ByteArray), []⟩
def awA : S26 := ⟨2, 0, 3, 1, (⟨#[97]⟩ : ByteArray), ⟨0, 0⟩, (⟨#[]⟩ : ByteArray), []⟩
def awB : S26 := ⟨2, 2, 3, 1, (⟨#[97]⟩ : ByteArray), ⟨0, 0⟩, (⟨#[]⟩ : ByteArray), []⟩
def aw0 : CS := ⟨3, 3, 0, 0, false, m0, m0, 41⟩
def aw1 : CS := ⟨3, 3, 1, 1, false, m0, awW, 41⟩
def aw2 : CS := ⟨3, 3, 1, 1, false, awA, awW, 41⟩
def aw3 : CS := ⟨3, 3, 1, 0, false, awA, awW, 41⟩
theorem wr01 : wrap64 (0 + 1) = 1 := by unfold wrap64; omega
theorem aw_m1 : decide (aw1.n < wrap64 (2 * (([awA.f1].length : Nat) : Int))) = false := by
  have h : wrap64 (2 * (([awA.f1].length : Nat) : Int)) = 2 := by
    show wrap64 (2 * ((1 : Nat) : Int)) = 2
    unfold wrap64
    omega
  rw [h]
  rfl
theorem aw_m2 : decide (aw2.n < wrap64 (2 * (((awB.f1 :: [0]).length : Nat) : Int))) = true := by
  have h : wrap64 (2 * (((awB.f1 :: [0]).length : Nat) : Int)) = 4 := by
    show wrap64 (2 * ((2 : Nat) : Int)) = 4
    unfold wrap64
    omega
  rw [h]
  rfl
set_option maxHeartbeats 40000000 in
set_option maxRecDepth 100000 in
theorem awake_calls (w : World) : Calls Try.prog 9 #[] w (Ret (.bool true) w) := by
  go_enter Try.func9, Try.ntmps9
  go_upto_region 2 with (go_at_call 10; (with_reducible refine (new_ok 3 3 _ (by decide) (by decide) (by decide) (by decide) (by decide)).mono ?_); rintro e w1 ⟨g, rfl, hg, hc, hb⟩; have HG := Aside0.mk hg; have HC := Aside0.mk hc; have HB := Aside0.mk hb; clear hg hc hb)
  go_upto_region 3 with (go_at_call 10; (with_reducible refine (new_bad 2 3 _ (by decide)).mono ?_); rintro e w2 ⟨rfl, hb⟩; have n_HC := Aside0.mk (HC.out.below hb); have n_HB := Aside0.mk (below_step HB.out hb); clear HC HB hb; have HC := n_HC; have HB := n_HB; clear n_HC n_HB)
  have n_ : Aside0 (Cl g none aw0 [] w2) := HC
  clear HC
  have HC := n_
  clear n_
  have HT : Aside0 (Calls Try.prog 12 #[.pointer (some ⟨g, 0, none⟩), .string (⟨#[97]⟩ : ByteArray)] w2 (PostG g none w2 aw1 (rsUp aw1 [] 3))) := ⟨by have h_ : Calls Try.prog 12 #[.pointer (some ⟨g, 0, none⟩), .string (⟨#[97]⟩ : ByteArray)] w2 (PostG g none w2 ⟨3, 3, wrap64 (0 + 1), 1, false, m0, awW, 41⟩ (rsUp ⟨3, 3, wrap64 (0 + 1), 1, false, m0, awW, 41⟩ [] 3)) := get_ok 60 g none aw0 [] (⟨#[97]⟩ : ByteArray) w2 HC.out (Or.inr ⟨rfl, aw_name⟩) (by decide); rw [wr01] at h_; exact h_⟩
  go_upto_region 6 with (go_at_call 12; (with_reducible refine HT.out.mono ?_); rintro e w3 ⟨v, gm, rfl, hgm, hr, hc, hf⟩; have HR := Aside0.mk (Kd.R_lower hr HB.out.size); have n_HC := Aside0.mk hc; have HGM := Aside0.mk (Nat.le_trans HB.out.size hgm); have n_HB := Aside0.mk (Fr.below HB.out hf HG.out (fun _ h_ => by cases h_)); clear HC HB HT hr hc hgm hf; have HC := n_HC; have HB := n_HB; clear n_HC n_HB; obtain ⟨Al, cl, rfl⟩ := Kd.R_slice HR.out)
  have HT : Aside0 (Calls Try.prog 11 #[.pointer (some ⟨g, 0, none⟩), .agg #[.int .i64 2, .int .i64 0, .int .i64 3, .int .i64 1, .string (⟨#[97]⟩ : ByteArray), .int .i64 0, .int .i64 0, .string (⟨#[]⟩ : ByteArray), .slice none 0 0]] w3 (PostB g (some gm) w3 aw2 [0] [] false)) := ⟨handle_asks g gm aw1 [] awA none 0 0 w3 HC.out rfl rfl (by decide) (by decide) (by decide) rfl (by decide) aw2 [0] [] false (fun w1 hb => tell_empty0_wait 60 g gm aw1 awA none 0 0 0 (⟨#[]⟩ : ByteArray) awJ w1 (HC.out.below hb) (fun _ _ => Kd.C_nil _ _) (by decide) (by decide) aw_join rfl rfl (by decide) (by decide) (by decide) aw_m1)⟩
  go_upto_region 7 with (go_at_call 11; (with_reducible refine HT.out.mono ?_); rintro e w4 ⟨v4, row4, rfl, hr, hc, hf, ho⟩; obtain ⟨A4, c4, rfl⟩ := Kd.R_slice hr; obtain ⟨gm2, rfl, hg4⟩ := row_some ho HGM.out HB.out.size; have n_HR := Aside0.mk (HC.out.rows HR.out msg_not hf); have n_HC := Aside0.mk hc; have n_HB := Aside0.mk (Fr.below HB.out hf HG.out (fun b_ h_ => by injection h_ with h_; rw [← h_]; exact HGM.out)); have n_HGM := Aside0.mk hg4; clear HC HB HR HGM HT hr hc hf ho hg4; have HC := n_HC; have HB := n_HB; have HR := n_HR; have HGM := n_HGM; clear n_HC n_HB n_HR n_HGM)
  have HT : Aside0 (Calls Try.prog 11 #[.pointer (some ⟨g, 0, none⟩), .agg #[.int .i64 2, .int .i64 2, .int .i64 3, .int .i64 1, .string (⟨#[97]⟩ : ByteArray), .int .i64 0, .int .i64 0, .string (⟨#[]⟩ : ByteArray), .slice none 0 0]] w4 (PostB g (some gm2) w4 aw3 [2, 0] [] true)) := ⟨handle_asks g gm2 aw2 [0] awB none 0 0 w4 HC.out rfl rfl (by decide) (by decide) (by decide) rfl (by decide) aw3 [2, 0] [] true (fun w1 hb => tell_older0_none 60 g gm2 aw2 [0] awB none 0 0 0 (⟨#[]⟩ : ByteArray) awJ w1 (HC.out.below hb) (fun _ _ => Kd.C_nil _ _) (by decide) (by decide) aw_join rfl rfl (by decide) aw_newer (by decide) (by decide) (by decide) aw_m2 rfl rfl)⟩
  go_upto_region 8 with (go_at_call 11; (with_reducible refine HT.out.mono ?_); rintro e w5 ⟨v4, row4, rfl, hr, hc, hf, ho⟩; obtain ⟨A4, c4, rfl⟩ := Kd.R_slice hr; obtain ⟨gm3, rfl, hg4⟩ := row_some ho HGM.out HB.out.size; have n_HR := Aside0.mk (HC.out.rows HR.out msg_not hf); have n_HC := Aside0.mk hc; have n_HB := Aside0.mk (Fr.below HB.out hf HG.out (fun b_ h_ => by injection h_ with h_; rw [← h_]; exact HGM.out)); have n_HGM := Aside0.mk hg4; clear HC HB HR HGM HT hr hc hf ho hg4; have HC := n_HC; have HB := n_HB; have HR := n_HR; have HGM := n_HGM; clear n_HC n_HB n_HR n_HGM)
  have HT : Aside0 (Calls Try.prog 16 #[.pointer (some ⟨g, 0, none⟩)] w5 (RetV 0 0 (⟨#[]⟩ : ByteArray) [] 41 w5)) := ⟨result_ended g (some gm3) aw3 [2, 0] w5 HC.out rfl (by decide)⟩
  go_upto_region 9 with (first | (go_at_call 16; (with_reducible refine HT.out.mono ?_); rintro e w6 ⟨v6, rfl, hr, hb⟩; obtain ⟨A6, c6, rfl⟩ := Kd.R_slice hr; have n_HR := Aside0.mk (Kd.R_below HR.out hb); have n_HB := Aside0.mk (below_step HB.out hb); clear HC HB HR HT hr hb; have HB := n_HB; have HR := n_HR; clear n_HB n_HR) | ((with_reducible refine gate_dst (N := 11) rfl ?_); refine box_event ?hg (N := 11) ?hd (cs := #[.int .i64 0, .int .i64 0]) (t := 23) ?hr ?_; (case hd => rfl); (case hg => rfl); (case hr => first | (go_simp; done) | (go_simp; rfl)); intro gv hg w7 hbox hb; have HS := Aside0.mk ((Sv.new w).step HB.out |>.box hb hg hbox); have n_HR := Aside0.mk (Kd.R_below HR.out hb); have yv0 := (HS.out.cell 0 rfl 0).trans (show (#[.int .i64 0, .int .i64 0] : Array Value)[0]? = some (.int .i64 0) from rfl); have fv0 := HS.out.fz 0 rfl 0; have yv1 := (HS.out.cell 0 rfl 1).trans (show (#[.int .i64 0, .int .i64 0] : Array Value)[1]? = some (.int .i64 0) from rfl); have fv1 := HS.out.fz 0 rfl 1; clear HR HB hg hbox hb; have HR := n_HR; clear n_HR))
  refine (fun (h_ : ∀ w_, Below w.heap.size w w_ → Kd.R k26 26 w_ w.heap.size (fun _ => True) (.slice Al (rsUp aw1 [] 3).length cl) (rsUp aw1 [] 3) → Code.wp _ _ _ _ w_) => h_ ((World.setCell w7 ⟨gv, 0, none⟩ (.int .i64 0)).setCell ⟨gv, 1, none⟩ (.int .i64 0)) ((HS.out.set 0 rfl 0 (.int .i64 0)).set 0 rfl 1 (.int .i64 0)).below (R_set (R_set HR.out (HS.out.at 0 rfl) msg_ver) ((HS.out.set 0 rfl 0 (.int .i64 0)).at 0 rfl) msg_ver)) ?_
  clear HS HR yv0 yv1 fv0 fv1
  intro w8 hb hr
  have hl3 : rsUp aw1 [] 3 = [rsMsg aw1 0, rsMsg aw1 1, rsMsg aw1 2] := rfl
  rw [hl3] at hr ⊢
  have HB := Aside0.mk hb
  have HC := Aside0.mk (Kd.R_reads' hr).2.2
  clear hb hr hl3
  obtain ⟨ad, A8, c8, rfl, x0, x1, x2, x3⟩ := at_T26 HC.out 2 (by decide) (by decide)
  clear x0 x1 x3
  have x2' : w8.cell? ⟨ad.block, ad.off + 20, none⟩ = some (.int .i64 2) := x2
  clear x2
  go_wp2
  go_ret
  exact ⟨rfl, HB.out⟩

end Go.Proofs.Ytdbiokmlgniobaa.PL22
