/- Printed for this claim by a program of this session over the kit's print program: the Go functions as Lean functions, and proofs that the calls come to these answers. No conditions. -/
import Derived.Test.YtejljcglbkjgkaaXH
import Derived.Test.YtejljcglbkjgkaaXV
import Derived.Test.YtejljcglbkjgkaaXV2
import Derived.Test.YtejljcglbkjgkaaXV3
import Derived.LoopTactic
import Derived.StillTailTactics
import Derived.Laws.Rows
import Derived.Laws.CopyOwn
import Derived.Lib.BufferWrite
import Derived.Lib.SlBuf
import Derived.Test.YtejljcglbkjgkaaXPL12x1
import Derived.Test.YtejljcglbkjgkaaXPL12x17
import Derived.Test.YtejljcglbkjgkaaXPL12x21
import Derived.Test.YtejljcglbkjgkaaXPL12x26
import Derived.Test.YtejljcglbkjgkaaXPL12x33
import Derived.Test.YtejljcglbkjgkaaXPL12x36
import Derived.Test.YtejljcglbkjgkaaXPL12x37
namespace Go.Proofs.Ytejljcglbkjgkaa.PL12
open Go.RowKit Go.Proofs.YtejljcglbkjgkaaW.PrintWords Go.Proofs.YtejljcglbkjgkaaW.PrintLast Go.Proofs.YtejljcglbkjgkaaW.PrintMore
attribute [local go_sem] max2_int min2_int max_two min_two max_three min_three max_four min_four   -- for this text's walks alone
set_option linter.unusedVariables false
set_option linter.unusedSimpArgs false

open Go.Proofs.YtejljcglbkjgkaaV
open Go.Lib (byteCells)
def rx_cols (k : Nat) (s : PSh) (p : S53) (y : Int) (v : List Int) (many : Int) (c : List Int → Option (Int × ByteArray)) : Nat → Nat → List Int → Option (Int × ByteArray)
 | 0, _, pix => c pix
 | m + 1, x, pix => if 0 ≤ wrap64 (many * (x : Int)) then (if wrap64 (many * (x : Int)) ≤ wrap64 (wrap64 (many * (x : Int)) + many) then (if wrap64 (wrap64 (many * (x : Int)) + many) ≤ (v.length : Int) then
   (vitrineref11_Pixel.f k s.W s.H s.D s.C s.L s.pal s.tr s.ht ((v.take (wrap64 (wrap64 (many * (x : Int)) + many)).toNat).drop (wrap64 (many * (x : Int))).toNat)).bind fun t => (if t.2 = 0 then
    (if (0 ≤ wrap64 (8 * px_at s p y (x : Int)) ∧ wrap64 (8 * px_at s p y (x : Int)) + (t.1.size : Int) ≤ (pix.length : Int)) ∧ 0 < t.1.size then rx_cols k s p y v many c m (x + 1) (px_copy pix (wrap64 (8 * px_at s p y (x : Int))).toNat t.1) else none)
    else some (t.2, (⟨#[]⟩ : ByteArray))) else none) else none) else none
def rx_rows (k : Nat) (s : PSh) (p : S53) (many : Int) (c : ByteArray → List Int → Option (Int × ByteArray)) : Nat → Nat → ByteArray → ByteArray → List Int → Option (Int × ByteArray)
 | 0, _, _, raw, pix => c raw pix
 | m + 1, y, above, raw, pix => (vitrineref10_Row.f k s.W s.H s.D s.C s.L p.f4).bind fun nI => (if 0 < raw.size then (if 1 ≤ wrap64 (1 + nI) then (if wrap64 (1 + nI) ≤ (raw.size : Int) then (vitrineref12_Bytes.f k s.W s.H s.D s.C s.L).bind fun b =>
   (vitrineref09_Undo.f k b (wrap64 (bt raw 0)) (raw.extract 1 (wrap64 (1 + nI)).toNat) above).bind fun t => (if t.2 = 0 then
    (vitrineref11_Unpack.f k t.1 s.D (wrap64 (many * p.f4))).bind fun u => rx_cols k s p (y : Int) u.1 many (fun px => rx_rows k s p many c m (y + 1) t.1 (raw.extract (wrap64 (1 + nI)).toNat raw.size) px) p.f4.toNat 0 pix
    else some (t.2, (⟨#[]⟩ : ByteArray))) else none) else none) else none)
def rx_all (k : Nat) (s : PSh) (many : Int) : List S53 → ByteArray → List Int → Option (Int × ByteArray)
 | [], _, pix => some (0, strOfNums pix)
 | p :: ps, raw, pix => if (0 ≤ p.f5 ∧ p.f5 ≤ 4611686018427387904) ∧ (0 ≤ p.f4 ∧ p.f4 ≤ 4611686018427387904) then rx_rows k s p many (fun raw px => rx_all k s many ps raw px) p.f5.toNat 0 (⟨#[]⟩ : ByteArray) raw pix else none
def rx_image (k : Nat) (s : PSh) (raw : ByteArray) : Option (Int × ByteArray) :=
 (vitrineref08_Right.f k s.W s.H s.D s.C s.L).bind fun e => (if e = 0 then (vitrineref10_Size.f k s.W s.H s.D s.C s.L).bind fun n => (if (raw.size : Int) < n then some (30, (⟨#[]⟩ : ByteArray)) else if n < (raw.size : Int) then some (31, (⟨#[]⟩ : ByteArray)) else
  (if 0 ≤ wrap64 (wrap64 (8 * s.W) * s.H) ∧ wrap64 (wrap64 (8 * s.W) * s.H) ≤ 281474976710656 then (vitrineref08_Samples.f k s.C).bind fun many => (vitrineref10_Passes.f k s.W s.H s.D s.C s.L).bind fun ps => (if 0 < ps.length then
   rx_all k s many ps raw (List.replicate (wrap64 (wrap64 (8 * s.W) * s.H)).toNat 0) else none) else none)) else some (e, (⟨#[]⟩ : ByteArray)))
theorem make_event {P : Program} {ops : Array Oper} {rest : List Oper} {o : Oper} {a : Act} {Q : Exit → Act → World → Prop} {W : World} (hgd : o.guard = none) {N : Tmp} (_hd : o.dst = some N) {cs : Array Value} {t n : Nat}
  (hrun : (execOp a.eval o).run P W = .ok (.value (.slice (some ⟨W.heap.size, 0, none⟩) n n)) (W.alloc (.cells cs t (0, 0))))
  (h : ∀ g, g = W.heap.size → ∀ w1, w1.heap[g]? = some (.cells cs t (0, 0)) → Below W.heap.size W w1 → wpList P ops Q rest (a.put o.dst (.slice (some ⟨g, 0, none⟩) n n)) w1) : wpList P ops Q (o :: rest) a W :=
 Kd.event_run hgd hrun (h _ rfl _ (blk_new W _) (below_alloc (Below.refl _ _) _))
def vitrineref12_Image.T20 : Bool × List (List Nat × List Nat) := (true, [([], []), ([0], [0]), ([1], [1]), ([], []), ([3], [3]), ([4], [4]), ([], []), ([], []), ([7], [7]), ([6, 8], [6, 8]), ([], []), ([2, 5, 9, 10, 2], [2, 5, 9, 10]), ([11], [11]), ([12], [12]), ([12], [12]), ([13, 11, 0, 1, 2, 3, 4, 5, 6, 7, 8, 9, 10, 11, 12, 13], [13]), ([14, 15, 0, 1, 2, 3, 4, 5, 6, 7, 8, 9, 10, 11, 12, 13, 14, 15], [14])])
def vitrineref12_Image.B20 : List Nat := [0, 1, 3, 0, 8, 24, 0, 0, 128, 448, 0, 2047, 4095, 8191, 8191, 16383, 65535]
theorem vitrineref12_Image.tab20 : rtab .any (opsOf Try.f12 20) = vitrineref12_Image.T20 := by kernel_rfl
theorem vitrineref12_Image.bits20 : waitsOk vitrineref12_Image.T20.2 vitrineref12_Image.B20 = true := by kernel_rfl
def vitrineref12_Image.T29 : Bool × List (List Nat × List Nat) := (true, [([], []), ([], []), ([], []), ([], []), ([2, 3], [2, 3]), ([], []), ([], []), ([5, 6], [5, 6]), ([], []), ([7, 8], [7, 8]), ([1, 4, 9], [1, 4, 9]), ([0, 10], [0, 10]), ([11], [11]), ([12], [12]), ([12], [12]), ([13, 11, 0, 1, 2, 3, 4, 5, 6, 7, 8, 9, 10, 11, 12, 13], [13]), ([14, 15, 0, 1, 2, 3, 4, 5, 6, 7, 8, 9, 10, 11, 12, 13, 14, 15], [14])])
def vitrineref12_Image.B29 : List Nat := [0, 0, 0, 0, 12, 0, 0, 96, 0, 480, 1022, 2047, 4095, 8191, 8191, 16383, 65535]
theorem vitrineref12_Image.tab29 : rtab .any (opsOf Try.f12 29) = vitrineref12_Image.T29 := by kernel_rfl
theorem vitrineref12_Image.bits29 : waitsOk vitrineref12_Image.T29.2 vitrineref12_Image.B29 = true := by kernel_rfl
set_option maxHeartbeats 40000000 in
set_option maxRecDepth 100000 in
theorem rx_image_calls (k : Nat) (s : PSh) (raw out : ByteArray) (er : Int) (w : World) (hf : rx_image k s raw = some (er, out)) :
  Calls Try.prog 12 #[.agg #[.int .i64 s.W, .int .i64 s.H, .int .i64 s.D, .int .i64 s.C, .int .i64 s.L, .string s.pal, .string s.tr, .bool s.ht], .string raw] w fun e w' => e = .returned (.tuple #[.agg (RS er s.W s.H out), .int .i64 er]) ∧ Below w.heap.size w w' := by
 unfold rx_image at hf
 obtain ⟨e0, h0, hf1⟩ := Option.bind_eq_some_iff.1 hf
 clear hf
 have H0 := Aside0.mk h0
 have HF := Aside0.mk hf1
 have HS := Aside0.mk (Sv.new w)
 clear h0 hf1
 go_enter Try.func12, Try.ntmps12
 go_upto_region 1 with (first | ((with_reducible refine gate_dst (N := 2) rfl ?_); refine box_event ?hg (N := 2) ?hd (cs := SHC s) (t := 31) ?hr ?_; (case hd => rfl); (case hg => rfl); (case hr => first | (go_simp; done) | (go_simp; rfl)); intro gs hg w1 hbox hb; have n0_ := Aside0.mk (HS.out.box hb hg hbox); clear HS hb hg hbox; have HS := n0_; clear n0_) | ((with_reducible refine gate_dst (N := 4) rfl ?_); refine box_event ?hg (N := 4) ?hd (cs := #[.int .i64 0, .int .i64 0, .string (⟨#[]⟩ : ByteArray)]) (t := 23) ?hr ?_; (case hd => rfl); (case hg => rfl); (case hr => first | (go_simp; done) | (go_simp; rfl)); intro gr hg w2 hbox hb; have n0_ := Aside0.mk (HS.out.box hb hg hbox); clear HS hb hg hbox; have HS := n0_; clear n0_))
 have y0 := (HS.out.cell 1 rfl 0).trans (show (SHC s : Array Value)[0]? = some (.int .i64 s.W) from rfl)
 have y1 := (HS.out.cell 1 rfl 1).trans (show (SHC s : Array Value)[1]? = some (.int .i64 s.H) from rfl)
 have y2 := (HS.out.cell 1 rfl 2).trans (show (SHC s : Array Value)[2]? = some (.int .i64 s.D) from rfl)
 have y3 := (HS.out.cell 1 rfl 3).trans (show (SHC s : Array Value)[3]? = some (.int .i64 s.C) from rfl)
 have y4 := (HS.out.cell 1 rfl 4).trans (show (SHC s : Array Value)[4]? = some (.int .i64 s.L) from rfl)
 have y5 := (HS.out.cell 1 rfl 5).trans (show (SHC s : Array Value)[5]? = some (.string s.pal) from rfl)
 have y6 := (HS.out.cell 1 rfl 6).trans (show (SHC s : Array Value)[6]? = some (.string s.tr) from rfl)
 have y7 := (HS.out.cell 1 rfl 7).trans (show (SHC s : Array Value)[7]? = some (.bool s.ht) from rfl)
 have c0 := (HS.out.cell 0 rfl 0).trans (show (#[.int .i64 0, .int .i64 0, .string (⟨#[]⟩ : ByteArray)] : Array Value)[0]? = some (.int .i64 0) from rfl)
 have c1 := (HS.out.cell 0 rfl 1).trans (show (#[.int .i64 0, .int .i64 0, .string (⟨#[]⟩ : ByteArray)] : Array Value)[1]? = some (.int .i64 0) from rfl)
 have c2 := (HS.out.cell 0 rfl 2).trans (show (#[.int .i64 0, .int .i64 0, .string (⟨#[]⟩ : ByteArray)] : Array Value)[2]? = some (.string (⟨#[]⟩ : ByteArray)) from rfl)
 have f0 := HS.out.fz 0 rfl 0
 have f1 := HS.out.fz 0 rfl 1
 have f2 := HS.out.fz 0 rfl 2
 by_cases he : e0 = 0
 rotate_left
 ·have h3 : some (e0, (⟨#[]⟩ : ByteArray)) = some (er, out) := (if_neg he).symm.trans HF.out
  have q1 : (e0 != 0) = true := bne_iff_ne.mpr he
  obtain ⟨rfl, rfl⟩ := Prod.mk.inj (Option.some.inj h3)
  clear h3 HF
  go_wp2_with (go_at_call 15; (with_reducible refine (vitrineref08_Right.calls k s.W s.H s.D s.C s.L e0 _ H0.out).mono ?_); rintro e w_ ⟨rfl, hb⟩; have n0_ := Aside0.mk (HS.out.step hb); clear HS hb; have HS := n0_; clear n0_; clear y0 y1 y2 y3 y4 y5 y6 y7 c0 c1 c2 f0 f1 f2; have y0 := (HS.out.cell 1 rfl 0).trans (show (SHC s : Array Value)[0]? = some (.int .i64 s.W) from rfl); have y1 := (HS.out.cell 1 rfl 1).trans (show (SHC s : Array Value)[1]? = some (.int .i64 s.H) from rfl); have y2 := (HS.out.cell 1 rfl 2).trans (show (SHC s : Array Value)[2]? = some (.int .i64 s.D) from rfl); have y3 := (HS.out.cell 1 rfl 3).trans (show (SHC s : Array Value)[3]? = some (.int .i64 s.C) from rfl); have y4 := (HS.out.cell 1 rfl 4).trans (show (SHC s : Array Value)[4]? = some (.int .i64 s.L) from rfl); have y5 := (HS.out.cell 1 rfl 5).trans (show (SHC s : Array Value)[5]? = some (.string s.pal) from rfl); have y6 := (HS.out.cell 1 rfl 6).trans (show (SHC s : Array Value)[6]? = some (.string s.tr) from rfl); have y7 := (HS.out.cell 1 rfl 7).trans (show (SHC s : Array Value)[7]? = some (.bool s.ht) from rfl); have c0 := (HS.out.cell 0 rfl 0).trans (show (#[.int .i64 0, .int .i64 0, .string (⟨#[]⟩ : ByteArray)] : Array Value)[0]? = some (.int .i64 0) from rfl); have c1 := (HS.out.cell 0 rfl 1).trans (show (#[.int .i64 0, .int .i64 0, .string (⟨#[]⟩ : ByteArray)] : Array Value)[1]? = some (.int .i64 0) from rfl); have c2 := (HS.out.cell 0 rfl 2).trans (show (#[.int .i64 0, .int .i64 0, .string (⟨#[]⟩ : ByteArray)] : Array Value)[2]? = some (.string (⟨#[]⟩ : ByteArray)) from rfl); have f0 := HS.out.fz 0 rfl 0; have f1 := HS.out.fz 0 rfl 1; have f2 := HS.out.fz 0 rfl 2)
  refine bodyPost_ret (results_ct rfl _ _ gr 23 #[.int .i64 0, .int .i64 0, .string (⟨#[]⟩ : ByteArray)] (0, 0) _ rfl (Sv.at (((HS.out.set 0 rfl 0 (.int .i64 0)).set 0 rfl 1 (.int .i64 0)).set 0 rfl 2 (.string (⟨#[]⟩ : ByteArray))) 0 rfl) Try.underlying23 rfl (by kernel_rfl)) rfl ?_
  exact ⟨by rw [RS, if_neg (by first | assumption | decide)]; rfl, (((HS.out.set 0 rfl 0 (.int .i64 0)).set 0 rfl 1 (.int .i64 0)).set 0 rfl 2 (.string (⟨#[]⟩ : ByteArray))).below⟩
 have q1 : (e0 != 0) = false := bne_eq_false_iff_eq.mpr he
 have hf := (if_pos he).symm.trans HF.out
 obtain ⟨n0, h1, hf1⟩ := Option.bind_eq_some_iff.1 hf
 have H1 := Aside0.mk h1
 have HG := Aside0.mk hf1
 clear hf HF h1 hf1 he
 by_cases hl : (raw.size : Int) < n0
 ·have h3 : some ((30 : Int), (⟨#[]⟩ : ByteArray)) = some (er, out) := (if_pos hl).symm.trans HG.out
  have q2 : decide ((raw.size : Int) < n0) = true := decide_eq_true hl
  obtain ⟨rfl, rfl⟩ := Prod.mk.inj (Option.some.inj h3)
  clear h3 HG
  go_wp2_with (first | (go_at_call 15; (with_reducible refine (vitrineref08_Right.calls k s.W s.H s.D s.C s.L e0 _ H0.out).mono ?_); rintro e w_ ⟨rfl, hb⟩; have n0_ := Aside0.mk (HS.out.step hb); clear HS hb; have HS := n0_; clear n0_; clear y0 y1 y2 y3 y4 y5 y6 y7 c0 c1 c2 f0 f1 f2; have y0 := (HS.out.cell 1 rfl 0).trans (show (SHC s : Array Value)[0]? = some (.int .i64 s.W) from rfl); have y1 := (HS.out.cell 1 rfl 1).trans (show (SHC s : Array Value)[1]? = some (.int .i64 s.H) from rfl); have y2 := (HS.out.cell 1 rfl 2).trans (show (SHC s : Array Value)[2]? = some (.int .i64 s.D) from rfl); have y3 := (HS.out.cell 1 rfl 3).trans (show (SHC s : Array Value)[3]? = some (.int .i64 s.C) from rfl); have y4 := (HS.out.cell 1 rfl 4).trans (show (SHC s : Array Value)[4]? = some (.int .i64 s.L) from rfl); have y5 := (HS.out.cell 1 rfl 5).trans (show (SHC s : Array Value)[5]? = some (.string s.pal) from rfl); have y6 := (HS.out.cell 1 rfl 6).trans (show (SHC s : Array Value)[6]? = some (.string s.tr) from rfl); have y7 := (HS.out.cell 1 rfl 7).trans (show (SHC s : Array Value)[7]? = some (.bool s.ht) from rfl); have c0 := (HS.out.cell 0 rfl 0).trans (show (#[.int .i64 0, .int .i64 0, .string (⟨#[]⟩ : ByteArray)] : Array Value)[0]? = some (.int .i64 0) from rfl); have c1 := (HS.out.cell 0 rfl 1).trans (show (#[.int .i64 0, .int .i64 0, .string (⟨#[]⟩ : ByteArray)] : Array Value)[1]? = some (.int .i64 0) from rfl); have c2 := (HS.out.cell 0 rfl 2).trans (show (#[.int .i64 0, .int .i64 0, .string (⟨#[]⟩ : ByteArray)] : Array Value)[2]? = some (.string (⟨#[]⟩ : ByteArray)) from rfl); have f0 := HS.out.fz 0 rfl 0; have f1 := HS.out.fz 0 rfl 1; have f2 := HS.out.fz 0 rfl 2) | (go_at_call 24; (with_reducible refine (vitrineref10_Size.calls k s.W s.H s.D s.C s.L n0 _ H1.out).mono ?_); rintro e w_ ⟨rfl, hb⟩; have n0_ := Aside0.mk (HS.out.step hb); clear HS hb; have HS := n0_; clear n0_; clear y0 y1 y2 y3 y4 y5 y6 y7 c0 c1 c2 f0 f1 f2; have y0 := (HS.out.cell 1 rfl 0).trans (show (SHC s : Array Value)[0]? = some (.int .i64 s.W) from rfl); have y1 := (HS.out.cell 1 rfl 1).trans (show (SHC s : Array Value)[1]? = some (.int .i64 s.H) from rfl); have y2 := (HS.out.cell 1 rfl 2).trans (show (SHC s : Array Value)[2]? = some (.int .i64 s.D) from rfl); have y3 := (HS.out.cell 1 rfl 3).trans (show (SHC s : Array Value)[3]? = some (.int .i64 s.C) from rfl); have y4 := (HS.out.cell 1 rfl 4).trans (show (SHC s : Array Value)[4]? = some (.int .i64 s.L) from rfl); have y5 := (HS.out.cell 1 rfl 5).trans (show (SHC s : Array Value)[5]? = some (.string s.pal) from rfl); have y6 := (HS.out.cell 1 rfl 6).trans (show (SHC s : Array Value)[6]? = some (.string s.tr) from rfl); have y7 := (HS.out.cell 1 rfl 7).trans (show (SHC s : Array Value)[7]? = some (.bool s.ht) from rfl); have c0 := (HS.out.cell 0 rfl 0).trans (show (#[.int .i64 0, .int .i64 0, .string (⟨#[]⟩ : ByteArray)] : Array Value)[0]? = some (.int .i64 0) from rfl); have c1 := (HS.out.cell 0 rfl 1).trans (show (#[.int .i64 0, .int .i64 0, .string (⟨#[]⟩ : ByteArray)] : Array Value)[1]? = some (.int .i64 0) from rfl); have c2 := (HS.out.cell 0 rfl 2).trans (show (#[.int .i64 0, .int .i64 0, .string (⟨#[]⟩ : ByteArray)] : Array Value)[2]? = some (.string (⟨#[]⟩ : ByteArray)) from rfl); have f0 := HS.out.fz 0 rfl 0; have f1 := HS.out.fz 0 rfl 1; have f2 := HS.out.fz 0 rfl 2))
  refine bodyPost_ret (results_ct rfl _ _ gr 23 #[.int .i64 0, .int .i64 0, .string (⟨#[]⟩ : ByteArray)] (0, 0) _ rfl (Sv.at (((HS.out.set 0 rfl 0 (.int .i64 0)).set 0 rfl 1 (.int .i64 0)).set 0 rfl 2 (.string (⟨#[]⟩ : ByteArray))) 0 rfl) Try.underlying23 rfl (by kernel_rfl)) rfl ?_
  exact ⟨by rw [RS, if_neg (by decide)]; rfl, (((HS.out.set 0 rfl 0 (.int .i64 0)).set 0 rfl 1 (.int .i64 0)).set 0 rfl 2 (.string (⟨#[]⟩ : ByteArray))).below⟩
 have q2 : decide ((raw.size : Int) < n0) = false := decide_eq_false hl
 have hf := (if_neg hl).symm.trans HG.out
 clear HG
 by_cases hl2 : n0 < (raw.size : Int)
 ·have h3 : some ((31 : Int), (⟨#[]⟩ : ByteArray)) = some (er, out) := (if_pos hl2).symm.trans hf
  have q3 : decide (n0 < (raw.size : Int)) = true := decide_eq_true hl2
  obtain ⟨rfl, rfl⟩ := Prod.mk.inj (Option.some.inj h3)
  clear h3 hf
  go_wp2_with (first | (go_at_call 15; (with_reducible refine (vitrineref08_Right.calls k s.W s.H s.D s.C s.L e0 _ H0.out).mono ?_); rintro e w_ ⟨rfl, hb⟩; have n0_ := Aside0.mk (HS.out.step hb); clear HS hb; have HS := n0_; clear n0_; clear y0 y1 y2 y3 y4 y5 y6 y7 c0 c1 c2 f0 f1 f2; have y0 := (HS.out.cell 1 rfl 0).trans (show (SHC s : Array Value)[0]? = some (.int .i64 s.W) from rfl); have y1 := (HS.out.cell 1 rfl 1).trans (show (SHC s : Array Value)[1]? = some (.int .i64 s.H) from rfl); have y2 := (HS.out.cell 1 rfl 2).trans (show (SHC s : Array Value)[2]? = some (.int .i64 s.D) from rfl); have y3 := (HS.out.cell 1 rfl 3).trans (show (SHC s : Array Value)[3]? = some (.int .i64 s.C) from rfl); have y4 := (HS.out.cell 1 rfl 4).trans (show (SHC s : Array Value)[4]? = some (.int .i64 s.L) from rfl); have y5 := (HS.out.cell 1 rfl 5).trans (show (SHC s : Array Value)[5]? = some (.string s.pal) from rfl); have y6 := (HS.out.cell 1 rfl 6).trans (show (SHC s : Array Value)[6]? = some (.string s.tr) from rfl); have y7 := (HS.out.cell 1 rfl 7).trans (show (SHC s : Array Value)[7]? = some (.bool s.ht) from rfl); have c0 := (HS.out.cell 0 rfl 0).trans (show (#[.int .i64 0, .int .i64 0, .string (⟨#[]⟩ : ByteArray)] : Array Value)[0]? = some (.int .i64 0) from rfl); have c1 := (HS.out.cell 0 rfl 1).trans (show (#[.int .i64 0, .int .i64 0, .string (⟨#[]⟩ : ByteArray)] : Array Value)[1]? = some (.int .i64 0) from rfl); have c2 := (HS.out.cell 0 rfl 2).trans (show (#[.int .i64 0, .int .i64 0, .string (⟨#[]⟩ : ByteArray)] : Array Value)[2]? = some (.string (⟨#[]⟩ : ByteArray)) from rfl); have f0 := HS.out.fz 0 rfl 0; have f1 := HS.out.fz 0 rfl 1; have f2 := HS.out.fz 0 rfl 2) | (go_at_call 24; (with_reducible refine (vitrineref10_Size.calls k s.W s.H s.D s.C s.L n0 _ H1.out).mono ?_); rintro e w_ ⟨rfl, hb⟩; have n0_ := Aside0.mk (HS.out.step hb); clear HS hb; have HS := n0_; clear n0_; clear y0 y1 y2 y3 y4 y5 y6 y7 c0 c1 c2 f0 f1 f2; have y0 := (HS.out.cell 1 rfl 0).trans (show (SHC s : Array Value)[0]? = some (.int .i64 s.W) from rfl); have y1 := (HS.out.cell 1 rfl 1).trans (show (SHC s : Array Value)[1]? = some (.int .i64 s.H) from rfl); have y2 := (HS.out.cell 1 rfl 2).trans (show (SHC s : Array Value)[2]? = some (.int .i64 s.D) from rfl); have y3 := (HS.out.cell 1 rfl 3).trans (show (SHC s : Array Value)[3]? = some (.int .i64 s.C) from rfl); have y4 := (HS.out.cell 1 rfl 4).trans (show (SHC s : Array Value)[4]? = some (.int .i64 s.L) from rfl); have y5 := (HS.out.cell 1 rfl 5).trans (show (SHC s : Array Value)[5]? = some (.string s.pal) from rfl); have y6 := (HS.out.cell 1 rfl 6).trans (show (SHC s : Array Value)[6]? = some (.string s.tr) from rfl); have y7 := (HS.out.cell 1 rfl 7).trans (show (SHC s : Array Value)[7]? = some (.bool s.ht) from rfl); have c0 := (HS.out.cell 0 rfl 0).trans (show (#[.int .i64 0, .int .i64 0, .string (⟨#[]⟩ : ByteArray)] : Array Value)[0]? = some (.int .i64 0) from rfl); have c1 := (HS.out.cell 0 rfl 1).trans (show (#[.int .i64 0, .int .i64 0, .string (⟨#[]⟩ : ByteArray)] : Array Value)[1]? = some (.int .i64 0) from rfl); have c2 := (HS.out.cell 0 rfl 2).trans (show (#[.int .i64 0, .int .i64 0, .string (⟨#[]⟩ : ByteArray)] : Array Value)[2]? = some (.string (⟨#[]⟩ : ByteArray)) from rfl); have f0 := HS.out.fz 0 rfl 0; have f1 := HS.out.fz 0 rfl 1; have f2 := HS.out.fz 0 rfl 2))
  refine bodyPost_ret (results_ct rfl _ _ gr 23 #[.int .i64 0, .int .i64 0, .string (⟨#[]⟩ : ByteArray)] (0, 0) _ rfl (Sv.at (((HS.out.set 0 rfl 0 (.int .i64 0)).set 0 rfl 1 (.int .i64 0)).set 0 rfl 2 (.string (⟨#[]⟩ : ByteArray))) 0 rfl) Try.underlying23 rfl (by kernel_rfl)) rfl ?_
  exact ⟨by rw [RS, if_neg (by decide)]; rfl, (((HS.out.set 0 rfl 0 (.int .i64 0)).set 0 rfl 1 (.int .i64 0)).set 0 rfl 2 (.string (⟨#[]⟩ : ByteArray))).below⟩
 have q3 : decide (n0 < (raw.size : Int)) = false := decide_eq_false hl2
 have hf2 := (if_neg hl2).symm.trans hf
 clear hf hl hl2
 by_cases hz : 0 ≤ wrap64 (wrap64 (8 * s.W) * s.H) ∧ wrap64 (wrap64 (8 * s.W) * s.H) ≤ 281474976710656
 rotate_left
 ·rw [if_neg hz] at hf2; cases hf2
 rw [if_pos hz] at hf2
 obtain ⟨many, hm, hf3⟩ := Option.bind_eq_some_iff.1 hf2
 clear hf2
 obtain ⟨ps, h2, hf4⟩ := Option.bind_eq_some_iff.1 hf3
 clear hf3
 by_cases hp : 0 < ps.length
 rotate_left
 ·rw [if_neg hp] at hf4; cases hf4
 rw [if_pos hp] at hf4
 have HM := Aside0.mk hm
 have H2 := Aside0.mk h2
 have HP := Aside0.mk hp
 have HZ := Aside0.mk hz
 obtain ⟨n, hn⟩ : ∃ n, (wrap64 (wrap64 (8 * s.W) * s.H)).toNat = n := ⟨_, rfl⟩
 rw [hn] at hf4
 have H3 := Aside0.mk hf4
 clear hm h2 hf4 hp hz
 have HNn := Aside0.mk (show n ≤ 281474976710656 by have := HZ.out; omega)
 have hmk := px_make (wrap64 (wrap64 (8 * s.W) * s.H)) n hn HZ.out.1 HZ.out.2
 go_wp2_with (first | (go_at_call 15; (with_reducible refine (vitrineref08_Right.calls k s.W s.H s.D s.C s.L e0 _ H0.out).mono ?_); rintro e w_ ⟨rfl, hb⟩; have n0_ := Aside0.mk (HS.out.step hb); clear HS hb; have HS := n0_; clear n0_; clear y0 y1 y2 y3 y4 y5 y6 y7 c0 c1 c2 f0 f1 f2; have y0 := (HS.out.cell 1 rfl 0).trans (show (SHC s : Array Value)[0]? = some (.int .i64 s.W) from rfl); have y1 := (HS.out.cell 1 rfl 1).trans (show (SHC s : Array Value)[1]? = some (.int .i64 s.H) from rfl); have y2 := (HS.out.cell 1 rfl 2).trans (show (SHC s : Array Value)[2]? = some (.int .i64 s.D) from rfl); have y3 := (HS.out.cell 1 rfl 3).trans (show (SHC s : Array Value)[3]? = some (.int .i64 s.C) from rfl); have y4 := (HS.out.cell 1 rfl 4).trans (show (SHC s : Array Value)[4]? = some (.int .i64 s.L) from rfl); have y5 := (HS.out.cell 1 rfl 5).trans (show (SHC s : Array Value)[5]? = some (.string s.pal) from rfl); have y6 := (HS.out.cell 1 rfl 6).trans (show (SHC s : Array Value)[6]? = some (.string s.tr) from rfl); have y7 := (HS.out.cell 1 rfl 7).trans (show (SHC s : Array Value)[7]? = some (.bool s.ht) from rfl); have c0 := (HS.out.cell 0 rfl 0).trans (show (#[.int .i64 0, .int .i64 0, .string (⟨#[]⟩ : ByteArray)] : Array Value)[0]? = some (.int .i64 0) from rfl); have c1 := (HS.out.cell 0 rfl 1).trans (show (#[.int .i64 0, .int .i64 0, .string (⟨#[]⟩ : ByteArray)] : Array Value)[1]? = some (.int .i64 0) from rfl); have c2 := (HS.out.cell 0 rfl 2).trans (show (#[.int .i64 0, .int .i64 0, .string (⟨#[]⟩ : ByteArray)] : Array Value)[2]? = some (.string (⟨#[]⟩ : ByteArray)) from rfl); have f0 := HS.out.fz 0 rfl 0; have f1 := HS.out.fz 0 rfl 1; have f2 := HS.out.fz 0 rfl 2) | (go_at_call 24; (with_reducible refine (vitrineref10_Size.calls k s.W s.H s.D s.C s.L n0 _ H1.out).mono ?_); rintro e w_ ⟨rfl, hb⟩; have n0_ := Aside0.mk (HS.out.step hb); clear HS hb; have HS := n0_; clear n0_; clear y0 y1 y2 y3 y4 y5 y6 y7 c0 c1 c2 f0 f1 f2; have y0 := (HS.out.cell 1 rfl 0).trans (show (SHC s : Array Value)[0]? = some (.int .i64 s.W) from rfl); have y1 := (HS.out.cell 1 rfl 1).trans (show (SHC s : Array Value)[1]? = some (.int .i64 s.H) from rfl); have y2 := (HS.out.cell 1 rfl 2).trans (show (SHC s : Array Value)[2]? = some (.int .i64 s.D) from rfl); have y3 := (HS.out.cell 1 rfl 3).trans (show (SHC s : Array Value)[3]? = some (.int .i64 s.C) from rfl); have y4 := (HS.out.cell 1 rfl 4).trans (show (SHC s : Array Value)[4]? = some (.int .i64 s.L) from rfl); have y5 := (HS.out.cell 1 rfl 5).trans (show (SHC s : Array Value)[5]? = some (.string s.pal) from rfl); have y6 := (HS.out.cell 1 rfl 6).trans (show (SHC s : Array Value)[6]? = some (.string s.tr) from rfl); have y7 := (HS.out.cell 1 rfl 7).trans (show (SHC s : Array Value)[7]? = some (.bool s.ht) from rfl); have c0 := (HS.out.cell 0 rfl 0).trans (show (#[.int .i64 0, .int .i64 0, .string (⟨#[]⟩ : ByteArray)] : Array Value)[0]? = some (.int .i64 0) from rfl); have c1 := (HS.out.cell 0 rfl 1).trans (show (#[.int .i64 0, .int .i64 0, .string (⟨#[]⟩ : ByteArray)] : Array Value)[1]? = some (.int .i64 0) from rfl); have c2 := (HS.out.cell 0 rfl 2).trans (show (#[.int .i64 0, .int .i64 0, .string (⟨#[]⟩ : ByteArray)] : Array Value)[2]? = some (.string (⟨#[]⟩ : ByteArray)) from rfl); have f0 := HS.out.fz 0 rfl 0; have f1 := HS.out.fz 0 rfl 1; have f2 := HS.out.fz 0 rfl 2) | ((with_reducible refine gate_dst (N := 51) rfl ?_); refine make_event rfl (N := 51) rfl (cs := PX (List.replicate n 0)) (t := 5) (n := n) (by first | (go_simp; done) | (go_simp; rfl)) ?_; intro gP hg w3 hbox hb; have n0_ := Aside0.mk (HS.out.box hb hg hbox); clear HS hb hg hbox; have HS := n0_; clear n0_; clear y0 y1 y2 y3 y4 y5 y6 y7 c0 c1 c2 f0 f1 f2; have y0 := (HS.out.cell 2 rfl 0).trans (show (SHC s : Array Value)[0]? = some (.int .i64 s.W) from rfl); have y1 := (HS.out.cell 2 rfl 1).trans (show (SHC s : Array Value)[1]? = some (.int .i64 s.H) from rfl); have y2 := (HS.out.cell 2 rfl 2).trans (show (SHC s : Array Value)[2]? = some (.int .i64 s.D) from rfl); have y3 := (HS.out.cell 2 rfl 3).trans (show (SHC s : Array Value)[3]? = some (.int .i64 s.C) from rfl); have y4 := (HS.out.cell 2 rfl 4).trans (show (SHC s : Array Value)[4]? = some (.int .i64 s.L) from rfl); have y5 := (HS.out.cell 2 rfl 5).trans (show (SHC s : Array Value)[5]? = some (.string s.pal) from rfl); have y6 := (HS.out.cell 2 rfl 6).trans (show (SHC s : Array Value)[6]? = some (.string s.tr) from rfl); have y7 := (HS.out.cell 2 rfl 7).trans (show (SHC s : Array Value)[7]? = some (.bool s.ht) from rfl)) | (go_at_call 16; (with_reducible refine (vitrineref08_Samples.calls k s.C many _ HM.out).mono ?_); rintro e w4 ⟨rfl, hdr⟩; have hb := hdr.below; clear hdr; have n0_ := Aside0.mk (HS.out.step hb); clear HS hb; have HS := n0_; clear n0_; clear y0 y1 y2 y3 y4 y5 y6 y7; have y0 := (HS.out.cell 2 rfl 0).trans (show (SHC s : Array Value)[0]? = some (.int .i64 s.W) from rfl); have y1 := (HS.out.cell 2 rfl 1).trans (show (SHC s : Array Value)[1]? = some (.int .i64 s.H) from rfl); have y2 := (HS.out.cell 2 rfl 2).trans (show (SHC s : Array Value)[2]? = some (.int .i64 s.D) from rfl); have y3 := (HS.out.cell 2 rfl 3).trans (show (SHC s : Array Value)[3]? = some (.int .i64 s.C) from rfl); have y4 := (HS.out.cell 2 rfl 4).trans (show (SHC s : Array Value)[4]? = some (.int .i64 s.L) from rfl); have y5 := (HS.out.cell 2 rfl 5).trans (show (SHC s : Array Value)[5]? = some (.string s.pal) from rfl); have y6 := (HS.out.cell 2 rfl 6).trans (show (SHC s : Array Value)[6]? = some (.string s.tr) from rfl); have y7 := (HS.out.cell 2 rfl 7).trans (show (SHC s : Array Value)[7]? = some (.bool s.ht) from rfl)) | (go_at_call 25; (with_reducible refine (vitrineref10_Passes.calls k s.W s.H s.D s.C s.L ps _ H2.out).mono ?_); rintro e w6 ⟨v49, rfl, ho_, hb⟩; have n1_ := Aside0.mk (Kd.R_lower ho_ HS.out.below.size); clear ho_; have n0_ := Aside0.mk (HS.out.step hb); clear HS hb; have HS := n0_; clear n0_; have HO := n1_; clear n1_ y0 y1 y2 y3 y4 y5 y6 y7; obtain ⟨adl, col, rfl⟩ := Kd.R_slice1 HO.out HP.out))
 clear hmk hn q1 q2 q3
 obtain ⟨cl, hcl, hbl⟩ := row_block HO.out
 have n0_ := Aside0.mk (sv_perm (sv_add HS.out hcl hbl (by simp)) (List.Perm.swap _ _ _))
 clear HS hcl hbl
 have HS := n0_
 clear n0_
 have HPM := Aside0.mk (show ps.length ≤ 9223372036854775807 from Kd.C_max (Kd.R_reads' HO.out).2.2)
 go_loopw [1, 10] (fun v1 v10 w' => ∃ (i : Nat) (rw_ : ByteArray) (px : List Int), v1 = .string rw_ ∧ v10 = .int .i64 (i : Int) ∧ i ≤ ps.length ∧ Aside0 (Sv w [(gP, PX px, 5), (adl.block, cl, 53), (gr, (#[.int .i64 0, .int .i64 0, .string (⟨#[]⟩ : ByteArray)] : Array Value), 23), (gs, SHC s, 31)] w') ∧ Aside0 (Kd.R k53 53 w' w.heap.size (fun _ => True) (.slice (some adl) ps.length col) ps) ∧ Aside0 (rx_all k s many (ps.drop i) rw_ px = some (er, out)) ∧ Aside0 (px.length = n)) (fun _ v _ => ps.length - (intOf v).toNat)
 case atStart => exact ⟨0, raw, _, rfl, rfl, Nat.zero_le _, HS, HO, H3, ⟨List.length_replicate⟩⟩
 case round =>
  clear HS HO H3
  obtain ⟨i, rw1, px1, rfl, rfl, hi, HS, HO, H3, HN⟩ := hrel
  by_cases hlt : i < ps.length
  ·have HLT := Aside0.mk hlt
   have q0 : decide ((i : Int) < (ps.length : Int)) = true := decide_eq_true (by omega)
   have q1 : decide (i < ps.length) = true := decide_eq_true hlt
   have q2 := eq_true (show (0 : Int) ≤ (i : Int) by omega)
   have q3 := eq_true (show (i : Int) < (ps.length : Int) by omega)
   obtain ⟨p, hp⟩ : ∃ p, rd_T53 ps (i : Int) = p := ⟨_, rfl⟩
   have HX := Aside0.mk (im_elem ps i p hlt hp)
   obtain ⟨ad_, e_, hx0, hx1, hx2, hx3, hx4, hx5⟩ := at_T53 (Kd.R_reads' HO.out).2.2 (i : Int) (by omega) (by omega)
   cases e_
   rw [hp] at hx0 hx1 hx2 hx3 hx4 hx5
   rw [Int.toNat_natCast] at hx0 hx1 hx2 hx3 hx4 hx5
   clear hlt hi hp
   have hf := H3.out
   rw [HX.out, rx_all] at hf
   by_cases hs5 : (0 ≤ p.f5 ∧ p.f5 ≤ 4611686018427387904) ∧ (0 ≤ p.f4 ∧ p.f4 ≤ 4611686018427387904)
   rotate_left
   ·rw [if_neg hs5] at hf; cases hf
   rw [if_pos hs5] at hf
   have HS5 := Aside0.mk hs5
   have H4 := Aside0.mk hf
   clear hf H3 hs5
   have HW := Aside0.mk (show wrap64 ((i : Int) + 1) = ((i + 1 : Nat) : Int) by have := HPM.out; have := HLT.out; unfold wrap64; omega)
   go_upto_region 15 with (fail)
   have n0_ := Aside0.mk (sv_perm (sv_new HS.out (PSC p) 53) (List.Perm.swap _ _ _))
   have n1_ := Aside0.mk (Kd.R_alloc HO.out (.cells (PSC p) 53))
   clear HS HO hx0 hx1 hx2 hx3 hx4 hx5 q0 q1 q2 q3
   have HS := n0_
   have HO := n1_
   clear n0_ n1_
   have hex_ : wr.alloc (.cells #[.int .i64 p.f0, .int .i64 p.f1, .int .i64 p.f2, .int .i64 p.f3, .int .i64 p.f4, .int .i64 p.f5] 53) = wr.alloc (.cells (PSC p) 53) := rfl
   rw [hex_]
   clear hex_
   generalize wr.alloc (.cells (PSC p) 53) = w7 at HS HO ⊢
   generalize wr.heap.size = gq at HS HO ⊢
   go_wp2
   go_loopw [1, 12, 13] (fun v1 v12 v13 w' => ∃ (y : Nat) (ab rw_ : ByteArray) (px : List Int), v1 = .string rw_ ∧ v12 = .string ab ∧ v13 = .int .i64 (y : Int) ∧ y ≤ p.f5.toNat ∧ Aside0 (Sv w [(gP, PX px, 5), (gq, PSC p, 53), (adl.block, cl, 53), (gr, (#[.int .i64 0, .int .i64 0, .string (⟨#[]⟩ : ByteArray)] : Array Value), 23), (gs, SHC s, 31)] w') ∧ Aside0 (Kd.R k53 53 w' w.heap.size (fun _ => True) (.slice (some adl) ps.length col) ps) ∧ Aside0 (rx_rows k s p many (fun raw px => rx_all k s many (ps.drop (i + 1)) raw px) (p.f5.toNat - y) y ab rw_ px = some (er, out)) ∧ Aside0 (px.length = n)) (fun _ _ v _ => p.f5.toNat - (intOf v).toNat)
   case atStart => exact ⟨0, _, rw1, px1, rfl, rfl, rfl, Nat.zero_le _, HS, HO, H4, HN⟩
   case round =>
    clear HS HO H4 HN
    obtain ⟨y, ab, rw_, px2, rfl, rfl, rfl, hy, HS, HO, H4, HN⟩ := hrel
    have y5 := (HS.out.cell 1 rfl 5).trans (show (PSC p : Array Value)[5]? = some (.int .i64 p.f5) from rfl)
    by_cases hlt : y < p.f5.toNat
    ·have HLT1 := Aside0.mk hlt
     have HSM0 := Aside0.mk (show (y : Int) < p.f5 by have := HS5.out.1; omega)
     have q0 : decide ((y : Int) < p.f5) = true := decide_eq_true HSM0.out
     clear hlt hy
     obtain ⟨m, hm⟩ : ∃ m, p.f5.toNat - y = m + 1 := ⟨p.f5.toNat - y - 1, by have := HLT1.out; omega⟩
     have hf := H4.out
     rw [hm, rx_rows] at hf
     have HM1 := Aside0.mk (show p.f5.toNat - (y + 1) = m by omega)
     clear H4 hm
     have HW1 := Aside0.mk (show wrap64 ((y : Int) + 1) = ((y + 1 : Nat) : Int) by have := HS5.out.1; have := HSM0.out; unfold wrap64; omega)
     obtain ⟨nI, hnI, hf1⟩ := Option.bind_eq_some_iff.1 hf
     clear hf
     have HNI := Aside0.mk hnI
     clear hnI
     have hf := hf1
     clear hf1
     obtain ⟨hi, hhi⟩ : ∃ z, wrap64 (1 + nI) = z := ⟨_, rfl⟩
     rw [hhi] at hf
     by_cases a0 : 0 < rw_.size
     rotate_left
     ·rw [if_neg a0] at hf; cases hf
     rw [if_pos a0] at hf
     by_cases a1 : 1 ≤ hi
     rotate_left
     ·rw [if_neg a1] at hf; cases hf
     rw [if_pos a1] at hf
     by_cases a2 : hi ≤ (rw_.size : Int)
     rotate_left
     ·rw [if_neg a2] at hf; cases hf
     rw [if_pos a2] at hf
     obtain ⟨b, hb_, hf1⟩ := Option.bind_eq_some_iff.1 hf
     clear hf
     obtain ⟨⟨ln, e1⟩, hun, hf2⟩ := Option.bind_eq_some_iff.1 hf1
     clear hf1
     have HB1 := Aside0.mk hb_
     have HU := Aside0.mk hun
     have HF := Aside0.mk hf2
     clear hb_ hun hf2
     have z0 : (IntKind.i64.wrap (1 + nI)) = hi := (i64_w _).trans hhi
     have p0 : (0 < rw_.size) = True := eq_true a0
     have p1 : decide (0 < rw_.size) = true := decide_eq_true a0
     have p2 : (0 < (rw_.size : Int)) = True := eq_true (by omega)
     have p3 : decide (0 < (rw_.size : Int)) = true := decide_eq_true (by omega)
     have hx_ : ∀ h : 0 < rw_.size, ((rw_[0]'h).toNat : Int) = bt rw_ 0 := bt_at rw_ 0
     have g1 := eq_true a1
     have g2 := eq_true a2
     have b1 : decide (1 ≤ hi) = true := decide_eq_true a1
     have b2 : decide (hi ≤ (rw_.size : Int)) = true := decide_eq_true a2
     have g3 : (0 ≤ hi) = True := eq_true (by omega)
     have b3 : decide (0 ≤ hi) = true := decide_eq_true (by omega)
     have HA := Aside0.mk (⟨a0, a1, a2⟩ : 0 < rw_.size ∧ 1 ≤ hi ∧ hi ≤ (rw_.size : Int))
     clear a0 a1 a2
     have ys0 := (HS.out.cell 4 rfl 0).trans (show (SHC s : Array Value)[0]? = some (.int .i64 s.W) from rfl)
     have ys1 := (HS.out.cell 4 rfl 1).trans (show (SHC s : Array Value)[1]? = some (.int .i64 s.H) from rfl)
     have ys2 := (HS.out.cell 4 rfl 2).trans (show (SHC s : Array Value)[2]? = some (.int .i64 s.D) from rfl)
     have ys3 := (HS.out.cell 4 rfl 3).trans (show (SHC s : Array Value)[3]? = some (.int .i64 s.C) from rfl)
     have ys4 := (HS.out.cell 4 rfl 4).trans (show (SHC s : Array Value)[4]? = some (.int .i64 s.L) from rfl)
     have y4 := (HS.out.cell 1 rfl 4).trans (show (PSC p : Array Value)[4]? = some (.int .i64 p.f4) from rfl)
     go_wp2_with (go_at_call 26; (with_reducible refine (vitrineref10_Row.calls k s.W s.H s.D s.C s.L p.f4 nI _ HNI.out).mono ?_); rintro e w8 ⟨rfl, hb⟩; have n0_ := Aside0.mk (HS.out.step hb); have n1_ := Aside0.mk (Kd.R_below HO.out hb); clear HS HO hb; have HS := n0_; have HO := n1_; clear n0_ n1_; clear y4 y5 ys0 ys1 ys2 ys3 ys4)
     have n1_ := Aside0.mk (Kd.R_drew HO.out)
     clear HO
     have HO := n1_
     clear n1_
     have n0_ := Aside0.mk HS.out.drew
     clear HS
     have HS := n0_
     clear n0_
     refine start_ (n := 17) (S := fun w' => w'.cell? ⟨gs, 0, none⟩ = some (.int .i64 s.W) ∧ w'.cell? ⟨gs, 1, none⟩ = some (.int .i64 s.H) ∧ w'.cell? ⟨gs, 2, none⟩ = some (.int .i64 s.D) ∧ w'.cell? ⟨gs, 3, none⟩ = some (.int .i64 s.C) ∧ w'.cell? ⟨gs, 4, none⟩ = some (.int .i64 s.L)) (ds := []) (bm 17 0) (by kernel_rfl) rfl rfl ⟨(HS.out.cell 4 rfl 0).trans rfl, (HS.out.cell 4 rfl 1).trans rfl, (HS.out.cell 4 rfl 2).trans rfl, (HS.out.cell 4 rfl 3).trans rfl, (HS.out.cell 4 rfl 4).trans rfl⟩ (fun hHeld => ?_)
     refine with_tabW vitrineref12_Image.tab20 vitrineref12_Image.bits20 (fun HT_ HW_ => ?_)
     generalize World.drew _ = w9 at HS HO hHeld ⊢
     refine zp 0 81 (bm 17 1) ?_
     refine zt 1 82 (bm 17 3) rfl (by rintro w' ⟨s0_, s1_, s2_, s3_, s4_⟩; go_simp; with_reducible rfl) ?_
     refine zp 3 84 (bm 17 11) ?_
     refine zp 4 85 (bm 17 27) ?_
     refine zp 5 86 (bm 17 59) ?_
     refine zp 6 87 (bm 17 123) ?_
     refine zp 7 88 (bm 17 251) ?_
     refine zp 8 89 (bm 17 507) ?_
     refine zp 9 90 (bm 17 1019) ?_
     refine zp 10 91 (bm 17 2043) ?_
     refine one_ (i := 2) (N := some 83) (bm 17 2047) rfl rfl (one_of HT_.out (by kernel_rfl)) (by decide) (fun K hK => ?_)
     refine goes_ Try.func28 (by kernel_rfl) rfl #[.agg #[.int .i64 s.W, .int .i64 s.H, .int .i64 s.D, .int .i64 s.C, .int .i64 s.L]] (by rfl) rfl rfl (by (try simp only [List.map_toArray, List.map_cons, List.map_nil]); first | done | rfl) ?_
     with_reducible refine (vitrineref12_Bytes.calls k s.W s.H s.D s.C s.L b _ HB1.out).mono ?_
     rintro e w_ ⟨rfl, hb⟩
     refine ⟨_, rfl, ?_⟩
     have n1_ := Aside0.mk (Kd.R_below HO.out hb)
     clear HO
     have HO := n1_
     clear n1_
     have n0_ := Aside0.mk (HS.out.step hb)
     clear HS hb
     have HS := n0_
     clear n0_
     refine hK.out _ _ ⟨(HS.out.cell 4 rfl 0).trans rfl, (HS.out.cell 4 rfl 1).trans rfl, (HS.out.cell 4 rfl 2).trans rfl, (HS.out.cell 4 rfl 3).trans rfl, (HS.out.cell 4 rfl 4).trans rfl⟩ (fun hHeld => ?_)
     clear hK K
     refine norm_ (a' := ?_) ?_ ?_
     rotate_left
     ·show Act.put _ (some 83) _ = _
      simp only [Act.put, zq1, zq2, zq3, i64_w, i32_w]
      rfl
     refine one_ (i := 11) (N := some 92) (bm 17 4095) rfl rfl (one_of HT_.out (by kernel_rfl)) (by decide) (fun K hK => ?_)
     refine goes_ Try.func27 (by kernel_rfl) rfl #[.int .i64 b, .int .i64 (wrap64 (bt rw_ 0)), .string (rw_.extract 1 hi.toNat), .string ab] (by rfl) rfl rfl (by (try simp only [List.map_toArray, List.map_cons, List.map_nil]); first | done | rfl) ?_
     with_reducible refine (vitrineref09_Undo.calls k b (wrap64 (bt rw_ 0)) (rw_.extract 1 hi.toNat) ab ln e1 _ HU.out).mono ?_
     rintro e w_ ⟨rfl, hb⟩
     refine ⟨_, rfl, ?_⟩
     have n1_ := Aside0.mk (Kd.R_below HO.out hb)
     clear HO
     have HO := n1_
     clear n1_
     have n0_ := Aside0.mk (HS.out.step hb)
     clear HS hb
     have HS := n0_
     clear n0_
     refine hK.out _ _ ⟨(HS.out.cell 4 rfl 0).trans rfl, (HS.out.cell 4 rfl 1).trans rfl, (HS.out.cell 4 rfl 2).trans rfl, (HS.out.cell 4 rfl 3).trans rfl, (HS.out.cell 4 rfl 4).trans rfl⟩ (fun hHeld => ?_)
     clear hK K
     refine norm_ (a' := ?_) ?_ ?_
     rotate_left
     ·show Act.put _ (some 92) _ = _
      simp only [Act.put, zq1, zq2, zq3, i64_w, i32_w]
      rfl
     refine zp 12 80 (bm 17 8191) ?_
     refine zp 13 93 (bm 17 16383) ?_
     refine zp 14 94 (bm 17 32767) ?_
     refine zp 15 15 (bm 17 65535) ?_
     refine zp 16 16 (bm 17 131071) ?_
     refine done_ (done_of HT_.out (by kernel_rfl)) ?_
     clear HT_ HW_ hHeld
     clear p0 p1 p2 p3 hx_ b1 g1 q0
     by_cases he : e1 = 0
     rotate_left
     ·have h3 : some (e1, (⟨#[]⟩ : ByteArray)) = some (er, out) := (if_neg he).symm.trans HF.out
      have q1 : (e1 != 0) = true := bne_iff_ne.mpr he
      obtain ⟨rfl, rfl⟩ := Prod.mk.inj (Option.some.inj h3)
      clear h3 HF
      have c0 := (HS.out.cell 3 rfl 0).trans (show (#[.int .i64 0, .int .i64 0, .string (⟨#[]⟩ : ByteArray)] : Array Value)[0]? = some (.int .i64 0) from rfl)
      have c1 := (HS.out.cell 3 rfl 1).trans (show (#[.int .i64 0, .int .i64 0, .string (⟨#[]⟩ : ByteArray)] : Array Value)[1]? = some (.int .i64 0) from rfl)
      have c2 := (HS.out.cell 3 rfl 2).trans (show (#[.int .i64 0, .int .i64 0, .string (⟨#[]⟩ : ByteArray)] : Array Value)[2]? = some (.string (⟨#[]⟩ : ByteArray)) from rfl)
      have f0 := HS.out.fz 3 rfl 0
      have f1 := HS.out.fz 3 rfl 1
      have f2 := HS.out.fz 3 rfl 2
      go_wp2
      refine bodyPost_ret (results_ct rfl _ _ gr 23 #[.int .i64 0, .int .i64 0, .string (⟨#[]⟩ : ByteArray)] (0, 0) _ rfl (Sv.at (((HS.out.set 3 rfl 0 (.int .i64 0)).set 3 rfl 1 (.int .i64 0)).set 3 rfl 2 (.string (⟨#[]⟩ : ByteArray))) 3 rfl) Try.underlying23 rfl (by kernel_rfl)) rfl ?_
      exact ⟨by rw [RS, if_neg he]; rfl, (((HS.out.set 3 rfl 0 (.int .i64 0)).set 3 rfl 1 (.int .i64 0)).set 3 rfl 2 (.string (⟨#[]⟩ : ByteArray))).below⟩
     have q1 : (e1 != 0) = false := bne_eq_false_iff_eq.mpr he
     obtain ⟨⟨v, e5⟩, hup, hf3⟩ := Option.bind_eq_some_iff.1 ((if_pos he).symm.trans HF.out)
     have HUP := Aside0.mk hup
     have HF3 := Aside0.mk hf3
     clear HF he hup hf3
     have y4 := (HS.out.cell 1 rfl 4).trans (show (PSC p : Array Value)[4]? = some (.int .i64 p.f4) from rfl)
     have ys2 := (HS.out.cell 4 rfl 2).trans (show (SHC s : Array Value)[2]? = some (.int .i64 s.D) from rfl)
     go_wp2_with (go_at_call 29; (with_reducible refine (vitrineref11_Unpack.calls k ln s.D (wrap64 (many * p.f4)) v e5 _ HUP.out).mono ?_); rintro e w10 ⟨v17, rfl, ho_, hb⟩; have n2_ := Aside0.mk (Kd.R_lower ho_ HS.out.below.size); clear ho_; have n0_ := Aside0.mk (HS.out.step hb); have n1_ := Aside0.mk (Kd.R_below HO.out hb); clear HS HO hb; have HS := n0_; have HO := n1_; clear n0_ n1_; have HV := n2_; clear n2_ y4 ys2; obtain ⟨Ao, co, rfl⟩ := Kd.R_slice HV.out)
     clear q1 b2 b3 g2 g3 z0
     go_loopw [19] (fun v19 w' => ∃ (x : Nat) (px : List Int), v19 = .int .i64 (x : Int) ∧ x ≤ p.f4.toNat ∧ Aside0 (Sv w [(gP, PX px, 5), (gq, PSC p, 53), (adl.block, cl, 53), (gr, (#[.int .i64 0, .int .i64 0, .string (⟨#[]⟩ : ByteArray)] : Array Value), 23), (gs, SHC s, 31)] w') ∧ Aside0 (Kd.R k53 53 w' w.heap.size (fun _ => True) (.slice (some adl) ps.length col) ps) ∧ Aside0 (Kd.R (Kd.int .i64) 3 w' w.heap.size (fun _ => True) (.slice Ao v.length co) v) ∧ Aside0 (rx_cols k s p (y : Int) v many (fun px => rx_rows k s p many (fun raw px => rx_all k s many (ps.drop (i + 1)) raw px) m (y + 1) ln (rw_.extract hi.toNat rw_.size) px) (p.f4.toNat - x) x px = some (er, out)) ∧ Aside0 (px.length = n)) (fun v _ => p.f4.toNat - (intOf v).toNat)
     case atStart => exact ⟨0, px2, rfl, Nat.zero_le _, HS, HO, HV, HF3, HN⟩
     case round =>
      clear HS HO HV HF3 HN
      obtain ⟨x, px, rfl, hx, HS, HO, HV, HF, HN⟩ := hrel
      have y4 := (HS.out.cell 1 rfl 4).trans (show (PSC p : Array Value)[4]? = some (.int .i64 p.f4) from rfl)
      by_cases hlt : x < p.f4.toNat
      ·have HLT2 := Aside0.mk hlt
       have HSM2 := Aside0.mk (show (x : Int) < p.f4 by have := HS5.out.2; omega)
       have q0 : decide ((x : Int) < p.f4) = true := decide_eq_true HSM2.out
       clear hlt hx
       obtain ⟨m2, hm⟩ : ∃ m, p.f4.toNat - x = m + 1 := ⟨p.f4.toNat - x - 1, by have := HLT2.out; omega⟩
       have hf := HF.out
       rw [hm, rx_cols] at hf
       have HM2 := Aside0.mk (show p.f4.toNat - (x + 1) = m2 by omega)
       clear HF hm
       have HW2 := Aside0.mk (show wrap64 ((x : Int) + 1) = ((x + 1 : Nat) : Int) by have := HS5.out.2; have := HSM2.out; unfold wrap64; omega)
       obtain ⟨lo, hlo⟩ : ∃ z, wrap64 (many * (x : Int)) = z := ⟨_, rfl⟩
       rw [hlo] at hf
       obtain ⟨hj, hhj⟩ : ∃ z, wrap64 (lo + many) = z := ⟨_, rfl⟩
       rw [hhj] at hf
       by_cases a0 : 0 ≤ lo
       rotate_left
       ·rw [if_neg a0] at hf; cases hf
       rw [if_pos a0] at hf
       by_cases a1 : lo ≤ hj
       rotate_left
       ·rw [if_neg a1] at hf; cases hf
       rw [if_pos a1] at hf
       by_cases a2 : hj ≤ (v.length : Int)
       rotate_left
       ·rw [if_neg a2] at hf; cases hf
       rw [if_pos a2] at hf
       obtain ⟨⟨q, e2⟩, hpx, hf1⟩ := Option.bind_eq_some_iff.1 hf
       clear hf
       have HF := Aside0.mk hf1
       have HPX := Aside0.mk hpx
       clear hf1 hpx
       obtain ⟨at_, hat⟩ : ∃ z, px_at s p (y : Int) (x : Int) = z := ⟨_, rfl⟩
       obtain ⟨i027, hi027, _, hsz27, _⟩ := info_parts info3
       obtain ⟨A27, hcut27, hA27, hC27⟩ := print_mid_of (P := Try.prog) (Value.int .i64) 0 37 3 .i64 .i64 Try.underlying37 hi027 hsz27 Ao co v lo hj a0 a1 a2 (Kd.R_reads' HV.out).2.1
       have HR : Aside0 (Kd.C (Kd.int .i64) wr A27 ((v.take hj.toNat).drop lo.toNat).length ((v.take hj.toNat).drop lo.toNat)) := ⟨Kd.C_of_reads (h1 := fun _ => rfl) (hA27 _ (Kd.reads_of_C (Kd.R_reads' HV.out).2.2))⟩
       have HC := Aside0.mk hC27
       clear hA27 hC27 hi027 hsz27
       have g0 := eq_true a0
       have g1 := eq_true a1
       have g2 := eq_true a2
       have b0 : decide (0 ≤ lo) = true := decide_eq_true a0
       have b1 : decide (lo ≤ hj) = true := decide_eq_true a1
       have b2 : decide (hj ≤ (v.length : Int)) = true := decide_eq_true a2
       have z0 : (IntKind.i64.wrap (many * (x : Int))) = lo := (i64_w _).trans hlo
       have z1 : (IntKind.i64.wrap (lo + many)) = hj := (i64_w _).trans hhj
       go_wp2
       have n1_ := Aside0.mk (Kd.R_drew HV.out)
       have n2_ := Aside0.mk (Kd.C_drew HR.out)
       clear HV HR
       have HV := n1_
       have HR := n2_
       clear n1_ n2_
       have n1_ := Aside0.mk (Kd.R_drew HO.out)
       clear HO
       have HO := n1_
       clear n1_
       have n0_ := Aside0.mk HS.out.drew
       clear HS
       have HS := n0_
       clear n0_
       refine start_ (n := 17) (S := fun w' => w'.cell? ⟨gs, 0, none⟩ = some (.int .i64 s.W) ∧ w'.cell? ⟨gs, 1, none⟩ = some (.int .i64 s.H) ∧ w'.cell? ⟨gs, 2, none⟩ = some (.int .i64 s.D) ∧ w'.cell? ⟨gs, 3, none⟩ = some (.int .i64 s.C) ∧ w'.cell? ⟨gs, 4, none⟩ = some (.int .i64 s.L) ∧ w'.cell? ⟨gs, 5, none⟩ = some (.string s.pal) ∧ w'.cell? ⟨gs, 6, none⟩ = some (.string s.tr) ∧ w'.cell? ⟨gs, 7, none⟩ = some (.bool s.ht)) (ds := []) (bm 17 0) (by kernel_rfl) rfl rfl ⟨(HS.out.cell 4 rfl 0).trans rfl, (HS.out.cell 4 rfl 1).trans rfl, (HS.out.cell 4 rfl 2).trans rfl, (HS.out.cell 4 rfl 3).trans rfl, (HS.out.cell 4 rfl 4).trans rfl, (HS.out.cell 4 rfl 5).trans rfl, (HS.out.cell 4 rfl 6).trans rfl, (HS.out.cell 4 rfl 7).trans rfl⟩ (fun hHeld => ?_)
       refine with_tabW vitrineref12_Image.tab29 vitrineref12_Image.bits29 (fun HT_ HW_ => ?_)
       generalize World.drew _ = w11 at HS HO HV HR hHeld ⊢
       refine zt 0 123 (bm 17 1) rfl (by rintro w' ⟨s0_, s1_, s2_, s3_, s4_, s5_, s6_, s7_⟩; go_simp; with_reducible rfl) ?_
       refine zp 1 124 (bm 17 3) ?_
       refine zp 2 125 (bm 17 7) ?_
       refine zp 3 126 (bm 17 15) ?_
       refine zp 4 127 (bm 17 31) ?_
       refine zp 5 128 (bm 17 63) ?_
       refine zp 6 129 (bm 17 127) ?_
       refine zp 7 130 (bm 17 255) ?_
       refine zp 8 131 (bm 17 511) ?_
       refine zp 9 132 (bm 17 1023) ?_
       refine zp 10 133 (bm 17 2047) ?_
       refine one_ (i := 11) (N := some 134) (bm 17 4095) rfl rfl (one_of HT_.out (by kernel_rfl)) (by decide) (fun K hK => ?_)
       have hlen_ : hj.toNat - lo.toNat = ((v.take hj.toNat).drop lo.toNat).length := by rw [List.length_drop, List.length_take]; omega
       refine goes_ Try.func30 (by kernel_rfl) rfl #[.agg #[.int .i64 s.W, .int .i64 s.H, .int .i64 s.D, .int .i64 s.C, .int .i64 s.L, .string s.pal, .string s.tr, .bool s.ht], .slice A27 (hj.toNat - lo.toNat) (co - lo.toNat)] (by rfl) rfl rfl (by (try simp only [List.map_toArray, List.map_cons, List.map_nil]); first | done | rfl) ?_
       with_reducible refine ((show Calls Try.prog 30 #[.agg #[.int .i64 s.W, .int .i64 s.H, .int .i64 s.D, .int .i64 s.C, .int .i64 s.L, .string s.pal, .string s.tr, .bool s.ht], .slice A27 (hj.toNat - lo.toNat) (co - lo.toNat)] _ _ from by rw [hlen_]; exact vitrineref11_Pixel.calls k s.W s.H s.D s.C s.L s.pal s.tr s.ht A27 (co - lo.toNat) ((v.take hj.toNat).drop lo.toNat) q e2 _ HR.out HC.out HPX.out)).mono ?_
       rintro e w_ ⟨rfl, hb⟩
       refine ⟨_, rfl, ?_⟩
       have n3_ := Aside0.mk (Kd.R_below HV.out hb)
       clear HV HR HC hlen_
       have HV := n3_
       clear n3_
       have n1_ := Aside0.mk (Kd.R_below HO.out hb)
       clear HO
       have HO := n1_
       clear n1_
       have n0_ := Aside0.mk (HS.out.step hb)
       clear HS hb
       have HS := n0_
       clear n0_
       refine hK.out _ _ ⟨(HS.out.cell 4 rfl 0).trans rfl, (HS.out.cell 4 rfl 1).trans rfl, (HS.out.cell 4 rfl 2).trans rfl, (HS.out.cell 4 rfl 3).trans rfl, (HS.out.cell 4 rfl 4).trans rfl, (HS.out.cell 4 rfl 5).trans rfl, (HS.out.cell 4 rfl 6).trans rfl, (HS.out.cell 4 rfl 7).trans rfl⟩ (fun hHeld => ?_)
       clear hK K
       refine norm_ (a' := ?_) ?_ ?_
       rotate_left
       ·show Act.put _ (some 134) _ = _
        simp only [Act.put, zq1, zq2, zq3, i64_w, i32_w]
        rfl
       refine zp 12 122 (bm 17 8191) ?_
       refine zp 13 135 (bm 17 16383) ?_
       refine zp 14 136 (bm 17 32767) ?_
       refine zp 15 20 (bm 17 65535) ?_
       refine zp 16 21 (bm 17 131071) ?_
       refine done_ (done_of HT_.out (by kernel_rfl)) ?_
       clear HT_ HW_ hHeld
       clear hcut27 g0 g1 g2 b0 b1 b2 z0 z1 a0 a1 a2 q0 hlo hhj y4
       by_cases he2 : e2 = 0
       rotate_left
       ·have h3 : some (e2, (⟨#[]⟩ : ByteArray)) = some (er, out) := (if_neg he2).symm.trans HF.out
        have q1 : (e2 != 0) = true := bne_iff_ne.mpr he2
        obtain ⟨rfl, rfl⟩ := Prod.mk.inj (Option.some.inj h3)
        clear h3 HF
        have c0 := (HS.out.cell 3 rfl 0).trans (show (#[.int .i64 0, .int .i64 0, .string (⟨#[]⟩ : ByteArray)] : Array Value)[0]? = some (.int .i64 0) from rfl)
        have c1 := (HS.out.cell 3 rfl 1).trans (show (#[.int .i64 0, .int .i64 0, .string (⟨#[]⟩ : ByteArray)] : Array Value)[1]? = some (.int .i64 0) from rfl)
        have c2 := (HS.out.cell 3 rfl 2).trans (show (#[.int .i64 0, .int .i64 0, .string (⟨#[]⟩ : ByteArray)] : Array Value)[2]? = some (.string (⟨#[]⟩ : ByteArray)) from rfl)
        have f0 := HS.out.fz 3 rfl 0
        have f1 := HS.out.fz 3 rfl 1
        have f2 := HS.out.fz 3 rfl 2
        go_wp2
        refine bodyPost_ret (results_ct rfl _ _ gr 23 #[.int .i64 0, .int .i64 0, .string (⟨#[]⟩ : ByteArray)] (0, 0) _ rfl (Sv.at (((HS.out.set 3 rfl 0 (.int .i64 0)).set 3 rfl 1 (.int .i64 0)).set 3 rfl 2 (.string (⟨#[]⟩ : ByteArray))) 3 rfl) Try.underlying23 rfl (by kernel_rfl)) rfl ?_
        exact ⟨by rw [RS, if_neg he2]; rfl, (((HS.out.set 3 rfl 0 (.int .i64 0)).set 3 rfl 1 (.int .i64 0)).set 3 rfl 2 (.string (⟨#[]⟩ : ByteArray))).below⟩
       have q1 : (e2 != 0) = false := bne_eq_false_iff_eq.mpr he2
       have hf := (if_pos he2).symm.trans HF.out
       rw [hat] at hf
       clear HF he2
       obtain ⟨o_, ho_⟩ : ∃ z, wrap64 (8 * at_) = z := ⟨_, rfl⟩
       rw [ho_] at hf
       by_cases c0 : (0 ≤ o_ ∧ o_ + (q.size : Int) ≤ (px.length : Int)) ∧ 0 < q.size
       rotate_left
       ·rw [if_neg c0] at hf; cases hf
       rw [if_pos c0] at hf
       have HF := Aside0.mk hf
       have HC0 := Aside0.mk c0
       have hcut_ := px_cut gP n o_ HC0.out.1.1 (by have := HC0.out; have := HN.out; omega)
       have HFIT : Aside0 (o_.toNat + q.size ≤ n) := ⟨by have := HC0.out; have := HN.out; omega⟩
       have z3 : (IntKind.i64.wrap (8 * at_)) = o_ := (i64_w _).trans ho_
       have hat2 := hat
       unfold px_at at hat2
       have z4 : (IntKind.i64.wrap (wrap64 (wrap64 (wrap64 (p.f1 + wrap64 ((y : Int) * p.f3)) * s.W) + p.f0) + wrap64 ((x : Int) * p.f2))) = at_ := (i64_w _).trans hat2
       clear hf c0 hat hat2
       have y0 := (HS.out.cell 1 rfl 0).trans (show (PSC p : Array Value)[0]? = some (.int .i64 p.f0) from rfl)
       have y1 := (HS.out.cell 1 rfl 1).trans (show (PSC p : Array Value)[1]? = some (.int .i64 p.f1) from rfl)
       have y2 := (HS.out.cell 1 rfl 2).trans (show (PSC p : Array Value)[2]? = some (.int .i64 p.f2) from rfl)
       have y3 := (HS.out.cell 1 rfl 3).trans (show (PSC p : Array Value)[3]? = some (.int .i64 p.f3) from rfl)
       have ys0 := (HS.out.cell 4 rfl 0).trans (show (SHC s : Array Value)[0]? = some (.int .i64 s.W) from rfl)
       have hcp_ := px_run w_ gP o_.toNat n px q (HS.out.at 0 rfl) HN.out HFIT.out
       have ys8 : (0 : Nat) = 0 := rfl
       go_wp2
       clear hcp_ hcut_ ys8 z3 z4 ys0 y0 y1 y2 y3 q1 ho_
       go_roundw
       case rel => exact ⟨x + 1, px_copy px o_.toNat q, by first | rfl | (rw [HW2.out]) | go_num, HLT2.out, ⟨HS.out.setRow 0 rfl (PX (px_copy px o_.toNat q))⟩, ⟨Sv.rowKept HS.out 0 rfl (by decide) HO.out _⟩, ⟨Sv.rowKept HS.out 0 rfl (by decide) HV.out _⟩, ⟨by rw [HM2.out]; exact HF.out⟩, ⟨(px_copy_len (by rw [HN.out]; exact HFIT.out)).trans HN.out⟩⟩
       case measure => exact mea_px HLT2.out HW2.out
      ·obtain rfl : x = p.f4.toNat := by omega
       have q0 : decide (((p.f4.toNat : Nat) : Int) < p.f4) = false := decide_eq_false (by have := HS5.out.2; omega)
       have h3 := HF.out
       rw [Nat.sub_self, rx_cols] at h3
       have H5 := Aside0.mk h3
       clear h3 HF hlt hx
       go_wp2
       go_roundw
       case rel => exact ⟨y + 1, ln, rw_.extract hi.toNat rw_.size, px, rfl, rfl, by first | rfl | (rw [HW1.out]) | go_num, HLT1.out, HS, HO, ⟨by rw [HM1.out]; exact H5.out⟩, HN⟩
       case measure => exact mea_px HLT1.out HW1.out
    ·obtain rfl : y = p.f5.toNat := by omega
     have q0 : decide (((p.f5.toNat : Nat) : Int) < p.f5) = false := decide_eq_false (by have := HS5.out.1; omega)
     have h3 := H4.out
     rw [Nat.sub_self, rx_rows] at h3
     have H5 := Aside0.mk h3
     clear h3 H4 hlt hy
     go_wp2
     go_roundw
     case rel => exact ⟨i + 1, rw_, px2, rfl, by first | rfl | (rw [HW.out]) | go_num, HLT.out, ⟨(sv_perm HS.out (List.Perm.swap _ _ _)).tail⟩, HO, H5, HN⟩
     case measure => exact mea_px HLT.out HW.out
  ·obtain rfl : i = ps.length := by omega
   have q0 : decide ((ps.length : Int) < (ps.length : Int)) = false := decide_eq_false (by omega)
   have h3 := H3.out
   rw [List.drop_length, rx_all] at h3
   obtain ⟨rfl, rfl⟩ := Prod.mk.inj (Option.some.inj h3)
   clear h3 H3 hlt hi
   have ys0 := (HS.out.cell 3 rfl 0).trans (show (SHC s : Array Value)[0]? = some (.int .i64 s.W) from rfl)
   have ys1 := (HS.out.cell 3 rfl 1).trans (show (SHC s : Array Value)[1]? = some (.int .i64 s.H) from rfl)
   have hcv_ := own_string (P := Try.prog) Try.underlying45 Try.underlying5 Try.underlying9 (own_px (HS.out.at 0 rfl) (Nat.le_refl _) HN.out HNn.out)
   have c0 := (HS.out.cell 2 rfl 0).trans (show (#[.int .i64 0, .int .i64 0, .string (⟨#[]⟩ : ByteArray)] : Array Value)[0]? = some (.int .i64 0) from rfl)
   have c1 := (HS.out.cell 2 rfl 1).trans (show (#[.int .i64 0, .int .i64 0, .string (⟨#[]⟩ : ByteArray)] : Array Value)[1]? = some (.int .i64 0) from rfl)
   have c2 := (HS.out.cell 2 rfl 2).trans (show (#[.int .i64 0, .int .i64 0, .string (⟨#[]⟩ : ByteArray)] : Array Value)[2]? = some (.string (⟨#[]⟩ : ByteArray)) from rfl)
   have f0 := HS.out.fz 2 rfl 0
   have f1 := HS.out.fz 2 rfl 1
   have f2 := HS.out.fz 2 rfl 2
   go_wp2
   refine bodyPost_ret (results_ct rfl _ _ gr 23 #[.int .i64 s.W, .int .i64 s.H, .string (strOfNums px1)] (0, 0) _ rfl (Sv.at (Sv.set (Sv.set (Sv.set HS.out 2 rfl 0 (.int .i64 s.W)) 2 rfl 1 (.int .i64 s.H)) 2 rfl 2 (.string (strOfNums px1))) 2 rfl) Try.underlying23 rfl (by kernel_rfl)) rfl ?_
   exact ⟨by rw [RS, if_pos rfl]; rfl, (Sv.set (Sv.set (Sv.set HS.out 2 rfl 0 (.int .i64 s.W)) 2 rfl 1 (.int .i64 s.H)) 2 rfl 2 (.string (strOfNums px1))).below⟩
def vitrineref12_Image.f (k : Nat) (a0_0 : Int) (a0_1 : Int) (a0_2 : Int) (a0_3 : Int) (a0_4 : Int) (a0_5 : ByteArray) (a0_6 : ByteArray) (a0_7 : Bool) (a1 : ByteArray) : Option (Int × Int × ByteArray × Int) :=
 (rx_image k ⟨a0_0, a0_1, a0_2, a0_3, a0_4, a0_5, a0_6, a0_7⟩ a1).bind fun r => px_out a0_0 a0_1 r
theorem vitrineref12_Image.calls (k : Nat) (a0_0 : Int) (a0_1 : Int) (a0_2 : Int) (a0_3 : Int) (a0_4 : Int) (a0_5 : ByteArray) (a0_6 : ByteArray) (a0_7 : Bool) (a1 : ByteArray) (r1 : Int) (r2 : Int) (r3 : ByteArray) (r4 : Int) (w : World) (h : vitrineref12_Image.f k a0_0 a0_1 a0_2 a0_3 a0_4 a0_5 a0_6 a0_7 a1 = some (r1, r2, r3, r4)) :
  Calls Try.prog 12 #[.agg #[.int .i64 a0_0, .int .i64 a0_1, .int .i64 a0_2, .int .i64 a0_3, .int .i64 a0_4, .string a0_5, .string a0_6, .bool a0_7], .string a1] w fun e w' => e = .returned (.tuple #[.agg #[.int .i64 r1, .int .i64 r2, .string r3], .int .i64 r4]) ∧ Below w.heap.size w w' := by
 obtain ⟨⟨er, out⟩, h1, h2⟩ := Option.bind_eq_some_iff.1 h
 obtain ⟨h3, h4⟩ := px_out_RS h2
 have h5 := rx_image_calls k ⟨a0_0, a0_1, a0_2, a0_3, a0_4, a0_5, a0_6, a0_7⟩ a1 out er w h1
 rw [h3] at h5
 subst h4
 exact h5

end Go.Proofs.Ytejljcglbkjgkaa.PL12

namespace Go.Proofs.Ytejljcglbkjgkaa.PL12
open Go.RowKit Go.Proofs.YtejljcglbkjgkaaW.PrintWords Go.Proofs.YtejljcglbkjgkaaW.PrintLast Go.Proofs.YtejljcglbkjgkaaW.PrintMore
attribute [local go_sem] max2_int min2_int max_two min_two max_three min_three max_four min_four   -- for this text's walks alone
set_option linter.unusedVariables false
set_option linter.unusedSimpArgs false

attribute [local go_sem high] eqA23
def vitrinelaw12_PixelImages.f (k : Nat) (a0_0 : Int) (a0_1 : Int) (a0_2 : Int) (a0_3 : Int) (a0_4 : Int) (a0_5 : ByteArray) (a0_6 : ByteArray) (a0_7 : Bool) (a1 : ByteArray) : Option (Bool) := (pixel_Image.f k a0_0 a0_1 a0_2 a0_3 a0_4 a0_5 a0_6 a0_7 a1).bind fun bt404 => ((vitrineref12_Image.f k a0_0 a0_1 a0_2 a0_3 a0_4 a0_5 a0_6 a0_7 a1).bind fun bt409 => (if (bt404.1 == bt409.1 && (bt404.2.1 == bt409.2.1 && (bt404.2.2.1.toList == bt409.2.2.1.toList))) = true then (if bt404.2.2.2 = bt409.2.2.2 then ((vitrinelaw12_awake.f k).bind fun t414 => (some t414)) else (none)) else (none)))
set_option maxHeartbeats 40000000 in
set_option maxRecDepth 100000 in
theorem vitrinelaw12_PixelImages.calls (k : Nat) (a0_0 : Int) (a0_1 : Int) (a0_2 : Int) (a0_3 : Int) (a0_4 : Int) (a0_5 : ByteArray) (a0_6 : ByteArray) (a0_7 : Bool) (a1 : ByteArray) (r : Bool) (w : World) (h : vitrinelaw12_PixelImages.f k a0_0 a0_1 a0_2 a0_3 a0_4 a0_5 a0_6 a0_7 a1 = some r) :
  Calls Try.prog 4 #[.agg #[.int .i64 a0_0, .int .i64 a0_1, .int .i64 a0_2, .int .i64 a0_3, .int .i64 a0_4, .string a0_5, .string a0_6, .bool a0_7], .string a1] w fun e w' => e = .returned (.bool r) ∧ Below w.heap.size w w' := by
 have hu31 := Try.underlying31
 have hu23 := Try.underlying23
 have HB := Aside0.mk (Below.refl w.heap.size w)
 have H : ((pixel_Image.f k a0_0 a0_1 a0_2 a0_3 a0_4 a0_5 a0_6 a0_7 a1).bind fun bt404 => ((vitrineref12_Image.f k a0_0 a0_1 a0_2 a0_3 a0_4 a0_5 a0_6 a0_7 a1).bind fun bt409 => (if (bt404.1 == bt409.1 && (bt404.2.1 == bt409.2.1 && (bt404.2.2.1.toList == bt409.2.2.1.toList))) = true then (if bt404.2.2.2 = bt409.2.2.2 then ((vitrinelaw12_awake.f k).bind fun t414 => (some t414)) else (none)) else (none)))) = some r := h
 clear h
 replace H := Option.bind_eq_some_iff.mp H
 obtain ⟨⟨t404, t405, t406, t407⟩, A30, H⟩ := H
 replace H : ((vitrineref12_Image.f k a0_0 a0_1 a0_2 a0_3 a0_4 a0_5 a0_6 a0_7 a1).bind fun bt409 => (if (t404 == bt409.1 && (t405 == bt409.2.1 && (t406.toList == bt409.2.2.1.toList))) = true then (if t407 = bt409.2.2.2 then ((vitrinelaw12_awake.f k).bind fun t414 => (some t414)) else (none)) else (none))) = some r := H
 have A3 := Aside0.mk A30
 clear A30
 replace H := Option.bind_eq_some_iff.mp H
 obtain ⟨⟨t409, t410, t411, t412⟩, A40, H⟩ := H
 replace H : (if (t404 == t409 && (t405 == t410 && (t406.toList == t411.toList))) = true then (if t407 = t412 then ((vitrinelaw12_awake.f k).bind fun t414 => (some t414)) else (none)) else (none)) = some r := H
 have A4 := Aside0.mk A40
 clear A40
 by_cases c5 : (t404 == t409 && (t405 == t410 && (t406.toList == t411.toList))) = true
 ·rw [if_pos c5] at H
  have c5b0 : (t404 == t409 && (t405 == t410 && (t406.toList == t411.toList))) = true := c5
  (try (have c5b1 : decide (t404 = t409 && (t405 == t410 && (t406.toList == t411.toList))) = true := by simpa using c5))
  (try (have c5b2 : (t404 == t409 && (t405 == t410 && (t406.toList == t411.toList))) = true := by simpa using c5))
  clear c5
  by_cases c6 : t407 = t412
  ·rw [if_pos c6] at H
   have c6b0 : (t407 == t412) = true := beq_iff_eq.mpr c6
   have c6b1 : (t407 != t412) = false := bne_eq_false_iff_eq.mpr c6
   clear c6
   replace H := Option.bind_eq_some_iff.mp H
   obtain ⟨t414, A70, H⟩ := H
   replace H : (some t414) = some r := H
   have A7 := Aside0.mk A70
   clear A70
   obtain rfl := Option.some.inj H
   go_enter Try.func4, Try.ntmps4
   go_wp2_with (first | ((with_reducible refine gate_dst (N := 2) rfl ?_); refine box_event ?hg (N := 2) ?hd (cs := #[.int .i64 a0_0, .int .i64 a0_1, .int .i64 a0_2, .int .i64 a0_3, .int .i64 a0_4, .string a0_5, .string a0_6, .bool a0_7]) (t := 31) ?hr ?_; (case hd => rfl); (case hg => rfl); (case hr => first | (go_simp; done) | (go_simp; rfl)); intro gb403 hg w8 hbox hb; have n0_ := Aside0.mk (below_step (hz HB) hb); have n1_ := Aside0.mk (hbox); have n2_ := Aside0.mk ((by rw [hg]; exact (below_size (hz HB)) : w.heap.size ≤ gb403)); have n3_ := Aside0.mk ((by rw [hg]; exact (below_size (hz HB)) : w.heap.size ≤ gb403)); clear HB; have HB := n0_; have BK403 := n1_; have GW403 := n2_; have GE403 := n3_; clear n0_ n1_ n2_ n3_; clear hb hbox hg; have hcz9_0 : w8.cell? ⟨gb403, 0, none⟩ = some (.int .i64 a0_0) := (blk_cell BK403.out 0).trans rfl; have hcz9_1 : w8.cell? ⟨gb403, 1, none⟩ = some (.int .i64 a0_1) := (blk_cell BK403.out 1).trans rfl; have hcz9_2 : w8.cell? ⟨gb403, 2, none⟩ = some (.int .i64 a0_2) := (blk_cell BK403.out 2).trans rfl; have hcz9_3 : w8.cell? ⟨gb403, 3, none⟩ = some (.int .i64 a0_3) := (blk_cell BK403.out 3).trans rfl; have hcz9_4 : w8.cell? ⟨gb403, 4, none⟩ = some (.int .i64 a0_4) := (blk_cell BK403.out 4).trans rfl; have hcz9_5 : w8.cell? ⟨gb403, 5, none⟩ = some (.string a0_5) := (blk_cell BK403.out 5).trans rfl; have hcz9_6 : w8.cell? ⟨gb403, 6, none⟩ = some (.string a0_6) := (blk_cell BK403.out 6).trans rfl; have hcz9_7 : w8.cell? ⟨gb403, 7, none⟩ = some (.bool a0_7) := (blk_cell BK403.out 7).trans rfl; have hfz9_0 := blk_frozen BK403.out 0; have hfz9_1 := blk_frozen BK403.out 1; have hfz9_2 := blk_frozen BK403.out 2; have hfz9_3 := blk_frozen BK403.out 3; have hfz9_4 := blk_frozen BK403.out 4; have hfz9_5 := blk_frozen BK403.out 5; have hfz9_6 := blk_frozen BK403.out 6; have hfz9_7 := blk_frozen BK403.out 7) | ((with_reducible refine gate_callee (f := 11) rfl ?_); refine gz 12 Try.func11 #[.agg #[.int .i64 a0_0, .int .i64 a0_1, .int .i64 a0_2, .int .i64 a0_3, .int .i64 a0_4, .string a0_5, .string a0_6, .bool a0_7], .string a1] ?_; (with_reducible refine (pixel_Image.calls k a0_0 a0_1 a0_2 a0_3 a0_4 a0_5 a0_6 a0_7 a1 t404 t405 t406 t407 _ A3.out).mono ?_); rintro e w10 ⟨rfl, hb⟩; refine ⟨_, rfl, ?_⟩; have n0_ := Aside0.mk (blk_below (g := gb403) (o := .cells #[.int .i64 a0_0, .int .i64 a0_1, .int .i64 a0_2, .int .i64 a0_3, .int .i64 a0_4, .string a0_5, .string a0_6, .bool a0_7] 31 (0, 0)) (kz BK403) hb); have n1_ := Aside0.mk (below_step (hz HB) hb); clear BK403; clear HB; have BK403 := n0_; have HB := n1_; clear n0_ n1_; (try clear hb); (try clear hb2); (try clear hk); (try clear hi)) | ((with_reducible refine gate_dst (N := 5) rfl ?_); refine box_event ?hg (N := 5) ?hd (cs := #[.int .i64 0, .int .i64 0, .string (⟨#[]⟩ : ByteArray)]) (t := 23) ?hr ?_; (case hd => rfl); (case hg => rfl); (case hr => first | (go_simp; done) | (go_simp; rfl)); intro gb408 hg w11 hbox hb; have n0_ := Aside0.mk (blk_below (g := gb403) (o := .cells #[.int .i64 a0_0, .int .i64 a0_1, .int .i64 a0_2, .int .i64 a0_3, .int .i64 a0_4, .string a0_5, .string a0_6, .bool a0_7] 31 (0, 0)) (kz BK403) hb); have n1_ := Aside0.mk (below_step (hz HB) hb); have n2_ := Aside0.mk (hbox); have n3_ := Aside0.mk ((by rw [hg]; exact (below_size (hz HB)) : w.heap.size ≤ gb408)); have n4_ := Aside0.mk ((by rw [hg]; exact (below_size (hz HB)) : w.heap.size ≤ gb408)); have n5_ := Aside0.mk ((by rw [hg]; exact Nat.ne_of_lt (blk_lt (g := gb403) (o := .cells #[.int .i64 a0_0, .int .i64 a0_1, .int .i64 a0_2, .int .i64 a0_3, .int .i64 a0_4, .string a0_5, .string a0_6, .bool a0_7] 31 (0, 0)) (kz BK403)) : gb403 ≠ gb408)); have n6_ := Aside0.mk ((by rw [hg]; exact Nat.ne_of_gt (blk_lt (g := gb403) (o := .cells #[.int .i64 a0_0, .int .i64 a0_1, .int .i64 a0_2, .int .i64 a0_3, .int .i64 a0_4, .string a0_5, .string a0_6, .bool a0_7] 31 (0, 0)) (kz BK403)) : gb408 ≠ gb403)); clear BK403; clear HB; have BK403 := n0_; have HB := n1_; have BK408 := n2_; have GW408 := n3_; have GE408 := n4_; have NB403_408 := n5_; have NB408_403 := n6_; clear n0_ n1_ n2_ n3_ n4_ n5_ n6_; clear hb hbox hg; have hnb12 := NB408_403.out; have hnc12 := NB403_408.out; have hcz13_0 : w11.cell? ⟨gb408, 0, none⟩ = some (.int .i64 0) := (blk_cell BK408.out 0).trans rfl; have hcz13_1 : w11.cell? ⟨gb408, 1, none⟩ = some (.int .i64 0) := (blk_cell BK408.out 1).trans rfl; have hcz13_2 : w11.cell? ⟨gb408, 2, none⟩ = some (.string (⟨#[]⟩ : ByteArray)) := (blk_cell BK408.out 2).trans rfl; have hfz13_0 := blk_frozen BK408.out 0; have hfz13_1 := blk_frozen BK408.out 1; have hfz13_2 := blk_frozen BK408.out 2; have hcz14_0 : w11.cell? ⟨gb403, 0, none⟩ = some (.int .i64 a0_0) := (blk_cell BK403.out 0).trans rfl; have hcz14_1 : w11.cell? ⟨gb403, 1, none⟩ = some (.int .i64 a0_1) := (blk_cell BK403.out 1).trans rfl; have hcz14_2 : w11.cell? ⟨gb403, 2, none⟩ = some (.int .i64 a0_2) := (blk_cell BK403.out 2).trans rfl; have hcz14_3 : w11.cell? ⟨gb403, 3, none⟩ = some (.int .i64 a0_3) := (blk_cell BK403.out 3).trans rfl; have hcz14_4 : w11.cell? ⟨gb403, 4, none⟩ = some (.int .i64 a0_4) := (blk_cell BK403.out 4).trans rfl; have hcz14_5 : w11.cell? ⟨gb403, 5, none⟩ = some (.string a0_5) := (blk_cell BK403.out 5).trans rfl; have hcz14_6 : w11.cell? ⟨gb403, 6, none⟩ = some (.string a0_6) := (blk_cell BK403.out 6).trans rfl; have hcz14_7 : w11.cell? ⟨gb403, 7, none⟩ = some (.bool a0_7) := (blk_cell BK403.out 7).trans rfl; have hfz14_0 := blk_frozen BK403.out 0; have hfz14_1 := blk_frozen BK403.out 1; have hfz14_2 := blk_frozen BK403.out 2; have hfz14_3 := blk_frozen BK403.out 3; have hfz14_4 := blk_frozen BK403.out 4; have hfz14_5 := blk_frozen BK403.out 5; have hfz14_6 := blk_frozen BK403.out 6; have hfz14_7 := blk_frozen BK403.out 7) | ((with_reducible refine gate_callee (f := 12) rfl ?_); refine gz 18 Try.func12 #[.agg #[.int .i64 a0_0, .int .i64 a0_1, .int .i64 a0_2, .int .i64 a0_3, .int .i64 a0_4, .string a0_5, .string a0_6, .bool a0_7], .string a1] ?_; (with_reducible refine (vitrineref12_Image.calls k a0_0 a0_1 a0_2 a0_3 a0_4 a0_5 a0_6 a0_7 a1 t409 t410 t411 t412 _ A4.out).mono ?_); rintro e w15 ⟨rfl, hb⟩; refine ⟨_, rfl, ?_⟩; have n0_ := Aside0.mk (blk_below (g := gb403) (o := .cells #[.int .i64 a0_0, .int .i64 a0_1, .int .i64 a0_2, .int .i64 a0_3, .int .i64 a0_4, .string a0_5, .string a0_6, .bool a0_7] 31 (0, 0)) (by (with_reducible repeat (first | refine blk_drewN ?_ _ | refine blk_drew ?_ | refine blk_alloc ?_ _)); refine blk_far ?_ NB403_408.out _; (with_reducible repeat (first | refine blk_drewN ?_ _ | refine blk_drew ?_ | refine blk_alloc ?_ _)); refine blk_far ?_ NB403_408.out _; (with_reducible repeat (first | refine blk_drewN ?_ _ | refine blk_drew ?_ | refine blk_alloc ?_ _)); refine blk_far ?_ NB403_408.out _; (with_reducible repeat (first | refine blk_drewN ?_ _ | refine blk_drew ?_ | refine blk_alloc ?_ _)); exact BK403.out) hb); have n1_ := Aside0.mk (blk_below (g := gb408) (o := .cells #[.int .i64 t404, .int .i64 t405, .string t406] 23 (0, 0)) (by (with_reducible repeat (first | refine blk_drewN ?_ _ | refine blk_drew ?_ | refine blk_alloc ?_ _)); refine blk_put (cs := #[.int .i64 t404, .int .i64 t405, .string (⟨#[]⟩ : ByteArray)]) ?_ 2 _ rfl; (with_reducible repeat (first | refine blk_drewN ?_ _ | refine blk_drew ?_ | refine blk_alloc ?_ _)); refine blk_put (cs := #[.int .i64 t404, .int .i64 0, .string (⟨#[]⟩ : ByteArray)]) ?_ 1 _ rfl; (with_reducible repeat (first | refine blk_drewN ?_ _ | refine blk_drew ?_ | refine blk_alloc ?_ _)); refine blk_put (cs := #[.int .i64 0, .int .i64 0, .string (⟨#[]⟩ : ByteArray)]) ?_ 0 _ rfl; (with_reducible repeat (first | refine blk_drewN ?_ _ | refine blk_drew ?_ | refine blk_alloc ?_ _)); exact BK408.out) hb); have n2_ := Aside0.mk (below_step (hz HB) hb); clear BK403; clear BK408; clear HB; have BK403 := n0_; have BK408 := n1_; have HB := n2_; clear n0_ n1_ n2_; (try clear hb); (try clear hb2); (try clear hk); (try clear hi)) | ((with_reducible refine gate_dst (N := 7) rfl ?_); refine box_event ?hg (N := 7) ?hd (cs := #[.int .i64 0, .int .i64 0, .string (⟨#[]⟩ : ByteArray)]) (t := 23) ?hr ?_; (case hd => rfl); (case hg => rfl); (case hr => first | (go_simp; done) | (go_simp; rfl)); intro gb413 hg w16 hbox hb; have n0_ := Aside0.mk (blk_below (g := gb403) (o := .cells #[.int .i64 a0_0, .int .i64 a0_1, .int .i64 a0_2, .int .i64 a0_3, .int .i64 a0_4, .string a0_5, .string a0_6, .bool a0_7] 31 (0, 0)) (kz BK403) hb); have n1_ := Aside0.mk (blk_below (g := gb408) (o := .cells #[.int .i64 t404, .int .i64 t405, .string t406] 23 (0, 0)) (kz BK408) hb); have n2_ := Aside0.mk (below_step (hz HB) hb); have n3_ := Aside0.mk (hbox); have n4_ := Aside0.mk ((by rw [hg]; exact (below_size (hz HB)) : w.heap.size ≤ gb413)); have n5_ := Aside0.mk ((by rw [hg]; exact (below_size (hz HB)) : w.heap.size ≤ gb413)); have n6_ := Aside0.mk ((by rw [hg]; exact Nat.ne_of_lt (blk_lt (g := gb403) (o := .cells #[.int .i64 a0_0, .int .i64 a0_1, .int .i64 a0_2, .int .i64 a0_3, .int .i64 a0_4, .string a0_5, .string a0_6, .bool a0_7] 31 (0, 0)) (kz BK403)) : gb403 ≠ gb413)); have n7_ := Aside0.mk ((by rw [hg]; exact Nat.ne_of_gt (blk_lt (g := gb403) (o := .cells #[.int .i64 a0_0, .int .i64 a0_1, .int .i64 a0_2, .int .i64 a0_3, .int .i64 a0_4, .string a0_5, .string a0_6, .bool a0_7] 31 (0, 0)) (kz BK403)) : gb413 ≠ gb403)); have n8_ := Aside0.mk ((by rw [hg]; exact Nat.ne_of_lt (blk_lt (g := gb408) (o := .cells #[.int .i64 t404, .int .i64 t405, .string t406] 23 (0, 0)) (kz BK408)) : gb408 ≠ gb413)); have n9_ := Aside0.mk ((by rw [hg]; exact Nat.ne_of_gt (blk_lt (g := gb408) (o := .cells #[.int .i64 t404, .int .i64 t405, .string t406] 23 (0, 0)) (kz BK408)) : gb413 ≠ gb408)); clear BK403; clear BK408; clear HB; have BK403 := n0_; have BK408 := n1_; have HB := n2_; have BK413 := n3_; have GW413 := n4_; have GE413 := n5_; have NB403_413 := n6_; have NB413_403 := n7_; have NB408_413 := n8_; have NB413_408 := n9_; clear n0_ n1_ n2_ n3_ n4_ n5_ n6_ n7_ n8_ n9_; clear hb hbox hg; have hnb17 := NB413_403.out; have hnc17 := NB403_413.out; have hnb18 := NB413_408.out; have hnc18 := NB408_413.out; have hcz19_0 : w16.cell? ⟨gb413, 0, none⟩ = some (.int .i64 0) := (blk_cell BK413.out 0).trans rfl; have hcz19_1 : w16.cell? ⟨gb413, 1, none⟩ = some (.int .i64 0) := (blk_cell BK413.out 1).trans rfl; have hcz19_2 : w16.cell? ⟨gb413, 2, none⟩ = some (.string (⟨#[]⟩ : ByteArray)) := (blk_cell BK413.out 2).trans rfl; have hfz19_0 := blk_frozen BK413.out 0; have hfz19_1 := blk_frozen BK413.out 1; have hfz19_2 := blk_frozen BK413.out 2; have hcz20_0 : w16.cell? ⟨gb408, 0, none⟩ = some (.int .i64 t404) := (blk_cell BK408.out 0).trans rfl; have hcz20_1 : w16.cell? ⟨gb408, 1, none⟩ = some (.int .i64 t405) := (blk_cell BK408.out 1).trans rfl; have hcz20_2 : w16.cell? ⟨gb408, 2, none⟩ = some (.string t406) := (blk_cell BK408.out 2).trans rfl; have hfz20_0 := blk_frozen BK408.out 0; have hfz20_1 := blk_frozen BK408.out 1; have hfz20_2 := blk_frozen BK408.out 2) | (go_at_call 10; (with_reducible refine (vitrinelaw12_awake.calls k  t414 _ A7.out).mono ?_); rintro e w21 ⟨rfl, hb⟩; have n0_ := Aside0.mk (blk_below (g := gb403) (o := .cells #[.int .i64 a0_0, .int .i64 a0_1, .int .i64 a0_2, .int .i64 a0_3, .int .i64 a0_4, .string a0_5, .string a0_6, .bool a0_7] 31 (0, 0)) (by (with_reducible repeat (first | refine blk_drewN ?_ _ | refine blk_drew ?_ | refine blk_alloc ?_ _)); refine blk_far ?_ NB403_413.out _; (with_reducible repeat (first | refine blk_drewN ?_ _ | refine blk_drew ?_ | refine blk_alloc ?_ _)); refine blk_far ?_ NB403_413.out _; (with_reducible repeat (first | refine blk_drewN ?_ _ | refine blk_drew ?_ | refine blk_alloc ?_ _)); refine blk_far ?_ NB403_413.out _; (with_reducible repeat (first | refine blk_drewN ?_ _ | refine blk_drew ?_ | refine blk_alloc ?_ _)); exact BK403.out) hb); have n1_ := Aside0.mk (blk_below (g := gb408) (o := .cells #[.int .i64 t404, .int .i64 t405, .string t406] 23 (0, 0)) (by (with_reducible repeat (first | refine blk_drewN ?_ _ | refine blk_drew ?_ | refine blk_alloc ?_ _)); refine blk_far ?_ NB408_413.out _; (with_reducible repeat (first | refine blk_drewN ?_ _ | refine blk_drew ?_ | refine blk_alloc ?_ _)); refine blk_far ?_ NB408_413.out _; (with_reducible repeat (first | refine blk_drewN ?_ _ | refine blk_drew ?_ | refine blk_alloc ?_ _)); refine blk_far ?_ NB408_413.out _; (with_reducible repeat (first | refine blk_drewN ?_ _ | refine blk_drew ?_ | refine blk_alloc ?_ _)); exact BK408.out) hb); have n2_ := Aside0.mk (blk_below (g := gb413) (o := .cells #[.int .i64 t409, .int .i64 t410, .string t411] 23 (0, 0)) (by (with_reducible repeat (first | refine blk_drewN ?_ _ | refine blk_drew ?_ | refine blk_alloc ?_ _)); refine blk_put (cs := #[.int .i64 t409, .int .i64 t410, .string (⟨#[]⟩ : ByteArray)]) ?_ 2 _ rfl; (with_reducible repeat (first | refine blk_drewN ?_ _ | refine blk_drew ?_ | refine blk_alloc ?_ _)); refine blk_put (cs := #[.int .i64 t409, .int .i64 0, .string (⟨#[]⟩ : ByteArray)]) ?_ 1 _ rfl; (with_reducible repeat (first | refine blk_drewN ?_ _ | refine blk_drew ?_ | refine blk_alloc ?_ _)); refine blk_put (cs := #[.int .i64 0, .int .i64 0, .string (⟨#[]⟩ : ByteArray)]) ?_ 0 _ rfl; (with_reducible repeat (first | refine blk_drewN ?_ _ | refine blk_drew ?_ | refine blk_alloc ?_ _)); exact BK413.out) hb); have n3_ := Aside0.mk (below_step (hz HB) hb); clear BK403; clear BK408; clear BK413; clear HB; have BK403 := n0_; have BK408 := n1_; have BK413 := n2_; have HB := n3_; clear n0_ n1_ n2_ n3_; (try clear hb); (try clear hb2); (try clear hk); (try clear hi)))
   go_ret
   exact ⟨by first | rfl | (simp [errW_none, errW_some] <;> rfl) | (simp [*, errW_none, errW_some] <;> rfl), by repeat (first | (with_reducible first | exact HB.out | apply below_alloc | apply pw_below_drewN | apply below_drew1 | refine below_set ?_ GE403.out | refine below_set ?_ GE408.out | refine below_set ?_ GE413.out) | exact HB.out)⟩
  ·rw [if_neg c6] at H
   exact absurd H (by simp)
 ·rw [if_neg c5] at H
  exact absurd H (by simp)

end Go.Proofs.Ytejljcglbkjgkaa.PL12
