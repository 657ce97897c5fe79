/- Printed for this claim by a program of this session over the kit's print program: the Go functions as Lean functions, and proofs that the calls come to these answers. No conditions. -/
import Derived.Test.YtdbiokmlgniobaaXH
import Derived.Laws.CopyOwn
import Derived.Laws.Tables
import Derived.Laws.Rows
import Derived.LoopTactic
import Derived.Test.YtdbiokmlgniobaaXPL22x2
namespace Go.Proofs.Ytdbiokmlgniobaa.PL22
open Go.RowKit Go.Proofs.YtdbiokmlgniobaaW.PrintWords Go.Proofs.YtdbiokmlgniobaaW.PrintLast Go.Proofs.YtdbiokmlgniobaaW.PrintMore
attribute [local go_sem] max2_int min2_int max_two min_two max_three min_three max_four min_four   -- for this text's walks alone
set_option linter.unusedVariables false
set_option linter.unusedSimpArgs false

def sha_K : List Int := [1116352408, 1899447441, 3049323471, 3921009573, 961987163, 1508970993, 2453635748, 2870763221, 3624381080, 310598401, 607225278, 1426881987, 1925078388, 2162078206, 2614888103, 3248222580, 3835390401, 4022224774, 264347078, 604807628, 770255983, 1249150122, 1555081692, 1996064986, 2554220882, 2821834349, 2952996808, 3210313671, 3336571891, 3584528711, 113926993, 338241895, 666307205, 773529912, 1294757372, 1396182291, 1695183700, 1986661051, 2177026350, 2456956037, 2730485921, 2820302411, 3259730800, 3345764771, 3516065817, 3600352804, 4094571909, 275423344, 430227734, 506948616, 659060556, 883997877, 958139571, 1322822218, 1537002063, 1747873779, 1955562222, 2024104815, 2227730452, 2361852424, 2428436474, 2756734187, 3204031479, 3329325298]
def u32s (xs : List Int) : Array Value := (xs.map (Value.int .u32)).toArray
def sha_zero : Array Value := #[.int .u32 0, .int .u32 0, .int .u32 0, .int .u32 0, .int .u32 0, .int .u32 0, .int .u32 0, .int .u32 0, .int .u32 0, .int .u32 0, .int .u32 0, .int .u32 0, .int .u32 0, .int .u32 0, .int .u32 0, .int .u32 0, .int .u32 0, .int .u32 0, .int .u32 0, .int .u32 0, .int .u32 0, .int .u32 0, .int .u32 0, .int .u32 0, .int .u32 0, .int .u32 0, .int .u32 0, .int .u32 0, .int .u32 0, .int .u32 0, .int .u32 0, .int .u32 0, .int .u32 0, .int .u32 0, .int .u32 0, .int .u32 0, .int .u32 0, .int .u32 0, .int .u32 0, .int .u32 0, .int .u32 0, .int .u32 0, .int .u32 0, .int .u32 0, .int .u32 0, .int .u32 0, .int .u32 0, .int .u32 0, .int .u32 0, .int .u32 0, .int .u32 0, .int .u32 0, .int .u32 0, .int .u32 0, .int .u32 0, .int .u32 0, .int .u32 0, .int .u32 0, .int .u32 0, .int .u32 0, .int .u32 0, .int .u32 0, .int .u32 0, .int .u32 0]
theorem sha_zero_eq : sha_zero = u32s (List.replicate 64 0) := by kernel_rfl
set_option maxHeartbeats 40000000 in
set_option maxRecDepth 100000 in
theorem sha_constants_calls (w : World) : Calls Try.prog 61 #[] w fun e w' => e = .returned (.agg (u32s sha_K)) ∧ Below w.heap.size w w' := by
 have HB := Aside0.mk (Below.refl w.heap.size w)
 go_enter Try.func61, Try.ntmps61
 go_upto_region 1 with (first | ((with_reducible refine gate_dst (N := 0) rfl ?_); refine box_event ?hg (N := 0) ?hd (cs := sha_zero) (t := 108) ?hr ?_; (case hd => rfl); (case hg => rfl); (case hr => first | (go_simp; done) | (go_simp; rfl)); intro gb101 hg w1 hbox hb; have n0_ := Aside0.mk (below_step (hz HB) hb); have n1_ := Aside0.mk (hbox); have n2_ := Aside0.mk ((by rw [hg]; exact (below_size (hz HB)) : w.heap.size ≤ gb101)); clear HB; have HB := n0_; have BK101 := n1_; have GE101 := n2_; clear n0_ n1_ n2_; clear hb hbox hg))
 refine wp_region_list ?_
 refine wpList_build rfl 108 _ rfl (by kernel_rfl) ?_
 refine wpList_store_row rfl 108 _ _ rfl gb101 (u32s sha_K) rfl (by kernel_rfl) 108 _ BK101.out (by kernel_rfl) rfl (by kernel_rfl) ?_
 have hrow := setRow_heap w1 gb101 _ (u32s sha_K) 108 (0, 0) BK101.out
 have hB1 : Below w.heap.size w (w1.setRow gb101 (u32s sha_K)) := ⟨HB.out.os, HB.out.tape, HB.out.output, by rw [setRow_size]; exact HB.out.size, fun k hk => (setRow_other w1 gb101 k (u32s sha_K) (by have := GE101.out; omega)).trans (HB.out.block k hk)⟩
 go_wp2
 refine bodyPost_ret (results_cell_row rfl _ _ gb101 108 (u32s sha_K) (0, 0) _ rfl hrow Try.underlying108 rfl (by kernel_rfl)) rfl ?_
 exact ⟨rfl, hB1⟩
def sha_trn (x n : Int) : Int := Go.bits .or .u32 (shr .u32 x n) (shl .u32 x (wrap64 (32 - n)))
theorem sha_turn_calls (x n : Int) (h0 : 0 ≤ n) (h1 : n ≤ 32) (w : World) : Calls Try.prog 76 #[.int .u32 x, .int .i64 n] w fun e w' => e = .returned (.int .u32 (sha_trn x n)) ∧ Drawn0 w w' :=
 sha_turn.calls x n _ w (by unfold sha_turn.f; rw [if_pos h0, if_pos (by unfold wrap64; omega)]; rfl)
theorem u32s_get (xs : List Int) (i : Nat) (x : Int) (h : xs[i]? = some x) : (u32s xs)[i]? = some (.int .u32 x) := by simp [u32s, h]
theorem u32s_size (xs : List Int) : (u32s xs).size = xs.length := by simp [u32s]
theorem u32s_one (xs : List Int) : (u32s xs).all (·.oneCell') = true := by simp [u32s, Value.oneCell']
theorem sha_i34 : (Try.prog.info? 108).map (·.size) = some 64 := by kernel_rfl
theorem u32s_cell {W : World} {g : Nat} {t : TypeId} {xs : List Int} (h : W.heap[g]? = some (.cells (u32s xs) t (0, 0))) (i : Int) (h0 : 0 ≤ i) (h1 : i < xs.length) : W.cell? ⟨g, i.toNat, none⟩ = some (.int .u32 (rd xs i)) := by
 rw [blk_cell h i.toNat]
 refine u32s_get xs _ _ ?_
 have : i.toNat < xs.length := by omega
 simp [rd, List.getElem?_eq_getElem this, List.getD_eq_getElem?_getD]
theorem u32s_put {W : World} {g : Nat} {t : TypeId} {xs : List Int} (h : W.heap[g]? = some (.cells (u32s xs) t (0, 0))) (i : Nat) (v : Int) : (W.setCell ⟨g, i, none⟩ (.int .u32 v)).heap[g]? = some (.cells (u32s (xs.set i v)) t (0, 0)) := by
 rw [setCell_eq_setRow W g i _ t (0, 0) _ h, setRow_heap W g _ _ t (0, 0) h]
 congr 2
 simp [u32s, List.map_set]
def sha_word (b : ByteArray) (m : Nat) : Int := Go.bits .or .u32 (Go.bits .or .u32 (Go.bits .or .u32 (IntKind.u32.wrap (IntKind.u32.wrap (bt b (4 * m)) * 16777216)) (IntKind.u32.wrap (IntKind.u32.wrap (bt b (4 * m + 1)) * 65536))) (IntKind.u32.wrap (IntKind.u32.wrap (bt b (4 * m + 2)) * 256))) (IntKind.u32.wrap (bt b (4 * m + 3)))
def sha_s1 (b : ByteArray) : Nat → List Int
 | 0 => List.replicate 64 0
 | m + 1 => (sha_s1 b m).set m (sha_word b m)
theorem sha_s1_len (b : ByteArray) : ∀ m, (sha_s1 b m).length = 64
 | 0 => by simp [sha_s1]
 | m + 1 => by simp [sha_s1, sha_s1_len b m]
def sha_next (xs : List Int) (c a d b : Int) : Int := IntKind.u32.wrap (IntKind.u32.wrap (IntKind.u32.wrap (rd xs c + Go.bits .xor .u32 (Go.bits .xor .u32 (sha_trn (rd xs a) 7) (sha_trn (rd xs a) 18)) (rd xs a / 8)) + rd xs d) + Go.bits .xor .u32 (Go.bits .xor .u32 (sha_trn (rd xs b) 17) (sha_trn (rd xs b) 19)) (rd xs b / 1024))
def sha_nx (xs : List Int) (t : Nat) : Int := sha_next xs (t - 16) (t - 15) (t - 7) (t - 2)
def sha_s2 (xs : List Int) : Nat → List Int
 | 0 => xs
 | m + 1 => (sha_s2 xs m).set (16 + m) (sha_nx (sha_s2 xs m) (16 + m))
theorem sha_s2_len (xs : List Int) : ∀ m, (sha_s2 xs m).length = xs.length
 | 0 => rfl
 | m + 1 => by simp [sha_s2, sha_s2_len xs m]
def sha_sched (b : ByteArray) : List Int := sha_s2 (sha_s1 b 16) 48
def sha_sch.T5 : Bool × List (List Nat × List Nat) := (true, [([], []), ([], []), ([], []), ([2], [2]), ([1, 3], [1, 3]), ([4], [4]), ([5], [5]), ([], []), ([], []), ([8], [8]), ([9], [9]), ([7, 10], [7, 10]), ([11], [11]), ([12], [12]), ([6, 13], [6, 13]), ([], []), ([], []), ([16], [16]), ([17], [17]), ([15, 18], [15, 18]), ([19], [19]), ([20], [20]), ([14, 21], [14, 21]), ([], []), ([], []), ([24], [24]), ([25], [25]), ([23, 26], [23, 26]), ([27], [27]), ([22, 28], [22, 28]), ([0, 0, 1, 2, 3, 4, 5, 6, 7, 8, 9, 10, 11, 12, 13, 14, 15, 16, 17, 18, 19, 20, 21, 22, 23, 24, 25, 26, 27, 28, 29], [0]), ([30, 29, 0, 1, 2, 3, 4, 5, 6, 7, 8, 9, 10, 11, 12, 13, 14, 15, 16, 17, 18, 19, 20, 21, 22, 23, 24, 25, 26, 27, 28, 29], [29, 30])])
def sha_sch.B5 : List Nat := [0, 0, 0, 4, 14, 30, 62, 0, 0, 256, 768, 1920, 3968, 8064, 16382, 0, 0, 65536, 196608, 491520, 1015808, 2064384, 4194302, 0, 0, 16777216, 50331648, 125829120, 260046848, 536870910, 1073741823, 2147483647]
theorem sha_sch.tab5 : rtab .any (opsOf Try.f75 5) = sha_sch.T5 := by kernel_rfl
theorem sha_sch.bits5 : waitsOk sha_sch.T5.2 sha_sch.B5 = true := by kernel_rfl
def sha_sch.T10 : Bool × List (List Nat × List Nat) := (true, [([], []), ([0], [0]), ([1], [1]), ([2], [2]), ([], []), ([4], [4]), ([5], [5]), ([6], [6]), ([3, 0, 1, 2, 3], [3]), ([7, 8, 0, 1, 2, 3, 4, 5, 6, 7, 8], [7])])
def sha_sch.B10 : List Nat := [0, 1, 3, 7, 0, 16, 48, 112, 15, 511]
theorem sha_sch.tab10 : rtab .any (opsOf Try.f75 10) = sha_sch.T10 := by kernel_rfl
theorem sha_sch.bits10 : waitsOk sha_sch.T10.2 sha_sch.B10 = true := by kernel_rfl
def sha_sch.T11 : Bool × List (List Nat × List Nat) := (true, [([], []), ([], []), ([1], [1]), ([2], [2]), ([3], [3]), ([], []), ([5], [5]), ([], []), ([7, 6], [7]), ([6, 8], [6, 8]), ([], []), ([10], [10]), ([9, 11], [9, 11]), ([4, 12], [4, 12]), ([], []), ([14], [14]), ([15], [15]), ([16], [16]), ([13, 17], [13, 17]), ([], []), ([19, 8], [19]), ([], []), ([21, 20], [21]), ([20, 22], [20, 22]), ([], []), ([24], [24]), ([23, 25], [23, 25]), ([18, 26], [18, 26]), ([0, 0, 1, 2, 3, 4, 5, 6, 7, 8, 9, 10, 11, 12, 13, 14, 15, 16, 17, 18, 19, 20, 21, 22, 23, 24, 25, 26, 27], [0]), ([28, 27, 22, 0, 1, 2, 3, 4, 5, 6, 7, 8, 9, 10, 11, 12, 13, 14, 15, 16, 17, 18, 19, 20, 21, 22, 23, 24, 25, 26, 27], [27, 28])])
def sha_sch.B11 : List Nat := [0, 0, 2, 6, 14, 0, 32, 0, 224, 480, 0, 1024, 4064, 8190, 0, 16384, 49152, 114688, 262142, 0, 524768, 0, 3670496, 7864800, 0, 16777216, 66585056, 134217726, 268435455, 536870911]
theorem sha_sch.tab11 : rtab .any (opsOf Try.f75 11) = sha_sch.T11 := by kernel_rfl
theorem sha_sch.bits11 : waitsOk sha_sch.T11.2 sha_sch.B11 = true := by kernel_rfl
set_option maxHeartbeats 40000000 in
set_option maxRecDepth 100000 in
theorem sha_schedule_calls (b : ByteArray) (hb64_ : b.size = 64) (w : World) : Calls Try.prog 75 #[.string b] w fun e w' => e = .returned (.agg (u32s (sha_sched b))) ∧ Below w.heap.size w w' := by
 obtain ⟨sc, hsc_⟩ : ∃ x_, sha_sched b = x_ := ⟨_, rfl⟩
 rw [hsc_]
 have HSC := Aside0.mk hsc_
 clear hsc_
 have hb64 := Aside0.mk hb64_
 clear hb64_
 have HB := Aside0.mk (Below.refl w.heap.size w)
 go_enter Try.func75, Try.ntmps75
 go_wp2_with (first | ((with_reducible refine gate_dst (N := 2) rfl ?_); refine box_event ?hg (N := 2) ?hd (cs := u32s (List.replicate 64 0)) (t := 108) ?hr ?_; (case hd => rfl); (case hg => rfl); (case hr => rw [← sha_zero_eq]; first | (go_simp; done) | (go_simp; rfl)); intro g2 hg w1 hbox hb; have G2 := Aside0.mk hg; have HB1 := Aside0.mk hb; have BX2 := Aside0.mk hbox; clear hb hbox hg) | ((with_reducible refine gate_dst (N := 3) rfl ?_); refine box_event ?hg (N := 3) ?hd (cs := u32s (List.replicate 64 0)) (t := 108) ?hr ?_; (case hd => rfl); (case hg => rfl); (case hr => rw [← sha_zero_eq]; first | (go_simp; done) | (go_simp; rfl)); intro g3 hg w2 hbox hb; have G3 := Aside0.mk hg; have HB2 := Aside0.mk hb; have BX3 := Aside0.mk hbox; clear hb hbox hg))
 have hl2 : g2 < w1.heap.size := (Array.getElem?_eq_some_iff.1 BX2.out).1
 have hne : g2 ≠ g3 := by have := G3.out; omega
 have B2 := Aside0.mk ((HB2.out.block g2 hl2).trans BX2.out)
 have HBB := Aside0.mk (HB1.out.trans (HB2.out.mono (HB1.out.size)))
 have hge : w.heap.size ≤ g3 := by have := G3.out; have := HB1.out.size; omega
 clear HB HB1 HB2 BX2 G3 hl2
 go_loopw [8] (fun v w' => ∃ m : Nat, v = .int .i64 (m : Int) ∧ m ≤ 16 ∧ Aside0 (w'.heap[g3]? = some (.cells (u32s (sha_s1 b m)) 108 (0, 0))) ∧ Aside0 (w'.heap[g2]? = some (.cells (u32s (List.replicate 64 0)) 108 (0, 0))) ∧ Aside0 (Below w.heap.size w w')) (fun v _ => 16 - (intOf v).toNat)
 case atStart => exact ⟨0, rfl, by omega, BX3, B2, HBB⟩
 case round =>
  obtain ⟨m, rfl, hm, HC, H2, HB⟩ := hrel
  clear BX3 B2 HBB
  by_cases h16 : m < 16
  ·have c0 : decide ((m : Int) < 16) = true := decide_eq_true (by omega)
   go_wp2
   have hw1 : wrap64 ((m : Int) + 1) = ((m + 1 : Nat) : Int) := by unfold wrap64; omega
   have hm1 : m + 1 ≤ 16 := h16
   have hmu : 16 - (m + 1) < 16 - m := by omega
   obtain ⟨j0, hj0⟩ : ∃ j_ : Int, wrap64 (4 * (m : Int)) = j_ := ⟨_, rfl⟩
   have hj0w : IntKind.i64.wrap (4 * (m : Int)) = j0 := (i64_w _).trans hj0
   obtain ⟨j1, hj1⟩ : ∃ j_ : Int, wrap64 (j0 + 1) = j_ := ⟨_, rfl⟩
   have hj1w : IntKind.i64.wrap (j0 + 1) = j1 := (i64_w _).trans hj1
   obtain ⟨j2, hj2⟩ : ∃ j_ : Int, wrap64 (j0 + 2) = j_ := ⟨_, rfl⟩
   have hj2w : IntKind.i64.wrap (j0 + 2) = j2 := (i64_w _).trans hj2
   obtain ⟨j3, hj3⟩ : ∃ j_ : Int, wrap64 (j0 + 3) = j_ := ⟨_, rfl⟩
   have hj3w : IntKind.i64.wrap (j0 + 3) = j3 := (i64_w _).trans hj3
   have e0 : j0 = 4 * m := by rw [← hj0]; unfold wrap64; omega
   have e1 : j1 = 4 * m + 1 := by rw [← hj1, e0]; unfold wrap64; omega
   have e2 : j2 = 4 * m + 2 := by rw [← hj2, e0]; unfold wrap64; omega
   have e3 : j3 = 4 * m + 3 := by rw [← hj3, e0]; unfold wrap64; omega
   have p0 := eq_true (show 0 ≤ j0 by omega)
   have p1 := eq_true (show 0 ≤ j1 by omega)
   have p2 := eq_true (show 0 ≤ j2 by omega)
   have p3 := eq_true (show 0 ≤ j3 by omega)
   have q0 := eq_true (show j0 < (b.size : Int) by rw [hb64.out]; omega)
   have q1 := eq_true (show j1 < (b.size : Int) by rw [hb64.out]; omega)
   have q2 := eq_true (show j2 < (b.size : Int) by rw [hb64.out]; omega)
   have q3 := eq_true (show j3 < (b.size : Int) by rw [hb64.out]; omega)
   have x0 := bt_at b j0
   have x1 := bt_at b j1
   have x2 := bt_at b j2
   have x3 := bt_at b j3
   have E0 := Aside0.mk e0
   have E1 := Aside0.mk e1
   have E2 := Aside0.mk e2
   have E3 := Aside0.mk e3
   clear e0 e1 e2 e3
   have pm := eq_true (show (0 : Int) ≤ (m : Int) by omega)
   have qm := eq_true (show (m : Int) < 64 by omega)
   have hcc : wr.cell? ⟨g3, m, none⟩ = some (.int .u32 (rd (sha_s1 b m) (m : Int))) := u32s_cell HC.out (m : Int) (by omega) (by rw [sha_s1_len]; omega)
   have hcf : wr.frozen? ⟨g3, m, none⟩ = false := by simp [World.frozen?, HC.out]
   have HC5 := Aside0.mk (u32s_put (W := wr.drew) HC.out m (sha_word b m))
   refine start_ (n := 32) (S := fun w' => True) (ds := [31]) (bm 32 0) (by kernel_rfl) rfl rfl trivial (fun hHeld => ?_)
   refine with_tabW sha_sch.tab5 sha_sch.bits5 (fun HT_ HW_ => ?_)
   refine zp 0 11 (bm 32 1) ?_
   refine zp 1 12 (bm 32 3) ?_
   refine zp 2 13 (bm 32 7) ?_
   refine zp 3 14 (bm 32 15) ?_
   refine zp 7 18 (bm 32 143) ?_
   refine zp 8 19 (bm 32 399) ?_
   refine zp 9 20 (bm 32 911) ?_
   refine zp 10 21 (bm 32 1935) ?_
   refine zp 15 26 (bm 32 34703) ?_
   refine zp 16 27 (bm 32 100239) ?_
   refine zp 17 28 (bm 32 231311) ?_
   refine zp 18 29 (bm 32 493455) ?_
   refine zp 23 34 (bm 32 8882063) ?_
   refine zp 24 35 (bm 32 25659279) ?_
   refine zp 25 36 (bm 32 59213711) ?_
   refine zp 26 37 (bm 32 126322575) ?_
   refine zt 4 15 (bm 32 126322591) rfl (by intro w' _; go_simp; with_reducible rfl) ?_
   refine zp 5 16 (bm 32 126322623) ?_
   refine zp 6 17 (bm 32 126322687) ?_
   refine zt 11 22 (bm 32 126324735) rfl (by intro w' _; go_simp; with_reducible rfl) ?_
   refine zp 12 23 (bm 32 126328831) ?_
   refine zp 13 24 (bm 32 126337023) ?_
   refine zp 14 25 (bm 32 126353407) ?_
   refine zt 19 30 (bm 32 126877695) rfl (by intro w' _; go_simp; with_reducible rfl) ?_
   refine zp 20 31 (bm 32 127926271) ?_
   refine zp 21 32 (bm 32 130023423) ?_
   refine zp 22 33 (bm 32 134217727) ?_
   refine zt 27 38 (bm 32 268435455) rfl (by intro w' _; go_simp; with_reducible rfl) ?_
   refine zp 28 39 (bm 32 536870911) ?_
   refine zp 29 40 (bm 32 1073741823) ?_
   refine zp 30 41 (bm 32 2147483647) ?_
   refine last_ (i := 31) (N := none) (bm 32 4294967295) rfl rfl (one_of HT_.out (by kernel_rfl)) (by decide) (fun K hK => ?_)
   refine skip_ (w1 := ?_) (by rfl) rfl ?_ ?_
   rotate_left
   ·go_simp
    rfl
   refine hK.out _ _ ?_
   clear hK K
   refine done_ (done_of HT_.out (by kernel_rfl)) ?_
   go_wp2
   go_roundw
   case rel =>
    refine ⟨m + 1, rfl, hm1, ⟨?_⟩, ⟨(Below.heap_setCell _ _ _ g2 hne).trans H2.out⟩, ⟨?_⟩⟩
    ·rw [E0.out, E1.out, E2.out, E3.out]
     exact HC5.out
    ·exact (below_drew HB.out).setCell (p := ⟨g3, m, none⟩) hge _
   case measure => exact hmu
  ·obtain rfl : m = 16 := by omega
   have c0 : decide (((16 : Nat) : Int) < 16) = false := by decide
   go_wp2
   go_loopw [5] (fun v w' => ∃ (m : Nat) (x : Int), v = .int .i64 x ∧ Aside0 (x = 16 + (m : Int)) ∧ Aside0 (m ≤ 48) ∧ Aside0 (w'.heap[g3]? = some (.cells (u32s (sha_s2 (sha_s1 b 16) m)) 108 (0, 0))) ∧ Aside0 (w'.heap[g2]? = some (.cells (u32s (List.replicate 64 0)) 108 (0, 0))) ∧ Aside0 (Below w.heap.size w w')) (fun v _ => 64 - (intOf v).toNat)
   case atStart => exact ⟨0, 16, rfl, ⟨rfl⟩, ⟨by omega⟩, HC, H2, HB⟩
   case round =>
    clear HC H2 HB
    obtain ⟨m, x, rfl, hx, hm, HC, H2, HB⟩ := hrel
    by_cases h64 : x < 64
    ·have hm1 : m + 1 ≤ 48 := by have := hx.out; omega
     have hxx := hx.out
     have hw1 : wrap64 (x + 1) = 16 + ((m + 1 : Nat) : Int) := by unfold wrap64; omega
     have hmu : 64 - (16 + (m + 1)) < 64 - x.toNat := by omega
     have c0 : decide (x < 64) = true := decide_eq_true h64
     have pm := eq_true (show (0 : Int) ≤ x by omega)
     have qm := eq_true (show x < 64 by omega)
     obtain ⟨ja, hja⟩ : ∃ j_ : Int, wrap64 (x - 15) = j_ := ⟨_, rfl⟩
     have hjaw : IntKind.i64.wrap (x - 15) = ja := (i64_w _).trans hja
     have ea : ja = x - 15 := by rw [← hja]; unfold wrap64; omega
     obtain ⟨jb, hjb⟩ : ∃ j_ : Int, wrap64 (x - 2) = j_ := ⟨_, rfl⟩
     have hjbw : IntKind.i64.wrap (x - 2) = jb := (i64_w _).trans hjb
     have eb : jb = x - 2 := by rw [← hjb]; unfold wrap64; omega
     obtain ⟨jc, hjc⟩ : ∃ j_ : Int, wrap64 (x - 16) = j_ := ⟨_, rfl⟩
     have hjcw : IntKind.i64.wrap (x - 16) = jc := (i64_w _).trans hjc
     have ec : jc = x - 16 := by rw [← hjc]; unfold wrap64; omega
     obtain ⟨jd, hjd⟩ : ∃ j_ : Int, wrap64 (x - 7) = j_ := ⟨_, rfl⟩
     have hjdw : IntKind.i64.wrap (x - 7) = jd := (i64_w _).trans hjd
     have ed : jd = x - 7 := by rw [← hjd]; unfold wrap64; omega
     have pa := eq_true (show 0 ≤ ja by omega)
     have qa := eq_true (show ja < 64 by omega)
     have pb := eq_true (show 0 ≤ jb by omega)
     have qb := eq_true (show jb < 64 by omega)
     have pc := eq_true (show 0 ≤ jc by omega)
     have qc := eq_true (show jc < 64 by omega)
     have pd := eq_true (show 0 ≤ jd by omega)
     have qd := eq_true (show jd < 64 by omega)
     have ka : wr.cell? ⟨g3, ja.toNat, none⟩ = some (.int .u32 (rd (sha_s2 (sha_s1 b 16) m) ja)) := u32s_cell HC.out ja (by omega) (by rw [sha_s2_len, sha_s1_len]; omega)
     have kb : wr.cell? ⟨g3, jb.toNat, none⟩ = some (.int .u32 (rd (sha_s2 (sha_s1 b 16) m) jb)) := u32s_cell HC.out jb (by omega) (by rw [sha_s2_len, sha_s1_len]; omega)
     have kc : wr.cell? ⟨g3, jc.toNat, none⟩ = some (.int .u32 (rd (sha_s2 (sha_s1 b 16) m) jc)) := u32s_cell HC.out jc (by omega) (by rw [sha_s2_len, sha_s1_len]; omega)
     have kd : wr.cell? ⟨g3, jd.toNat, none⟩ = some (.int .u32 (rd (sha_s2 (sha_s1 b 16) m) jd)) := u32s_cell HC.out jd (by omega) (by rw [sha_s2_len, sha_s1_len]; omega)
     have hcc : wr.cell? ⟨g3, x.toNat, none⟩ = some (.int .u32 (rd (sha_s2 (sha_s1 b 16) m) x)) := u32s_cell HC.out x (by omega) (by rw [sha_s2_len, sha_s1_len]; omega)
     have hcf : wr.frozen? ⟨g3, x.toNat, none⟩ = false := by simp [World.frozen?, HC.out]
     have hnx : sha_next (sha_s2 (sha_s1 b 16) m) jc ja jd jb = sha_nx (sha_s2 (sha_s1 b 16) m) (16 + m) := by rw [ea, eb, ec, ed, hxx]; rfl
     have hxn : x.toNat = 16 + m := by omega
     have HNX := Aside0.mk hnx
     have HXN := Aside0.mk hxn
     have HM1 := Aside0.mk hm1
     have HW1 := Aside0.mk hw1
     have HMU := Aside0.mk hmu
     clear ea eb ec ed hxx hnx hxn hm1 hmu
     go_wp2
     refine start_ (n := 10) (S := fun w' => w'.cell? ⟨g3, ja.toNat, none⟩ = some (.int .u32 (rd (sha_s2 (sha_s1 b 16) m) ja)) ∧ w'.cell? ⟨g3, jb.toNat, none⟩ = some (.int .u32 (rd (sha_s2 (sha_s1 b 16) m) jb))) (ds := []) (bm 10 0) (by kernel_rfl) rfl rfl ⟨ka, kb⟩ (fun hHeld => ?_)
     refine with_tabW sha_sch.tab10 sha_sch.bits10 (fun HT_ HW_ => ?_)
     refine zp 0 47 (bm 10 1) ?_
     refine zp 1 48 (bm 10 3) ?_
     refine zp 2 49 (bm 10 7) ?_
     refine zp 4 51 (bm 10 23) ?_
     refine zp 5 52 (bm 10 55) ?_
     refine zp 6 53 (bm 10 119) ?_
     refine zt 3 50 (bm 10 127) rfl (by rintro w' ⟨s0, s1⟩; go_simp; with_reducible rfl) ?_
     refine zp 8 6 (bm 10 383) ?_
     refine zt 7 54 (bm 10 511) rfl (by rintro w' ⟨s0, s1⟩; go_simp; with_reducible rfl) ?_
     refine zp 9 7 (bm 10 1023) ?_
     refine done_ (done_of HT_.out (by kernel_rfl)) ?_

     try go_wp2
     refine start_ (n := 30) (S := fun w' => w'.cell? ⟨g3, jc.toNat, none⟩ = some (.int .u32 (rd (sha_s2 (sha_s1 b 16) m) jc)) ∧ w'.cell? ⟨g3, jd.toNat, none⟩ = some (.int .u32 (rd (sha_s2 (sha_s1 b 16) m) jd))) (ds := [29]) (bm 30 0) (by kernel_rfl) rfl rfl ⟨kc, kd⟩ (fun hHeld => ?_)
     refine with_tabW sha_sch.tab11 sha_sch.bits11 (fun HT_ HW_ => ?_)
     refine zp 0 55 (bm 30 1) ?_
     refine zp 1 56 (bm 30 3) ?_
     refine zp 2 57 (bm 30 7) ?_
     refine zp 3 58 (bm 30 15) ?_
     refine zp 5 60 (bm 30 47) ?_
     refine zp 7 62 (bm 30 175) ?_
     refine zp 10 65 (bm 30 1199) ?_
     refine zp 11 66 (bm 30 3247) ?_
     refine zp 14 69 (bm 30 19631) ?_
     refine zp 15 70 (bm 30 52399) ?_
     refine zp 16 71 (bm 30 117935) ?_
     refine zp 19 74 (bm 30 642223) ?_
     refine zp 21 76 (bm 30 2739375) ?_
     refine zp 24 79 (bm 30 19516591) ?_
     refine zp 25 80 (bm 30 53071023) ?_
     refine zt 4 59 (bm 30 53071039) rfl (by rintro w' ⟨s0, s1⟩; go_simp; with_reducible rfl) ?_
     refine zt 17 72 (bm 30 53202111) rfl (by rintro w' ⟨s0, s1⟩; go_simp; with_reducible rfl) ?_
     refine one_ (i := 6) (N := some 61) (bm 30 53202175) rfl rfl (one_of HT_.out (by kernel_rfl)) (by decide) (fun K hK => ?_)
     refine goes_ Try.func76 (by kernel_rfl) rfl #[.int .u32 (rd (sha_s2 (sha_s1 b 16) m) ja), .int .i64 7] (by rfl) rfl rfl (by simp only [List.map_toArray, List.map_cons, List.map_nil]; rfl) ?_
     with_reducible refine (sha_turn_calls (rd (sha_s2 (sha_s1 b 16) m) ja) 7 (by decide) (by decide) _).mono ?_
     rintro e w3 ⟨rfl, ⟨nd, rfl⟩⟩
     refine ⟨_, rfl, ?_⟩
     refine hK.out _ _ ⟨hHeld.1, hHeld.2⟩ (fun hHeld => ?_)
     clear hK K
     refine norm_ (a' := ?_) ?_ ?_
     rotate_left
     ·show Act.put _ (some 61) _ = _
      simp only [Act.put, zq1, zq2, zq3, i64_w, i32_w]
      rfl
     refine one_ (i := 8) (N := some 63) (bm 30 53202431) rfl rfl (one_of HT_.out (by kernel_rfl)) (by decide) (fun K hK => ?_)
     refine goes_ Try.func76 (by kernel_rfl) rfl #[.int .u32 (rd (sha_s2 (sha_s1 b 16) m) ja), .int .i64 18] (by rfl) rfl rfl (by simp only [List.map_toArray, List.map_cons, List.map_nil]; rfl) ?_
     with_reducible refine (sha_turn_calls (rd (sha_s2 (sha_s1 b 16) m) ja) 18 (by decide) (by decide) _).mono ?_
     rintro e w3 ⟨rfl, ⟨nd, rfl⟩⟩
     refine ⟨_, rfl, ?_⟩
     refine hK.out _ _ ⟨hHeld.1, hHeld.2⟩ (fun hHeld => ?_)
     clear hK K
     refine norm_ (a' := ?_) ?_ ?_
     rotate_left
     ·show Act.put _ (some 63) _ = _
      simp only [Act.put, zq1, zq2, zq3, i64_w, i32_w]
      rfl
     refine zp 9 64 (bm 30 53202943) ?_
     refine zp 12 67 (bm 30 53207039) ?_
     refine zp 13 68 (bm 30 53215231) ?_
     refine zp 18 73 (bm 30 53477375) ?_
     refine one_ (i := 20) (N := some 75) (bm 30 54525951) rfl rfl (one_of HT_.out (by kernel_rfl)) (by decide) (fun K hK => ?_)
     refine goes_ Try.func76 (by kernel_rfl) rfl #[.int .u32 (rd (sha_s2 (sha_s1 b 16) m) jb), .int .i64 17] (by rfl) rfl rfl (by simp only [List.map_toArray, List.map_cons, List.map_nil]; rfl) ?_
     with_reducible refine (sha_turn_calls (rd (sha_s2 (sha_s1 b 16) m) jb) 17 (by decide) (by decide) _).mono ?_
     rintro e w3 ⟨rfl, ⟨nd, rfl⟩⟩
     refine ⟨_, rfl, ?_⟩
     refine hK.out _ _ ⟨hHeld.1, hHeld.2⟩ (fun hHeld => ?_)
     clear hK K
     refine norm_ (a' := ?_) ?_ ?_
     rotate_left
     ·show Act.put _ (some 75) _ = _
      simp only [Act.put, zq1, zq2, zq3, i64_w, i32_w]
      rfl
     refine one_ (i := 22) (N := some 77) (bm 30 58720255) rfl rfl (one_of HT_.out (by kernel_rfl)) (by decide) (fun K hK => ?_)
     refine goes_ Try.func76 (by kernel_rfl) rfl #[.int .u32 (rd (sha_s2 (sha_s1 b 16) m) jb), .int .i64 19] (by rfl) rfl rfl (by simp only [List.map_toArray, List.map_cons, List.map_nil]; rfl) ?_
     with_reducible refine (sha_turn_calls (rd (sha_s2 (sha_s1 b 16) m) jb) 19 (by decide) (by decide) _).mono ?_
     rintro e w3 ⟨rfl, ⟨nd, rfl⟩⟩
     refine ⟨_, rfl, ?_⟩
     refine hK.out _ _ ⟨hHeld.1, hHeld.2⟩ (fun hHeld => ?_)
     clear hK K
     refine norm_ (a' := ?_) ?_ ?_
     rotate_left
     ·show Act.put _ (some 77) _ = _
      simp only [Act.put, zq1, zq2, zq3, i64_w, i32_w]
      rfl
     refine zp 23 78 (bm 30 67108863) ?_
     refine zp 26 81 (bm 30 134217727) ?_
     refine zp 27 82 (bm 30 268435455) ?_
     refine zp 28 83 (bm 30 536870911) ?_
     refine last_ (i := 29) (N := none) (bm 30 1073741823) rfl rfl (one_of HT_.out (by kernel_rfl)) (by decide) (fun K hK => ?_)
     refine skip_ (w1 := ?_) (by rfl) rfl ?_ ?_
     rotate_left
     ·go_simp
      rfl
     refine hK.out _ _ ?_
     clear hK K
     refine done_ (done_of HT_.out (by kernel_rfl)) ?_

     try go_wp2
     go_roundw
     case rel =>
      refine ⟨m + 1, _, rfl, HW1, HM1, ⟨?_⟩, ⟨(Below.heap_setCell _ _ _ g2 hne).trans H2.out⟩, ⟨(pw_below_drewN HB.out _).setCell (p := ⟨g3, x.toNat, none⟩) hge _⟩⟩
      rw [sha_s2, ← HNX.out, ← HXN.out]
      exact u32s_put (W := wr.drewN _) HC.out _ _
     case measure =>
      show 64 - (wrap64 (x + 1)).toNat < 64 - x.toNat
      rw [HW1.out]
      exact HMU.out
    ·have hm48 : m = 48 := by have := hx.out; have := hm.out; omega
     obtain rfl : x = 64 := by have := hx.out; omega
     obtain ⟨xs, hxs⟩ : ∃ xs_, sha_s2 (sha_s1 b 16) m = xs_ := ⟨_, rfl⟩
     have hxl : xs.length = 64 := by rw [← hxs, sha_s2_len, sha_s1_len]
     have hsc : sc = xs := by rw [← HSC.out, ← hxs, hm48]; unfold sha_sched; with_reducible rfl
     subst hsc
     rw [hxs] at HC
     clear hxs hm48 hm hx
     have c0 : decide ((64 : Int) < 64) = false := by decide
     go_upto_region 12 with (fail)
     refine wp_region_list ?_
     refine wpList_load_row rfl 108 _ rfl g3 rfl 108 _ (0, 0) _ HC.out Try.underlying108 rfl (by rw [u32s_size, hxl]; exact sha_i34) ?_
     refine wpList_store_row rfl 108 _ _ rfl g2 (u32s sc) rfl rfl 108 _ H2.out (by rw [u32s_size, hxl]; exact sha_i34) (by rw [u32s_size, u32s_size, hxl]; simp) (u32s_one _) ?_
     have hrow := setRow_heap wr g2 _ (u32s sc) 108 (0, 0) H2.out
     have hB1 : Below w.heap.size w (wr.setRow g2 (u32s sc)) := below_setRow HB.out (Nat.le_of_eq G2.out.symm) _
     go_wp2
     refine bodyPost_ret (results_cell_row rfl _ _ g2 108 (u32s sc) (0, 0) _ rfl hrow Try.underlying108 rfl (by rw [u32s_size, hxl]; exact sha_i34)) rfl ?_
     exact ⟨rfl, hB1⟩
theorem sha_i32 : (Try.prog.info? 106).map (·.size) = some 8 := by kernel_rfl
theorem sha_len8 (xs : List Int) (h : xs.length = 8) : ∃ a b c d e f g i, xs = [a, b, c, d, e, f, g, i] := by
 match xs, h with
 | [a, b, c, d, e, f, g, i], _ => exact ⟨a, b, c, d, e, f, g, i, rfl⟩
def sha_x (e v5 v6 v7 kt wt : Int) : Int := IntKind.u32.wrap (IntKind.u32.wrap (IntKind.u32.wrap (IntKind.u32.wrap (v7 + Go.bits .xor .u32 (Go.bits .xor .u32 (sha_trn e 6) (sha_trn e 11)) (sha_trn e 25)) + Go.bits .xor .u32 (Go.bits .and .u32 e v5) (Go.bits .andNot .u32 v6 e)) + kt) + wt)
def sha_y (a v1 v2 : Int) : Int := IntKind.u32.wrap (Go.bits .xor .u32 (Go.bits .xor .u32 (sha_trn a 2) (sha_trn a 13)) (sha_trn a 22) + Go.bits .xor .u32 (Go.bits .xor .u32 (Go.bits .and .u32 a v1) (Go.bits .and .u32 a v2)) (Go.bits .and .u32 v1 v2))
def sha_rnd (vs : List Int) (kt wt : Int) : List Int := [IntKind.u32.wrap (sha_x (rd vs 4) (rd vs 5) (rd vs 6) (rd vs 7) kt wt + sha_y (rd vs 0) (rd vs 1) (rd vs 2)), rd vs 0, rd vs 1, rd vs 2, IntKind.u32.wrap (rd vs 3 + sha_x (rd vs 4) (rd vs 5) (rd vs 6) (rd vs 7) kt wt), rd vs 4, rd vs 5, rd vs 6]
def sha_rs (kk ws vs : List Int) : Nat → List Int
 | 0 => vs
 | m + 1 => sha_rnd (sha_rs kk ws vs m) (rd kk m) (rd ws m)
theorem sha_rs_len (kk ws vs : List Int) (h : vs.length = 8) : ∀ m, (sha_rs kk ws vs m).length = 8
 | 0 => h
 | m + 1 => rfl
def sha_ad (s vs : List Int) : Nat → List Int
 | 0 => s
 | m + 1 => (sha_ad s vs m).set m (IntKind.u32.wrap (rd (sha_ad s vs m) m + rd vs m))
theorem sha_ad_len (s vs : List Int) : ∀ m, (sha_ad s vs m).length = s.length
 | 0 => rfl
 | m + 1 => by simp [sha_ad, sha_ad_len s vs m]
def sha_blk (kk : List Int) (b : ByteArray) (s : List Int) : List Int := sha_ad s (sha_rs kk (sha_sched b) s 64) 8
theorem sha_sched_len (b : ByteArray) : (sha_sched b).length = 64 := by unfold sha_sched; rw [sha_s2_len, sha_s1_len]
def sha_zero8 : Array Value := #[.int .u32 0, .int .u32 0, .int .u32 0, .int .u32 0, .int .u32 0, .int .u32 0, .int .u32 0, .int .u32 0]
def sha_blk.T7 : Bool × List (List Nat × List Nat) := (true, [([], []), ([0], [0]), ([], []), ([2], [2]), ([], []), ([4, 3], [4]), ([3, 5], [3, 5]), ([], []), ([7, 5], [7]), ([6, 8], [6, 8]), ([1, 9], [1, 9]), ([], []), ([], []), ([12], [12]), ([11, 13], [11, 13]), ([], []), ([15], [15]), ([], []), ([16, 17], [16, 17]), ([14, 18], [14, 18]), ([10, 19], [10, 19]), ([], []), ([21], [21]), ([22], [22]), ([20, 23], [20, 23]), ([], []), ([25], [25]), ([26], [26]), ([24, 27], [24, 27]), ([28, 8, 0, 1, 2, 3, 4, 5, 6, 7, 8, 9, 10, 11, 12, 13, 14, 15, 16, 17, 18, 19, 20, 21, 22, 23, 24, 25, 26, 27, 28], [28])])
def sha_blk.B7 : List Nat := [0, 1, 0, 4, 0, 28, 60, 0, 188, 508, 1023, 0, 0, 4096, 14336, 0, 32768, 0, 229376, 522240, 1048575, 0, 2097152, 6291456, 16777215, 0, 33554432, 100663296, 268435455, 536870911]
theorem sha_blk.tab7 : rtab .any (opsOf Try.f62 7) = sha_blk.T7 := by kernel_rfl
theorem sha_blk.bits7 : waitsOk sha_blk.T7.2 sha_blk.B7 = true := by kernel_rfl
def sha_blk.T8 : Bool × List (List Nat × List Nat) := (true, [([], []), ([0], [0]), ([], []), ([2, 1], [2]), ([1, 3], [1, 3]), ([], []), ([5, 3], [5]), ([4, 6], [4, 6]), ([], []), ([], []), ([9], [9]), ([8, 10], [8, 10]), ([], []), ([], []), ([13], [13]), ([12, 14], [12, 14]), ([11, 15], [11, 15]), ([], []), ([17], [17]), ([], []), ([19], [19]), ([18, 20], [18, 20]), ([16, 21], [16, 21]), ([7, 22], [7, 22]), ([23, 6, 0, 1, 2, 3, 4, 5, 6, 7, 8, 9, 10, 11, 12, 13, 14, 15, 16, 17, 18, 19, 20, 21, 22, 23], [23])])
def sha_blk.B8 : List Nat := [0, 1, 0, 7, 15, 0, 47, 127, 0, 0, 512, 1792, 0, 0, 8192, 28672, 65280, 0, 131072, 0, 524288, 1966080, 4194048, 8388607, 16777215]
theorem sha_blk.tab8 : rtab .any (opsOf Try.f62 8) = sha_blk.T8 := by kernel_rfl
theorem sha_blk.bits8 : waitsOk sha_blk.T8.2 sha_blk.B8 = true := by kernel_rfl
set_option maxHeartbeats 40000000 in
set_option maxRecDepth 100000 in
theorem sha_block_calls (gs : Nat) (s kk : List Int) (b : ByteArray) (hs8_ : s.length = 8) (hk64_ : kk.length = 64) (hb64_ : b.size = 64) (w : World) (hs_ : w.heap[gs]? = some (.cells (u32s s) 106 (0, 0))) :
  Calls Try.prog 62 #[.pointer (some ⟨gs, 0, none⟩), .string b, .agg (u32s kk)] w fun e w' => (∃ v, e = .returned v) ∧ w'.heap[gs]? = some (.cells (u32s (sha_blk kk b s)) 106 (0, 0)) ∧ w.grownBy w' (some gs) := by
 have hb64 := Aside0.mk hb64_
 have hs8 := Aside0.mk hs8_
 have hk64 := Aside0.mk hk64_
 have HS := Aside0.mk hs_
 have hgs := (Array.getElem?_eq_some_iff.1 hs_).1
 obtain ⟨ws, hws_, hwl_⟩ : ∃ ws, sha_sched b = ws ∧ ws.length = 64 := ⟨_, rfl, sha_sched_len b⟩
 have hsch : ∀ w, Calls Try.prog 75 #[.string b] w fun e w' => e = .returned (.agg (u32s ws)) ∧ Below w.heap.size w w' := by rw [← hws_]; exact sha_schedule_calls b hb64_
 have hws := Aside0.mk hws_
 have hwl := Aside0.mk hwl_
 have hSCH := Aside0.mk hsch
 clear hb64_ hs8_ hk64_ hs_ hws_ hwl_ hsch
 go_enter Try.func62, Try.ntmps62
 go_wp2_with (first | ((with_reducible refine gate_dst (N := 5) rfl ?_); refine box_event ?hg (N := 5) ?hd (cs := u32s kk) (t := 108) ?hr ?_; (case hd => rfl); (case hg => rfl); (case hr => first | (go_simp; done) | (go_simp; rfl)); intro g5 hg w5 hbox hb; have G5 := Aside0.mk hg; have HB5 := Aside0.mk hb; have BX5 := Aside0.mk hbox; clear hb hbox hg) | ((with_reducible refine gate_dst (N := 6) rfl ?_); refine box_event ?hg (N := 6) ?hd (cs := sha_zero) (t := 108) ?hr ?_; (case hd => rfl); (case hg => rfl); (case hr => first | (go_simp; done) | (go_simp; rfl)); intro g6 hg w6 hbox hb; have G6 := Aside0.mk hg; have HB6 := Aside0.mk hb; have BX6 := Aside0.mk hbox; clear hb hbox hg) | ((with_reducible refine gate_callee (f := 75) rfl ?_); refine goesL_ (some 15) rfl rfl Try.func75 (by kernel_rfl) rfl #[.string b] rfl (by (try simp only [List.map_toArray, List.map_cons, List.map_nil]); first | done | rfl) ?_; (with_reducible refine (hSCH.out _).mono ?_); rintro e w15 ⟨rfl, hb⟩; have HB15 := Aside0.mk hb; clear hb; refine ⟨_, rfl, ?_⟩) | ((with_reducible refine gate_store (t := 108) (p := 6) rfl ?_); refine wpList_store_row rfl 108 _ _ rfl g6 (u32s ws) rfl rfl 108 _ BX6.out (by rw [u32s_size, hwl.out]; exact sha_i34) (by rw [sha_zero_eq, u32s_size, u32s_size, hwl.out]; simp) (u32s_one _) ?_; have HW6 := Aside0.mk (setRow_heap _ g6 _ (u32s ws) 108 (0, 0) BX6.out); have hlt5 := (Array.getElem?_eq_some_iff.1 BX5.out).1; have hlt6 := (Array.getElem?_eq_some_iff.1 BX6.out).1; have l15 := HB15.out.size; have l5 := HB5.out.size; have HK6 := Aside0.mk ((setRow_other w6 g6 g5 (u32s ws) (by rw [G6.out]; omega)).trans ((HB6.out.block g5 (by omega)).trans ((HB15.out.block g5 hlt5).trans BX5.out))); have HS6 := Aside0.mk ((setRow_other w6 g6 gs (u32s ws) (by rw [G6.out]; omega)).trans ((HB6.out.block gs (by omega)).trans ((HB15.out.block gs (by omega)).trans ((HB5.out.block gs hgs).trans HS.out)))); have HBb6 := Aside0.mk (below_setRow (((HB5.out.trans (HB15.out.mono l5)).trans (HB6.out.mono (by omega))) : Below w.heap.size w w6) (g := g6) (by rw [G6.out]; omega) (u32s ws)); have hg56 : g5 < g6 := (by rw [G6.out]; omega); have hgs5 : w.heap.size ≤ g5 := Nat.le_of_eq G5.out.symm; have hs6 : g6 < (w6.setRow g6 (u32s ws)).heap.size := (by rw [setRow_size]; exact hlt6); generalize w6.setRow g6 (u32s ws) = w7 at HW6 HK6 HS6 HBb6 hs6 ⊢; clear BX5 BX6 HB5 HB15 HB6 HS hlt5 hlt6 l15 l5 G5 G6) | ((with_reducible refine gate_ (.load 106 (.tmp 17)) rfl ?_); refine wpList_load_row rfl 106 _ rfl gs rfl 106 _ (0, 0) _ HS6.out Try.underlying106 rfl (by rw [u32s_size, hs8.out]; exact sha_i32) ?_) | ((with_reducible refine gate_dst (N := 7) rfl ?_); refine box_event ?hg (N := 7) ?hd (cs := sha_zero8) (t := 106) ?hr ?_; (case hd => rfl); (case hg => rfl); (case hr => first | (go_simp; done) | (go_simp; rfl)); intro g7 hg w8 hbox hb; have G8 := Aside0.mk hg; have HB8 := Aside0.mk hb; have BX8 := Aside0.mk hbox; clear hb hbox hg) | ((with_reducible refine gate_store (t := 106) (p := 7) rfl ?_); refine wpList_store_row rfl 106 _ _ rfl g7 (u32s s) rfl rfl 106 _ BX8.out (by rw [u32s_size, hs8.out]; exact sha_i32) (by rw [u32s_size, hs8.out]; first | done | rfl) (u32s_one _) ?_; have HW9 := Aside0.mk ((setRow_other w8 g7 g6 (u32s s) (by rw [G8.out]; omega)).trans ((HB8.out.block g6 hs6).trans HW6.out)); have HK9 := Aside0.mk ((setRow_other w8 g7 g5 (u32s s) (by rw [G8.out]; omega)).trans ((HB8.out.block g5 (by omega)).trans HK6.out)); have lw7 := HBb6.out.size; have HS9 := Aside0.mk ((setRow_other w8 g7 gs (u32s s) (by rw [G8.out]; omega)).trans ((HB8.out.block gs (by omega)).trans HS6.out)); have HV9 := Aside0.mk (setRow_heap _ g7 _ (u32s s) 106 (0, 0) BX8.out); have HB9 := Aside0.mk (below_setRow ((HBb6.out.trans (HB8.out.mono lw7)) : Below w.heap.size w w8) (g := g7) (by rw [G8.out]; exact lw7) (u32s s)); have hg67 : g6 < g7 := (by rw [G8.out]; exact hs6); have hgs7 : w.heap.size ≤ g7 := (by rw [G8.out]; exact lw7); generalize w8.setRow g7 (u32s s) = w9 at HW9 HK9 HS9 HV9 HB9 ⊢; clear HW6 HK6 HS6 HBb6 hs6 lw7 HB8 BX8 G8))
 go_loopw [19] (fun v w' => ∃ m : Nat, v = .int .i64 (m : Int) ∧ m ≤ 64 ∧ Aside0 (w'.heap[g7]? = some (.cells (u32s (sha_rs kk ws s m)) 106 (0, 0))) ∧ Aside0 (w'.heap[g6]? = some (.cells (u32s ws) 108 (0, 0))) ∧ Aside0 (w'.heap[g5]? = some (.cells (u32s kk) 108 (0, 0))) ∧ Aside0 (w'.heap[gs]? = some (.cells (u32s s) 106 (0, 0))) ∧ Aside0 (Below w.heap.size w w')) (fun v _ => 64 - (intOf v).toNat)
 case atStart => exact ⟨0, rfl, by omega, HV9, HW9, HK9, HS9, HB9⟩
 case round =>
  clear HV9 HW9 HK9 HS9 HB9
  obtain ⟨m, rfl, hm, HV, HW, HK, HS, HB⟩ := hrel
  by_cases h64 : m < 64
  ·have c0 : decide ((m : Int) < 64) = true := decide_eq_true (by omega)
   have hw1 : wrap64 ((m : Int) + 1) = ((m + 1 : Nat) : Int) := by unfold wrap64; omega
   have hm1 : m + 1 ≤ 64 := h64
   have hmu : 64 - (m + 1) < 64 - m := by omega
   have pm := eq_true (show (0 : Int) ≤ (m : Int) by omega)
   have qm := eq_true (show (m : Int) < 64 by omega)
   have hne5 : g5 ≠ g7 := by omega
   have hne6 : g6 ≠ g7 := by omega
   have hnes : gs ≠ g7 := by omega
   have hgs7' : gs < g7 := by omega
   have hg57 : g5 < g7 := by omega
   obtain ⟨v0, v1, v2, v3, v4, v5, v6, v7, hvs⟩ := sha_len8 _ (sha_rs_len kk ws s hs8.out m)
   have HVS := Aside0.mk hvs
   have HV1 := HV.out
   rw [hvs] at HV1
   have d0 : wr.cell? ⟨g7, 0, none⟩ = some (.int .u32 v0) := (blk_cell HV1 0).trans rfl
   have d1 : wr.cell? ⟨g7, 1, none⟩ = some (.int .u32 v1) := (blk_cell HV1 1).trans rfl
   have d2 : wr.cell? ⟨g7, 2, none⟩ = some (.int .u32 v2) := (blk_cell HV1 2).trans rfl
   have d3 : wr.cell? ⟨g7, 3, none⟩ = some (.int .u32 v3) := (blk_cell HV1 3).trans rfl
   have d4 : wr.cell? ⟨g7, 4, none⟩ = some (.int .u32 v4) := (blk_cell HV1 4).trans rfl
   have d5 : wr.cell? ⟨g7, 5, none⟩ = some (.int .u32 v5) := (blk_cell HV1 5).trans rfl
   have d6 : wr.cell? ⟨g7, 6, none⟩ = some (.int .u32 v6) := (blk_cell HV1 6).trans rfl
   have d7 : wr.cell? ⟨g7, 7, none⟩ = some (.int .u32 v7) := (blk_cell HV1 7).trans rfl
   have dk : wr.cell? ⟨g5, m, none⟩ = some (.int .u32 (rd kk m)) := u32s_cell HK.out (m : Int) (by omega) (by rw [hk64.out]; omega)
   have dw : wr.cell? ⟨g6, m, none⟩ = some (.int .u32 (rd ws m)) := u32s_cell HW.out (m : Int) (by omega) (by rw [hwl.out]; omega)
   have HV2 := Aside0.mk HV1
   clear hvs HV1 HV
   obtain ⟨kt, hkt⟩ : ∃ k_, rd kk (m : Int) = k_ := ⟨_, rfl⟩
   obtain ⟨wt, hwt⟩ : ∃ k_, rd ws (m : Int) = k_ := ⟨_, rfl⟩
   rw [hkt] at dk
   rw [hwt] at dw
   have HKT := Aside0.mk hkt
   have HWT := Aside0.mk hwt
   clear hkt hwt
   go_wp2
   refine start_ (n := 6) (S := fun w' => w'.cell? ⟨g7, 0, none⟩ = some (.int .u32 v0) ∧ w'.cell? ⟨g7, 4, none⟩ = some (.int .u32 v4)) (ds := []) (bm 6 0) (by kernel_rfl) rfl rfl ⟨d0, d4⟩ (fun hHeld => ?_)
   refine pure_ (i := 0) (N := some 22) (v := ?_) (a' := ?_) (bm 6 1) rfl rfl (by kernel_rfl) (fun _ _ _ h => h) (Or.inl ⟨by rfl, ?_⟩) ?_ ?_
   rotate_left
   ·intro w'
    go_simp
    with_reducible rfl
   rotate_left
   ·simp only [Act.put, zq1, zq2, zq3, i64_w, i32_w]
    rfl
   refine pure_ (i := 2) (N := some 24) (v := ?_) (a' := ?_) (bm 6 5) rfl rfl (by kernel_rfl) (fun _ _ _ h => h) (Or.inl ⟨by rfl, ?_⟩) ?_ ?_
   rotate_left
   ·intro w'
    go_simp
    with_reducible rfl
   rotate_left
   ·simp only [Act.put, zq1, zq2, zq3, i64_w, i32_w]
    rfl
   refine take_ (i := 1) (N := some 23) (v := ?_) (a' := ?_) (bm 6 7) rfl rfl (by kernel_rfl) (fun _ _ _ h => h) (Or.inl ⟨by rfl, ?_⟩) hHeld ?_ ?_
   rotate_left
   ·rintro w' ⟨s0, s1⟩
    go_simp
    with_reducible rfl
   rotate_left
   ·simp only [Act.put, zq1, zq2, zq3, i64_w, i32_w]
    rfl
   refine pure_ (i := 4) (N := some 9) (v := ?_) (a' := ?_) (bm 6 23) rfl rfl (by kernel_rfl) (fun _ _ _ h => h) (Or.inl ⟨by rfl, ?_⟩) ?_ ?_
   rotate_left
   ·intro w'
    go_simp
    with_reducible rfl
   rotate_left
   ·simp only [Act.put, zq1, zq2, zq3, i64_w, i32_w]
    rfl
   refine take_ (i := 3) (N := some 25) (v := ?_) (a' := ?_) (bm 6 31) rfl rfl (by kernel_rfl) (fun _ _ _ h => h) (Or.inl ⟨by rfl, ?_⟩) hHeld ?_ ?_
   rotate_left
   ·rintro w' ⟨s0, s1⟩
    go_simp
    with_reducible rfl
   rotate_left
   ·simp only [Act.put, zq1, zq2, zq3, i64_w, i32_w]
    rfl
   refine pure_ (i := 5) (N := some 10) (v := ?_) (a' := ?_) (bm 6 63) rfl rfl (by kernel_rfl) (fun _ _ _ h => h) (Or.inl ⟨by rfl, ?_⟩) ?_ ?_
   rotate_left
   ·intro w'
    go_simp
    with_reducible rfl
   rotate_left
   ·simp only [Act.put, zq1, zq2, zq3, i64_w, i32_w]
    rfl
   refine done_ (by kernel_rfl) ?_
   try go_wp2
   refine start_ (n := 30) (S := fun w' => w'.cell? ⟨g7, 7, none⟩ = some (.int .u32 v7) ∧ w'.cell? ⟨g7, 5, none⟩ = some (.int .u32 v5) ∧ w'.cell? ⟨g7, 6, none⟩ = some (.int .u32 v6) ∧ w'.cell? ⟨g5, m, none⟩ = some (.int .u32 kt) ∧ w'.cell? ⟨g6, m, none⟩ = some (.int .u32 wt)) (ds := []) (bm 30 0) (by kernel_rfl) rfl rfl ⟨d7, d5, d6, dk, dw⟩ (fun hHeld => ?_)
   refine with_tabW sha_blk.tab7 sha_blk.bits7 (fun HT_ HW_ => ?_)
   refine zp 0 26 (bm 30 1) ?_
   refine zp 2 28 (bm 30 5) ?_
   refine zp 4 30 (bm 30 21) ?_
   refine zp 7 33 (bm 30 149) ?_
   refine zp 11 37 (bm 30 2197) ?_
   refine zp 12 38 (bm 30 6293) ?_
   refine zp 15 41 (bm 30 39061) ?_
   refine zp 17 43 (bm 30 170133) ?_
   refine zp 21 47 (bm 30 2267285) ?_
   refine zp 22 48 (bm 30 6461589) ?_
   refine zp 25 51 (bm 30 40016021) ?_
   refine zp 26 52 (bm 30 107124885) ?_
   refine zt 1 27 (bm 30 107124887) rfl (by rintro w' ⟨s0, s1, s2, s3, s4⟩; go_simp; with_reducible rfl) ?_
   refine zt 13 39 (bm 30 107133079) rfl (by rintro w' ⟨s0, s1, s2, s3, s4⟩; go_simp; with_reducible rfl) ?_
   refine zp 14 40 (bm 30 107149463) ?_
   refine zt 16 42 (bm 30 107214999) rfl (by rintro w' ⟨s0, s1, s2, s3, s4⟩; go_simp; with_reducible rfl) ?_
   refine zp 18 44 (bm 30 107477143) ?_
   refine zp 19 45 (bm 30 108001431) ?_
   refine zt 23 49 (bm 30 116390039) rfl (by rintro w' ⟨s0, s1, s2, s3, s4⟩; go_simp; with_reducible rfl) ?_
   refine zt 27 53 (bm 30 250607767) rfl (by rintro w' ⟨s0, s1, s2, s3, s4⟩; go_simp; with_reducible rfl) ?_
   refine one_ (i := 3) (N := some 29) (bm 30 250607775) rfl rfl (one_of HT_.out (by kernel_rfl)) (by decide) (fun K hK => ?_)
   refine goes_ Try.func76 (by kernel_rfl) rfl #[.int .u32 v4, .int .i64 6] (by rfl) rfl rfl (by simp only [List.map_toArray, List.map_cons, List.map_nil]; rfl) ?_
   with_reducible refine (sha_turn_calls v4 6 (by decide) (by decide) _).mono ?_
   rintro e w3 ⟨rfl, ⟨nd, rfl⟩⟩
   refine ⟨_, rfl, ?_⟩
   refine hK.out _ _ ⟨hHeld.1, hHeld.2.1, hHeld.2.2.1, hHeld.2.2.2.1, hHeld.2.2.2.2⟩ (fun hHeld => ?_)
   clear hK K
   refine norm_ (a' := ?_) ?_ ?_
   rotate_left
   ·show Act.put _ (some 29) _ = _
    simp only [Act.put, zq1, zq2, zq3, i64_w, i32_w]
    rfl
   refine one_ (i := 5) (N := some 31) (bm 30 250607807) rfl rfl (one_of HT_.out (by kernel_rfl)) (by decide) (fun K hK => ?_)
   refine goes_ Try.func76 (by kernel_rfl) rfl #[.int .u32 v4, .int .i64 11] (by rfl) rfl rfl (by simp only [List.map_toArray, List.map_cons, List.map_nil]; rfl) ?_
   with_reducible refine (sha_turn_calls v4 11 (by decide) (by decide) _).mono ?_
   rintro e w3 ⟨rfl, ⟨nd, rfl⟩⟩
   refine ⟨_, rfl, ?_⟩
   refine hK.out _ _ ⟨hHeld.1, hHeld.2.1, hHeld.2.2.1, hHeld.2.2.2.1, hHeld.2.2.2.2⟩ (fun hHeld => ?_)
   clear hK K
   refine norm_ (a' := ?_) ?_ ?_
   rotate_left
   ·show Act.put _ (some 31) _ = _
    simp only [Act.put, zq1, zq2, zq3, i64_w, i32_w]
    rfl
   refine zp 6 32 (bm 30 250607871) ?_
   refine one_ (i := 8) (N := some 34) (bm 30 250608127) rfl rfl (one_of HT_.out (by kernel_rfl)) (by decide) (fun K hK => ?_)
   refine goes_ Try.func76 (by kernel_rfl) rfl #[.int .u32 v4, .int .i64 25] (by rfl) rfl rfl (by simp only [List.map_toArray, List.map_cons, List.map_nil]; rfl) ?_
   with_reducible refine (sha_turn_calls v4 25 (by decide) (by decide) _).mono ?_
   rintro e w3 ⟨rfl, ⟨nd, rfl⟩⟩
   refine ⟨_, rfl, ?_⟩
   refine hK.out _ _ ⟨hHeld.1, hHeld.2.1, hHeld.2.2.1, hHeld.2.2.2.1, hHeld.2.2.2.2⟩ (fun hHeld => ?_)
   clear hK K
   refine norm_ (a' := ?_) ?_ ?_
   rotate_left
   ·show Act.put _ (some 34) _ = _
    simp only [Act.put, zq1, zq2, zq3, i64_w, i32_w]
    rfl
   refine zp 9 35 (bm 30 250608639) ?_
   refine zp 10 36 (bm 30 250609663) ?_
   refine zp 20 46 (bm 30 251658239) ?_
   refine zp 24 50 (bm 30 268435455) ?_
   refine zp 28 54 (bm 30 536870911) ?_
   refine zp 29 11 (bm 30 1073741823) ?_
   refine done_ (done_of HT_.out (by kernel_rfl)) ?_
   try go_wp2
   refine start_ (n := 25) (S := fun w' => w'.cell? ⟨g7, 1, none⟩ = some (.int .u32 v1) ∧ w'.cell? ⟨g7, 2, none⟩ = some (.int .u32 v2)) (ds := []) (bm 25 0) (by kernel_rfl) rfl rfl ⟨d1, d2⟩ (fun hHeld => ?_)
   refine with_tabW sha_blk.tab8 sha_blk.bits8 (fun HT_ HW_ => ?_)
   refine zp 0 55 (bm 25 1) ?_
   refine zp 2 57 (bm 25 5) ?_
   refine zp 5 60 (bm 25 37) ?_
   refine zp 8 63 (bm 25 293) ?_
   refine zp 9 64 (bm 25 805) ?_
   refine zp 12 67 (bm 25 4901) ?_
   refine zp 13 68 (bm 25 13093) ?_
   refine zp 17 72 (bm 25 144165) ?_
   refine zp 19 74 (bm 25 668453) ?_
   refine zt 10 65 (bm 25 669477) rfl (by rintro w' ⟨s0, s1⟩; go_simp; with_reducible rfl) ?_
   refine zp 11 66 (bm 25 671525) ?_
   refine zt 14 69 (bm 25 687909) rfl (by rintro w' ⟨s0, s1⟩; go_simp; with_reducible rfl) ?_
   refine zp 15 70 (bm 25 720677) ?_
   refine zp 16 71 (bm 25 786213) ?_
   refine zt 18 73 (bm 25 1048357) rfl (by rintro w' ⟨s0, s1⟩; go_simp; with_reducible rfl) ?_
   refine zt 20 75 (bm 25 2096933) rfl (by rintro w' ⟨s0, s1⟩; go_simp; with_reducible rfl) ?_
   refine zp 21 76 (bm 25 4194085) ?_
   refine zp 22 77 (bm 25 8388389) ?_
   refine one_ (i := 1) (N := some 56) (bm 25 8388391) rfl rfl (one_of HT_.out (by kernel_rfl)) (by decide) (fun K hK => ?_)
   refine goes_ Try.func76 (by kernel_rfl) rfl #[.int .u32 v0, .int .i64 2] (by rfl) rfl rfl (by simp only [List.map_toArray, List.map_cons, List.map_nil]; rfl) ?_
   with_reducible refine (sha_turn_calls v0 2 (by decide) (by decide) _).mono ?_
   rintro e w3 ⟨rfl, ⟨nd, rfl⟩⟩
   refine ⟨_, rfl, ?_⟩
   refine hK.out _ _ ⟨hHeld.1, hHeld.2⟩ (fun hHeld => ?_)
   clear hK K
   refine norm_ (a' := ?_) ?_ ?_
   rotate_left
   ·show Act.put _ (some 56) _ = _
    simp only [Act.put, zq1, zq2, zq3, i64_w, i32_w]
    rfl
   refine one_ (i := 3) (N := some 58) (bm 25 8388399) rfl rfl (one_of HT_.out (by kernel_rfl)) (by decide) (fun K hK => ?_)
   refine goes_ Try.func76 (by kernel_rfl) rfl #[.int .u32 v0, .int .i64 13] (by rfl) rfl rfl (by simp only [List.map_toArray, List.map_cons, List.map_nil]; rfl) ?_
   with_reducible refine (sha_turn_calls v0 13 (by decide) (by decide) _).mono ?_
   rintro e w3 ⟨rfl, ⟨nd, rfl⟩⟩
   refine ⟨_, rfl, ?_⟩
   refine hK.out _ _ ⟨hHeld.1, hHeld.2⟩ (fun hHeld => ?_)
   clear hK K
   refine norm_ (a' := ?_) ?_ ?_
   rotate_left
   ·show Act.put _ (some 58) _ = _
    simp only [Act.put, zq1, zq2, zq3, i64_w, i32_w]
    rfl
   refine zp 4 59 (bm 25 8388415) ?_
   refine one_ (i := 6) (N := some 61) (bm 25 8388479) rfl rfl (one_of HT_.out (by kernel_rfl)) (by decide) (fun K hK => ?_)
   refine goes_ Try.func76 (by kernel_rfl) rfl #[.int .u32 v0, .int .i64 22] (by rfl) rfl rfl (by simp only [List.map_toArray, List.map_cons, List.map_nil]; rfl) ?_
   with_reducible refine (sha_turn_calls v0 22 (by decide) (by decide) _).mono ?_
   rintro e w3 ⟨rfl, ⟨nd, rfl⟩⟩
   refine ⟨_, rfl, ?_⟩
   refine hK.out _ _ ⟨hHeld.1, hHeld.2⟩ (fun hHeld => ?_)
   clear hK K
   refine norm_ (a' := ?_) ?_ ?_
   rotate_left
   ·show Act.put _ (some 61) _ = _
    simp only [Act.put, zq1, zq2, zq3, i64_w, i32_w]
    rfl
   refine zp 7 62 (bm 25 8388607) ?_
   refine zp 23 78 (bm 25 16777215) ?_
   refine zp 24 12 (bm 25 33554431) ?_
   refine done_ (done_of HT_.out (by kernel_rfl)) ?_
   try go_wp2
   refine start_ (n := 3) (S := fun w' => True) (ds := []) #[false, false, false] (by kernel_rfl) rfl rfl trivial (fun hHeld => ?_)
   refine pure_ (i := 0) (N := some 79) (v := ?_) (a' := ?_) #[true, false, false] rfl rfl (by kernel_rfl) (fun _ _ _ h => h) (Or.inl ⟨by rfl, ?_⟩) ?_ ?_
   rotate_left
   ·intro w'
    go_simp
    with_reducible rfl
   rotate_left
   ·simp only [Act.put, zq1, zq2, zq3, i64_w, i32_w]
    rfl
   refine pure_ (i := 1) (N := some 80) (v := ?_) (a' := ?_) #[true, true, false] rfl rfl (by kernel_rfl) (fun _ _ _ h => h) (Or.inl ⟨by rfl, ?_⟩) ?_ ?_
   rotate_left
   ·intro w'
    go_simp
    with_reducible rfl
   rotate_left
   ·simp only [Act.put, zq1, zq2, zq3, i64_w, i32_w]
    rfl
   refine one_ (i := 2) (N := some 81) #[true, true, true] rfl rfl (by kernel_rfl) (by decide) (fun K hK => ?_)
   refine step_copy_splice rfl (.tmp 79) (.tmp 80) 125 125 rfl 104 Try.underlying125 (by kernel_rfl) (some ⟨g7, 1, none⟩) (some ⟨g7, 0, none⟩) 7 7 7 8 rfl rfl g7 1 [.int .u32 v0, .int .u32 v1, .int .u32 v2, .int .u32 v3, .int .u32 v4, .int .u32 v5, .int .u32 v6, .int .u32 v7] 106 HV2.out [.int .u32 v0, .int .u32 v1, .int .u32 v2, .int .u32 v3, .int .u32 v4, .int .u32 v5, .int .u32 v6] rfl (fun _ => ⟨rfl, _, rfl, fun j v hj => ?_⟩) (by simp) (by simp [Value.oneCell']) g7 _ (Below.refl _ _) (Nat.le_refl _) ?_
   ·match j, hj with
    | 0, hj => cases hj; exact d0
    | 1, hj => cases hj; exact d1
    | 2, hj => cases hj; exact d2
    | 3, hj => cases hj; exact d3
    | 4, hj => cases hj; exact d4
    | 5, hj => cases hj; exact d5
    | 6, hj => cases hj; exact d6
   intro w12 hv12 hb12
   refine hK.out _ _ trivial (fun hHeld => ?_)
   clear hK K
   refine norm_ (a' := ?_) ?_ ?_
   rotate_left
   ·show Act.put _ (some 81) _ = _
    simp only [Act.put, zq1, zq2, zq3, i64_w, i32_w]
    rfl
   refine done_ (by kernel_rfl) ?_
   have HV12 : w12.heap[g7]? = some (.cells (u32s [v0, v0, v1, v2, v3, v4, v5, v6]) 106 (0, 0)) := hv12
   have HS12 := Aside0.mk ((hb12.block gs hgs7').trans HS.out)
   have HK12 := Aside0.mk ((hb12.block g5 hg57).trans HK.out)
   have HW12 := Aside0.mk ((hb12.block g6 hg67).trans HW.out)
   have HB12 : Aside0 (Below w.heap.size w w12) := ⟨Below.trans (by repeat (first | (with_reducible first | exact HB.out | apply pw_below_drewN | apply below_drew1) | exact HB.out)) (hb12.mono hgs7)⟩
   have f0 : w12.cell? ⟨g7, 0, none⟩ = some (.int .u32 v0) := (blk_cell HV12 0).trans rfl
   have f4 : w12.cell? ⟨g7, 4, none⟩ = some (.int .u32 v3) := (blk_cell HV12 4).trans rfl
   have z0 : w12.frozen? ⟨g7, 0, none⟩ = false := by simp [World.frozen?, HV12]
   have z4 : w12.frozen? ⟨g7, 4, none⟩ = false := by simp [World.frozen?, HV12]
   have HVX := Aside0.mk HV12
   clear hb12 hv12 d0 d1 d2 d3 d4 d5 d6 d7 dk dw HV12
   obtain ⟨xx, hxx⟩ : ∃ x_, IntKind.u32.wrap (IntKind.u32.wrap (IntKind.u32.wrap (IntKind.u32.wrap (v7 + Go.bits .xor .u32 (Go.bits .xor .u32 (sha_trn v4 6) (sha_trn v4 11)) (sha_trn v4 25)) + Go.bits .xor .u32 (Go.bits .and .u32 v4 v5) (Go.bits .andNot .u32 v6 v4)) + kt) + wt) = x_ := ⟨_, rfl⟩
   obtain ⟨yy, hyy⟩ : ∃ y_, IntKind.u32.wrap (Go.bits .xor .u32 (Go.bits .xor .u32 (sha_trn v0 2) (sha_trn v0 13)) (sha_trn v0 22) + Go.bits .xor .u32 (Go.bits .xor .u32 (Go.bits .and .u32 v0 v1) (Go.bits .and .u32 v0 v2)) (Go.bits .and .u32 v1 v2)) = y_ := ⟨_, rfl⟩
   have HXX := Aside0.mk hxx
   have HYY := Aside0.mk hyy
   rw [hxx, hyy]
   clear hxx hyy
   go_wp2
   refine ⟨⟨m + 1, rfl, hm1, ⟨?_⟩, ⟨(Below.heap_setCell _ _ _ g6 hne6).trans ((Below.heap_setCell _ _ _ g6 hne6).trans HW12.out)⟩, ⟨(Below.heap_setCell _ _ _ g5 hne5).trans ((Below.heap_setCell _ _ _ g5 hne5).trans HK12.out)⟩, ⟨(Below.heap_setCell _ _ _ gs hnes).trans ((Below.heap_setCell _ _ _ gs hnes).trans HS12.out)⟩, ⟨(HB12.out.setCell (p := ⟨g7, 0, none⟩) hgs7 _).setCell (p := ⟨g7, 4, none⟩) hgs7 _⟩⟩, hmu⟩
   have h9 := u32s_put (u32s_put HVX.out 0 ((xx + yy) % 4294967296)) 4 ((v3 + xx) % 4294967296)
   refine h9.trans ?_
   rw [sha_rs, HKT.out, HWT.out, HVS.out]
   show _ = some (Obj.cells (u32s [IntKind.u32.wrap (sha_x v4 v5 v6 v7 kt wt + sha_y v0 v1 v2), v0, v1, v2, IntKind.u32.wrap (v3 + sha_x v4 v5 v6 v7 kt wt), v4, v5, v6]) 106 (0, 0))
   rw [show sha_x v4 v5 v6 v7 kt wt = xx from HXX.out, show sha_y v0 v1 v2 = yy from HYY.out, IntKind.wrap_u32', IntKind.wrap_u32']
   rfl
  ·obtain rfl : m = 64 := by omega
   have c0 : decide (((64 : Nat) : Int) < 64) = false := by decide
   have hnes : gs ≠ g7 := by omega
   obtain ⟨vs, hvs⟩ : ∃ x_, sha_rs kk ws s 64 = x_ := ⟨_, rfl⟩
   have hvl : vs.length = 8 := by rw [← hvs]; exact sha_rs_len kk ws s hs8.out 64
   have hbk : sha_blk kk b s = sha_ad s vs 8 := by unfold sha_blk; rw [hws.out, hvs]
   rw [hvs] at HV
   have HBK := Aside0.mk hbk
   have HVL := Aside0.mk hvl
   have HG : Aside0 (w.grownBy wr (some gs)) := ⟨HB.out.os, HB.out.tape, HB.out.output, HB.out.size, fun k hk _ => HB.out.block k hk⟩
   clear hvs hbk hvl HW HK HB hm
   go_wp2
   go_loopw [92] (fun v w' => ∃ m : Nat, v = .int .i64 (m : Int) ∧ m ≤ 8 ∧ Aside0 (w'.heap[gs]? = some (.cells (u32s (sha_ad s vs m)) 106 (0, 0))) ∧ Aside0 (w'.heap[g7]? = some (.cells (u32s vs) 106 (0, 0))) ∧ Aside0 (w.grownBy w' (some gs))) (fun v _ => 8 - (intOf v).toNat)
   case atStart => exact ⟨0, rfl, by omega, HS, HV, HG⟩
   case round =>
    clear HV HS HG
    obtain ⟨m, rfl, hm, HS, HV, HG⟩ := hrel
    by_cases h8 : m < 8
    ·have c0 : decide ((m : Int) < 8) = true := decide_eq_true (by omega)
     have hm1 : m + 1 ≤ 8 := h8
     have hmu : 8 - (m + 1) < 8 - m := by omega
     have pm := eq_true (show (0 : Int) ≤ (m : Int) by omega)
     have qm := eq_true (show (m : Int) < 8 by omega)
     have ds : wr.cell? ⟨gs, m, none⟩ = some (.int .u32 (rd (sha_ad s vs m) m)) := u32s_cell HS.out (m : Int) (by omega) (by rw [sha_ad_len, hs8.out]; omega)
     have dv : wr.cell? ⟨g7, m, none⟩ = some (.int .u32 (rd vs m)) := u32s_cell HV.out (m : Int) (by omega) (by rw [HVL.out]; omega)
     have zs : wr.frozen? ⟨gs, m, none⟩ = false := by simp [World.frozen?, HS.out]
     have h9 := Aside0.mk (u32s_put (W := wr) HS.out m (IntKind.u32.wrap (rd (sha_ad s vs m) m + rd vs m)))
     have hw1 : wrap64 ((m : Int) + 1) = ((m + 1 : Nat) : Int) := by unfold wrap64; omega
     go_wp2
     refine start_ (n := 12) (S := fun w' => w'.cell? ⟨gs, m, none⟩ = some (.int .u32 (rd (sha_ad s vs m) m)) ∧ w'.cell? ⟨g7, m, none⟩ = some (.int .u32 (rd vs m))) (ds := [11]) (bm 12 0) (by kernel_rfl) rfl rfl ⟨ds, dv⟩ (fun hHeld => ?_)
     refine pure_ (i := 0) (N := some 95) (v := ?_) (a' := ?_) (bm 12 1) rfl rfl (by kernel_rfl) (fun _ _ _ h => h) (Or.inl ⟨by rfl, ?_⟩) ?_ ?_
     rotate_left
     ·intro w'
      go_simp
      with_reducible rfl
     rotate_left
     ·simp only [Act.put, zq1, zq2, zq3, i64_w, i32_w]
      rfl
     refine pure_ (i := 1) (N := some 96) (v := ?_) (a' := ?_) (bm 12 3) rfl rfl (by kernel_rfl) (fun _ _ _ h => h) (Or.inl ⟨by rfl, ?_⟩) ?_ ?_
     rotate_left
     ·intro w'
      go_simp
      with_reducible rfl
     rotate_left
     ·simp only [Act.put, zq1, zq2, zq3, i64_w, i32_w]
      rfl
     refine pure_ (i := 2) (N := some 97) (v := ?_) (a' := ?_) (bm 12 7) rfl rfl (by kernel_rfl) (fun _ _ _ h => h) (Or.inl ⟨by rfl, ?_⟩) ?_ ?_
     rotate_left
     ·intro w'
      go_simp
      with_reducible rfl
     rotate_left
     ·simp only [Act.put, zq1, zq2, zq3, i64_w, i32_w]
      rfl
     refine pure_ (i := 3) (N := some 98) (v := ?_) (a' := ?_) (bm 12 15) rfl rfl (by kernel_rfl) (fun _ _ _ h => h) (Or.inl ⟨by rfl, ?_⟩) ?_ ?_
     rotate_left
     ·intro w'
      go_simp
      with_reducible rfl
     rotate_left
     ·simp only [Act.put, zq1, zq2, zq3, i64_w, i32_w]
      rfl
     refine pure_ (i := 5) (N := some 100) (v := ?_) (a' := ?_) (bm 12 47) rfl rfl (by kernel_rfl) (fun _ _ _ h => h) (Or.inl ⟨by rfl, ?_⟩) ?_ ?_
     rotate_left
     ·intro w'
      go_simp
      with_reducible rfl
     rotate_left
     ·simp only [Act.put, zq1, zq2, zq3, i64_w, i32_w]
      rfl
     refine pure_ (i := 6) (N := some 101) (v := ?_) (a' := ?_) (bm 12 111) rfl rfl (by kernel_rfl) (fun _ _ _ h => h) (Or.inl ⟨by rfl, ?_⟩) ?_ ?_
     rotate_left
     ·intro w'
      go_simp
      with_reducible rfl
     rotate_left
     ·simp only [Act.put, zq1, zq2, zq3, i64_w, i32_w]
      rfl
     refine pure_ (i := 9) (N := some 104) (v := ?_) (a' := ?_) (bm 12 623) rfl rfl (by kernel_rfl) (fun _ _ _ h => h) (Or.inl ⟨by rfl, ?_⟩) ?_ ?_
     rotate_left
     ·intro w'
      go_simp
      with_reducible rfl
     rotate_left
     ·simp only [Act.put, zq1, zq2, zq3, i64_w, i32_w]
      rfl
     refine take_ (i := 4) (N := some 99) (v := ?_) (a' := ?_) (bm 12 639) rfl rfl (by kernel_rfl) (fun _ _ _ h => h) (Or.inl ⟨by rfl, ?_⟩) hHeld ?_ ?_
     rotate_left
     ·rintro w' ⟨s0, s1⟩
      go_simp
      with_reducible rfl
     rotate_left
     ·simp only [Act.put, zq1, zq2, zq3, i64_w, i32_w]
      rfl
     refine take_ (i := 7) (N := some 102) (v := ?_) (a' := ?_) (bm 12 767) rfl rfl (by kernel_rfl) (fun _ _ _ h => h) (Or.inl ⟨by rfl, ?_⟩) hHeld ?_ ?_
     rotate_left
     ·rintro w' ⟨s0, s1⟩
      go_simp
      with_reducible rfl
     rotate_left
     ·simp only [Act.put, zq1, zq2, zq3, i64_w, i32_w]
      rfl
     refine pure_ (i := 8) (N := some 103) (v := ?_) (a' := ?_) (bm 12 1023) rfl rfl (by kernel_rfl) (fun _ _ _ h => h) (Or.inl ⟨by rfl, ?_⟩) ?_ ?_
     rotate_left
     ·intro w'
      go_simp
      with_reducible rfl
     rotate_left
     ·simp only [Act.put, zq1, zq2, zq3, i64_w, i32_w]
      rfl
     refine pure_ (i := 10) (N := some 105) (v := ?_) (a' := ?_) (bm 12 2047) rfl rfl (by kernel_rfl) (fun _ _ _ h => h) (Or.inl ⟨by rfl, ?_⟩) ?_ ?_
     rotate_left
     ·intro w'
      go_simp
      with_reducible rfl
     rotate_left
     ·simp only [Act.put, zq1, zq2, zq3, i64_w, i32_w]
      rfl
     refine last_ (i := 11) (N := none) (bm 12 4095) rfl rfl (by kernel_rfl) (by decide) (fun K hK => ?_)
     refine skip_ (w1 := ?_) (by rfl) rfl ?_ ?_
     rotate_left
     ·go_simp
      rfl
     refine hK.out _ _ ?_
     clear hK K
     refine done_ (by kernel_rfl) ?_
     go_wp2
     refine ⟨⟨m + 1, rfl, hm1, ⟨?_⟩, ⟨(Below.heap_setCell _ _ _ g7 (Ne.symm hnes)).trans HV.out⟩, ⟨⟨HG.out.os, HG.out.tape, HG.out.output, (by simpa using HG.out.size), fun k hk hne => (Below.heap_setCell wr _ _ k (fun e => hne (by rw [e]))).trans (HG.out.block k hk hne)⟩⟩⟩, hmu⟩
     have h8 := h9.out
     rw [IntKind.wrap_u32'] at h8
     rw [sha_ad, IntKind.wrap_u32']
     exact h8
    ·obtain rfl : m = 8 := by omega
     have c0 : decide (((8 : Nat) : Int) < 8) = false := by decide
     go_wp2
     go_end0
     exact ⟨⟨_, rfl⟩, by rw [HBK.out]; exact HS.out, HG.out⟩
mutual
def sha_pad.l0 : Nat → ByteArray → Int → List Int → Option (ByteArray)
 | 0, _, _, _ => none
 | k + 1, x0, x3, x4 => if (Int.tmod (wrap64 ((x0.size : Int) + (x4.length : Int))) 64) = 56 then (sha_pad.l1 k x0 x3 x4 56) else (if x4.length < 140737488355328 then (sha_pad.l0 k x0 x3 (x4 ++ [0])) else (none))
def sha_pad.l1 : Nat → ByteArray → Int → List Int → Int → Option (ByteArray)
 | 0, _, _, _, _ => none
 | k + 1, x0, x3, x4, x5 => if x5 ≥ 0 then (if 0 ≤ x5 then (if x4.length < 140737488355328 then (sha_pad.l1 k x0 x3 (x4 ++ [(shr .u64 x3 x5) % 256]) (wrap64 (x5 - 8))) else (none)) else (none)) else (if x0.size + (strOfNums x4).size ≤ 9223372036854775807 then (some (x0 ++ (strOfNums x4))) else (none))
end
def sha_pad.f (k : Nat) (a0 : ByteArray) : Option (ByteArray) := sha_pad.l0 k a0 (IntKind.u64.wrap ((IntKind.u64.wrap ((a0.size : Int))) * 8)) (([128] : List Int))
def sha_H0 : List Int := [1779033703, 3144134277, 1013904242, 2773480762, 1359893119, 2600822924, 528734635, 1541459225]
theorem sha_begin_calls (w : World) : Calls Try.prog 60 #[] w fun e w' => e = .returned (.agg (u32s sha_H0)) ∧ Below w.heap.size w w' := sha_begin.calls _ _ _ _ _ _ _ _ w rfl
def sha_run (all : ByteArray) : Nat → List Int
 | 0 => sha_H0
 | m + 1 => sha_blk sha_K (all.extract (64 * m) (64 * m + 64)) (sha_run all m)
theorem sha_blk_len (kk : List Int) (b : ByteArray) (s : List Int) : (sha_blk kk b s).length = s.length := by unfold sha_blk; rw [sha_ad_len]
theorem sha_run_len (all : ByteArray) : ∀ m, (sha_run all m).length = 8
 | 0 => rfl
 | m + 1 => by rw [sha_run, sha_blk_len, sha_run_len all m]
def sha_b4 (x : Int) : List Int := [x / 16777216 % 256, x / 65536 % 256, x / 256 % 256, x % 256]
def sha_out (h : List Int) : Nat → List Int
 | 0 => []
 | m + 1 => sha_out h m ++ sha_b4 (rd h m)
theorem sha_out_len (h : List Int) : ∀ m, (sha_out h m).length = 4 * m
 | 0 => rfl
 | m + 1 => by rw [sha_out, List.length_append, sha_out_len h m]; simp [sha_b4]; omega
set_option maxRecDepth 100000 in
theorem sha_ix (h : List Int) (hl : h.length = 8) (m : Nat) (hm : m < 8) (w : World) : (Instr.index 106 (.agg (u32s h)) (.int .i64 (m : Int))).run Try.prog w = .ok (.int .u32 (rd h m)) w := by
 obtain ⟨a, b, c, d, e, f, g, i, rfl⟩ := sha_len8 h hl
 obtain h | h | h | h | h | h | h | h : m = 0 ∨ m = 1 ∨ m = 2 ∨ m = 3 ∨ m = 4 ∨ m = 5 ∨ m = 6 ∨ m = 7 := by omega
 all_goals subst h; rfl
def sha_Sum.f (k : Nat) (a0 : ByteArray) : Option ByteArray := (sha_pad.f k a0).bind fun all => if all.size % 64 = 0 ∧ all.size < 4611686018427387904 then some (strOfNums (sha_out (sha_run all (all.size / 64)) 8)) else none
section
attribute [local go_sem] Oper.semAt_some
set_option maxHeartbeats 40000000 in
set_option maxRecDepth 100000 in
theorem sha_Sum.calls (k : Nat) (a0 : ByteArray) (r : ByteArray) (w : World) (h : sha_Sum.f k a0 = some r) :
  Calls Try.prog 45 #[.string a0] w fun e w' => e = .returned (.string r) ∧ Below w.heap.size w w' := by
 obtain ⟨all, hall, hr⟩ := Option.bind_eq_some_iff.mp h
 clear h
 by_cases hc : all.size % 64 = 0 ∧ all.size < 4611686018427387904
 rotate_left
 ·rw [if_neg hc] at hr
  exact absurd hr (by simp)
 rw [if_pos hc] at hr
 obtain ⟨s0, hs0_, hl0_, hbeg_⟩ : ∃ s0, sha_run all 0 = s0 ∧ s0.length = 8 ∧ ∀ w, Calls Try.prog 60 #[] w fun e w' => e = .returned (.agg (u32s s0)) ∧ Below w.heap.size w w' := ⟨_, rfl, rfl, sha_begin_calls⟩
 obtain ⟨kk, hkk_, hlk_, hcon_⟩ : ∃ kk, sha_K = kk ∧ kk.length = 64 ∧ ∀ w, Calls Try.prog 61 #[] w fun e w' => e = .returned (.agg (u32s kk)) ∧ Below w.heap.size w w' := ⟨_, rfl, rfl, sha_constants_calls⟩
 have hS0 := Aside0.mk hs0_
 have hL0 := Aside0.mk hl0_
 have hBEG := Aside0.mk hbeg_
 have hKK := Aside0.mk hkk_
 have hLK := Aside0.mk hlk_
 have hCON := Aside0.mk hcon_
 have hRR := Aside0.mk (Option.some.inj hr)
 have hSZ := Aside0.mk hc
 have h : sha_pad.f k a0 = some all := hall
 clear hall hr hc hs0_ hl0_ hbeg_ hkk_ hlk_ hcon_
 have HB := Aside0.mk (Below.refl w.heap.size w)
 have H : (sha_pad.l0 k a0 (IntKind.u64.wrap ((IntKind.u64.wrap ((a0.size : Int))) * 8)) (([128] : List Int))) = some all := h
 clear h
 obtain ⟨y102, hy102⟩ : ∃ y_ : List Int, y_ = (([128] : List Int)) := ⟨_, rfl⟩
 replace H : (sha_pad.l0 k a0 (IntKind.u64.wrap ((IntKind.u64.wrap ((a0.size : Int))) * 8)) y102) = some all := by first | (rw [hy102]; with_reducible exact H) | (have H2_ := (Option.bind_some _ _).symm.trans H; rw [hy102]; with_reducible exact H2_) | (have H2_ := (Option.bind_some _ _).symm.trans H; with_reducible exact H2_) | with_reducible exact H | (rw [hy102]; exact H) | exact H
 have Ny102 := Aside0.mk hy102
 clear hy102
 have H' := Aside0.mk H
 clear H
 go_enter Try.func45, Try.ntmps45
 go_wp2_with (first | ((with_reducible refine gate_dst (N := 17) rfl ?_); refine Kd.R_lit (Kd.int .u8) _ 5 ?hg (N := 17) ?hd (xs := ([128] : List Int)) (inner := [.int .u8 128]) (ok := fun _ => True) (okp := fun _ => True) ?hr ?hp (fun _ hk => hk) trivial (Below.refl _ _) (Nat.le_refl _) (by simp) ?_; (case hd => rfl); (case hg => rfl); (case hr => first | (go_simp; done) | (go_simp; rfl)); (case hp => exact (Reps.one (show Kd.M (Kd.int .u8) _ _ _ 128 [.int .u8 128] from rfl) (Reps.none _ _))); intro v103 w2 ho3 hb hg_ hnew_; clear hg_ hnew_; (first | rw [← Ny102.out] at ho3 | (simp only [Int.reduceToNat] at ho3; rw [← Ny102.out] at ho3)); have n0_ := Aside0.mk (Kd.R_lower ho3 (below_size (hz HB))); have n1_ := Aside0.mk (below_step (hz HB) hb); clear HB; have HO104 := n0_; have HB := n1_; clear n0_ n1_; clear hb ho3))
 go_loopg [4] k (fun kq v4 w' => ∃ (x4_1 : List Int), Aside0 (sha_pad.l0 kq a0 (IntKind.u64.wrap ((IntKind.u64.wrap ((a0.size : Int))) * 8)) x4_1 = some all) ∧ Aside0 (kq ≤ k) ∧ Aside0 (Kd.R (Kd.int .u8) 5 w' w.heap.size (fun _ => True) v4 x4_1) ∧ Aside0 (Below w.heap.size w w'))
 case atStart => exact ⟨(y102), H', ⟨Nat.le_refl _⟩, ⟨oz HO104⟩, ⟨hz HB⟩⟩
 case round =>
  clear H'
  obtain ⟨x4_1, HA, HK1, HO_4, HB⟩ := hrel
  cases gk with
  | zero => exact absurd HA.out (by simp [sha_pad.l0])
  | succ k1 =>
   have H := HA.out
   clear HA
   simp only [sha_pad.l0] at H
   by_cases c4 : (Int.tmod (wrap64 ((a0.size : Int) + (x4_1.length : Int))) 64) = 56
   ·rw [if_pos c4] at H
    have c4b0 : ((Int.tmod (wrap64 ((a0.size : Int) + (x4_1.length : Int))) 64) == 56) = true := beq_iff_eq.mpr c4
    have c4b1 : ((Int.tmod (wrap64 ((a0.size : Int) + (x4_1.length : Int))) 64) != 56) = false := bne_eq_false_iff_eq.mpr c4
    clear c4
    have H' := Aside0.mk H
    clear H
    obtain ⟨Ao5, co5, eo5⟩ := Kd.R_slice HO_4.out
    subst eo5
    go_wp2
    go_loopg [4, 5] k1 (fun kq v4 v5 w' => ∃ (x4_2 : List Int) (x5_2 : Int), v5 = .int .i64 x5_2 ∧ Aside0 (sha_pad.l1 kq a0 (IntKind.u64.wrap ((IntKind.u64.wrap ((a0.size : Int))) * 8)) x4_2 x5_2 = some all) ∧ Aside0 (kq ≤ k1) ∧ Aside0 (Kd.R (Kd.int .u8) 5 w' w.heap.size (fun _ => True) v4 x4_2) ∧ Aside0 (Below w.heap.size w w'))
    case atStart => exact ⟨(x4_1), (56), (by first | rfl | (simp; done) | (simp [*]; done)), H', ⟨Nat.le_refl _⟩, ⟨oz HO_4⟩, ⟨hz HB⟩⟩
    case round =>
     clear H'
     try clear c4
     try clear c4b0
     try clear c4b1
     obtain ⟨x4_2, x5_2, rfl, HA, HK2, HO_4, HB⟩ := hrel
     cases gk with
     | zero => exact absurd HA.out (by simp [sha_pad.l1])
     | succ k2 =>
      have H := HA.out
      clear HA
      simp only [sha_pad.l1] at H
      by_cases c6 : x5_2 ≥ 0
      ·rw [if_pos c6] at H
       have c6b0 : decide (0 ≤ x5_2) = true := decide_eq_true c6
       clear c6
       by_cases c7 : 0 ≤ x5_2
       ·rw [if_pos c7] at H
        have c7b0 := eq_true c7
        have c7b1 : decide (0 ≤ x5_2) = true := decide_eq_true c7
        clear c7
        obtain ⟨ji8, hji8⟩ : ∃ j_ : Int, (shr .u64 (IntKind.u64.wrap ((IntKind.u64.wrap ((a0.size : Int))) * 8)) x5_2) = j_ := ⟨_, rfl⟩
        replace H : (if x4_2.length < 140737488355328 then (sha_pad.l1 k2 a0 (IntKind.u64.wrap ((IntKind.u64.wrap ((a0.size : Int))) * 8)) (x4_2 ++ [(ji8) % 256]) (wrap64 (x5_2 - 8))) else (none)) = some all := by first | (rw [hji8] at H; exact H) | (simp only [hji8] at H ⊢; exact H)
        have hji8_ : ((IntKind.u64.wrap ((IntKind.u64.wrap ((a0.size : Int))) * 8)) / 2 ^ min x5_2.toNat 64) = ji8 := hji8
        have hji8z : x5_2 ≤ 64 → ((IntKind.u64.wrap ((IntKind.u64.wrap ((a0.size : Int))) * 8)) / 2 ^ x5_2.toNat) = ji8 := shr_small hji8
        by_cases c9 : x4_2.length < 140737488355328
        ·rw [if_pos c9] at H
         have LMc9 := Aside0.mk c9
         clear c9
         obtain ⟨y108, hy108⟩ : ∃ y_ : List Int, y_ = (x4_2 ++ [(ji8) % 256]) := ⟨_, rfl⟩
         replace H : (sha_pad.l1 k2 a0 (IntKind.u64.wrap ((IntKind.u64.wrap ((a0.size : Int))) * 8)) y108 (wrap64 (x5_2 - 8))) = some all := by first | (rw [hy108]; with_reducible exact H) | (have H2_ := (Option.bind_some _ _).symm.trans H; rw [hy108]; with_reducible exact H2_) | (have H2_ := (Option.bind_some _ _).symm.trans H; with_reducible exact H2_) | with_reducible exact H | (rw [hy108]; exact H) | exact H
         have Ny108 := Aside0.mk hy108
         clear hy108
         have H' := Aside0.mk H
         clear H
         go_wp2_with (first | ((with_reducible refine gate_builtin (b := .append) (xs := #[.tmp 32, .tmp 37]) rfl ?_); at_builtin; refine Kd.R_append (Kd.int .u8) (w0 := w) w.heap.size rfl (.tmp 32) (.tmp 37) 83 5 (.int .u8 0) 1 rfl Try.underlying83 info5 rfl (by decide) (by omega) u4 x4_2 ((ji8) % 256) [.int .u8 ((ji8) % 256)] (fun _ => True) (fun _ => False) rfl rfl ?aP (fun _ hk => hk.elim) ?aF ?aO ?aB ?aS ?aL ?_; (case aP => exact rfl); (case aB => exact (hz HB)); (case aF => exact (fun _ _ => trivial)); (case aO => exact (oz HO_4)); (case aS => exact (below_size (hz HB))); (case aL => have := LMc9.out; omega); intro v109 w10 ho hb hg hat; rw [← Ny108.out] at ho; have n0_ := Aside0.mk (hb); have n1_ := Aside0.mk (ho); clear HB; clear HO_4; have HB := n0_; have HO110 := n1_; clear n0_ n1_; clear ho hb hg hat))
         go_roundg k2
         case measure => have := HK1.out; have := HK2.out; omega
         case rel => exact ⟨(y108), (wrap64 (x5_2 - 8)), (by first | rfl | (simp; done) | (simp [*]; done)), H', ⟨by have := HK1.out; have := HK2.out; omega⟩, ⟨oz HO110⟩, ⟨hz HB⟩⟩
        ·rw [if_neg c9] at H
         exact absurd H (by simp)
       ·rw [if_neg c7] at H
        exact absurd H (by simp)
      ·rw [if_neg c6] at H
       have c6b0 : decide (0 ≤ x5_2) = false := decide_eq_false c6
       clear c6
       by_cases c11 : a0.size + (strOfNums x4_2).size ≤ 9223372036854775807
       ·rw [if_pos c11] at H
        have c11b0 := eq_true c11
        have c11b1 : decide (a0.size + (strOfNums x4_2).size ≤ 9223372036854775807) = true := decide_eq_true c11
        try have c11b2 : (9223372036854775807 < a0.size + (strOfNums x4_2).size) = False := eq_false (Nat.not_lt.2 c11)
        have hallq := Option.some.inj H
        have HW := Aside0.mk (Below.refl wr.heap.size wr)
        go_upto_region 10 with (first | ((with_reducible refine gate_callee (f := 60) rfl ?_); refine goesL_ (some 39) rfl rfl Try.func60 (by kernel_rfl) rfl #[] rfl (by (try simp only [List.map_toArray, List.map_cons, List.map_nil]); first | done | rfl) ?_; (with_reducible refine (hBEG.out _).mono ?_); rintro e w20 ⟨rfl, hb⟩; refine ⟨_, rfl, ?_⟩; have n1_ := Aside0.mk (below_step (hz HB) hb); have n2_ := Aside0.mk (below_step HW.out hb); clear HB HW hb; have HB := n1_; have HW := n2_; clear n1_ n2_) | ((with_reducible refine gate_callee (f := 61) rfl ?_); refine goesL_ (some 40) rfl rfl Try.func61 (by kernel_rfl) rfl #[] rfl (by (try simp only [List.map_toArray, List.map_cons, List.map_nil]); first | done | rfl) ?_; (with_reducible refine (hCON.out _).mono ?_); rintro e w21 ⟨rfl, hb⟩; refine ⟨_, rfl, ?_⟩; have n1_ := Aside0.mk (below_step (hz HB) hb); have n2_ := Aside0.mk (below_step HW.out hb); clear HB HW hb; have HB := n1_; have HW := n2_; clear n1_ n2_) | ((with_reducible refine gate_dst (N := 6) rfl ?_); refine box_event ?hg (N := 6) ?hd (cs := sha_zero8) (t := 106) ?hr ?_; (case hd => rfl); (case hg => rfl); (case hr => first | (go_simp; done) | (go_simp; rfl)); intro g6 hg w22 hbox hb; have G22 := Aside0.mk hg; have HB22 := Aside0.mk hb; have BX22 := Aside0.mk hbox; clear hb hbox hg) | ((with_reducible refine gate_dst (N := 7) rfl ?_); refine box_event ?hg (N := 7) ?hd (cs := sha_zero) (t := 108) ?hr ?_; (case hd => rfl); (case hg => rfl); (case hr => first | (go_simp; done) | (go_simp; rfl)); intro g7 hg w23 hbox hb; have G23 := Aside0.mk hg; have HB23 := Aside0.mk hb; have BX23 := Aside0.mk hbox; clear hb hbox hg) | ((with_reducible refine gate_store (t := 106) (p := 6) rfl ?_); have hlt6 := (Array.getElem?_eq_some_iff.1 BX22.out).1; have hlt7 := (Array.getElem?_eq_some_iff.1 BX23.out).1; have q1 : (Option.map (·.size) (Try.prog.info? 106)) = some (u32s s0).size := (by rw [u32s_size, hL0.out]; exact sha_i32); have q2 : sha_zero8.size = (u32s s0).size := (by rw [u32s_size, hL0.out]; first | done | rfl); refine wpList_store_row rfl 106 _ _ rfl g6 (u32s s0) rfl rfl 106 _ ((HB23.out.block g6 hlt6).trans BX22.out) q1 q2 (u32s_one _) ?_; clear q1 q2; have hg67 : g6 < g7 := (by rw [G23.out]; exact hlt6); have lw := HB.out.size; have lw2 := HB22.out.size; have hgw : w.heap.size ≤ g6 := (by rw [G22.out]; exact lw); have HS24 := Aside0.mk (setRow_heap _ g6 _ (u32s s0) 106 (0, 0) ((HB23.out.block g6 hlt6).trans BX22.out)); have HK24 := Aside0.mk ((setRow_other w23 g6 g7 (u32s s0) (by omega)).trans BX23.out); have lwr := HW.out.size; have HW24 := Aside0.mk (below_setRow (((HW.out.trans (HB22.out.mono lwr)).trans (HB23.out.mono (by omega))) : Below wr.heap.size wr w23) (g := g6) (by rw [G22.out]; exact lwr) (u32s s0)); have HB24 := Aside0.mk (below_setRow (((HB.out.trans (HB22.out.mono lw)).trans (HB23.out.mono (by omega))) : Below w.heap.size w w23) (g := g6) hgw (u32s s0)); generalize w23.setRow g6 (u32s s0) = w24 at HS24 HK24 HB24 HW24 ⊢; have hgwr : wr.heap.size ≤ g6 := (by rw [G22.out]; exact lwr); clear HB HW HB22 HB23 BX22 BX23 G22 G23 hlt6 hlt7 lw lw2 lwr) | ((with_reducible refine gate_store (t := 108) (p := 7) rfl ?_); have q1 : (Option.map (·.size) (Try.prog.info? 108)) = some (u32s kk).size := (by rw [u32s_size, hLK.out]; exact sha_i34); have q2 : sha_zero.size = (u32s kk).size := (by rw [sha_zero_eq, u32s_size, u32s_size, hLK.out]; simp); refine wpList_store_row rfl 108 _ _ rfl g7 (u32s kk) rfl rfl 108 _ HK24.out q1 q2 (u32s_one _) ?_; clear q1 q2; have HS25 := Aside0.mk ((setRow_other w24 g7 g6 (u32s kk) (by omega)).trans HS24.out); have HK25 := Aside0.mk (setRow_heap _ g7 _ (u32s kk) 108 (0, 0) HK24.out); have HB25 := Aside0.mk (below_setRow HB24.out (g := g7) (by omega) (u32s kk)); have HW25 := Aside0.mk (below_setRow HW24.out (g := g7) (by omega) (u32s kk)); generalize w24.setRow g7 (u32s kk) = w25 at HS25 HK25 HB25 HW25 ⊢; clear HS24 HK24 HB24 HW24))
        have HO_5 := Aside0.mk (Kd.R_below HO_4.out HW25.out)
        clear HW25 HO_4
        have hcv12 := own_string (P := Try.prog) Try.underlying83 Try.underlying5 Try.underlying9 (Kd.own_of_R HO_5.out)
        go_wp2
        skip
        clear hallq
        obtain ⟨n, hn⟩ : ∃ n : Nat, all.size = 64 * n := ⟨all.size / 64, by have := hSZ.out; omega⟩
        have hN := Aside0.mk hn
        have hn62 : 64 * n < 4611686018427387904 := by have := hSZ.out; omega
        clear hn
        rw [← hS0.out] at HS25
        go_loopw [9] (fun v w' => ∃ (m : Nat) (x : Int), v = .int .i64 x ∧ Aside0 (x = 64 * (m : Int)) ∧ Aside0 (m ≤ n) ∧ Aside0 (w'.heap[g6]? = some (.cells (u32s (sha_run all m)) 106 (0, 0))) ∧ Aside0 (w'.heap[g7]? = some (.cells (u32s kk) 108 (0, 0))) ∧ Aside0 (Below w.heap.size w w')) (fun v _ => 64 * n - (intOf v).toNat)
        case atStart => exact ⟨0, 0, rfl, ⟨rfl⟩, ⟨Nat.zero_le _⟩, HS25, HK25, HB25⟩
        case round =>
         clear HS25 HK25 HB25
         obtain ⟨m, x, rfl, hx, hm, HS, HK, HB⟩ := hrel
         by_cases hmn : m < n
         ·have hxx := hx.out
          have e1 : (all.size : Int) = 64 * (n : Int) := by rw [hN.out]; omega
          have c0 : decide (x < (all.size : Int)) = true := decide_eq_true (by omega)
          obtain ⟨y, hy⟩ : ∃ y_, wrap64 (x + 64) = y_ := ⟨_, rfl⟩
          have hyw : IntKind.i64.wrap (x + 64) = y := (i64_w _).trans hy
          have ey : y = x + 64 := by rw [← hy]; unfold wrap64; omega
          have p1 := eq_true (show 0 ≤ x by omega)
          have p2 := eq_true (show x ≤ y by omega)
          have p3 := eq_true (show y ≤ (all.size : Int) by omega)
          have p4 := eq_true (show 0 ≤ y by omega)
          have HX64 : Aside0 ((all.extract x.toNat y.toNat).size = 64) := ⟨by rw [ByteArray.size_extract, hN.out]; omega⟩
          have HEX : Aside0 (all.extract x.toNat y.toNat = all.extract (64 * m) (64 * m + 64)) := ⟨by congr 1 <;> omega⟩
          have HY : Aside0 (y = 64 * ((m + 1 : Nat) : Int)) := ⟨by omega⟩
          have HM : Aside0 (m + 1 ≤ n) := ⟨hmn⟩
          have HMU : Aside0 (64 * n - y.toNat < 64 * n - x.toNat) := ⟨by omega⟩
          have HSd : Aside0 (wr.drew.heap[g6]? = some (.cells (u32s (sha_run all m)) 106 (0, 0))) := ⟨HS.out⟩
          clear hxx e1 ey
          go_wp2
          refine start_ (n := 7) (S := fun w' => True) (ds := [6]) (bm 7 0) (by kernel_rfl) rfl rfl trivial (fun hHeld => ?_)
          refine pure_ (i := 0) (N := some 51) (v := ?_) (a' := ?_) (bm 7 1) rfl rfl (by kernel_rfl) (fun _ _ _ h => h) (Or.inl ⟨by rfl, ?_⟩) ?_ ?_
          rotate_left
          ·intro w'
           go_simp
           with_reducible rfl
          rotate_left
          ·simp only [Act.put, zq1, zq2, zq3, i64_w, i32_w]
           rfl
          refine pure_ (i := 1) (N := some 52) (v := ?_) (a' := ?_) (bm 7 3) rfl rfl (by kernel_rfl) (fun _ _ _ h => h) (Or.inl ⟨by rfl, ?_⟩) ?_ ?_
          rotate_left
          ·intro w'
           go_simp
           with_reducible rfl
          rotate_left
          ·simp only [Act.put, zq1, zq2, zq3, i64_w, i32_w]
           rfl
          refine pure_ (i := 2) (N := some 53) (v := ?_) (a' := ?_) (bm 7 7) rfl rfl (by kernel_rfl) (fun _ _ _ h => h) (Or.inl ⟨by rfl, ?_⟩) ?_ ?_
          rotate_left
          ·intro w'
           go_simp
           with_reducible rfl
          rotate_left
          ·simp only [Act.put, zq1, zq2, zq3, i64_w, i32_w]
           rfl
          refine pure_ (i := 3) (N := some 54) (v := ?_) (a' := ?_) (bm 7 15) rfl rfl (by kernel_rfl) (fun _ _ _ h => h) (Or.inl ⟨by rfl, ?_⟩) ?_ ?_
          rotate_left
          ·intro w'
           go_simp
           with_reducible rfl
          rotate_left
          ·simp only [Act.put, zq1, zq2, zq3, i64_w, i32_w]
           rfl
          refine pure_ (i := 4) (N := some 55) (v := ?_) (a' := ?_) (bm 7 31) rfl rfl (by kernel_rfl) (fun _ _ _ h => h) (Or.inl ⟨by rfl, ?_⟩) ?_ ?_
          rotate_left
          ·intro w'
           go_simp
           with_reducible rfl
          rotate_left
          ·simp only [Act.put, zq1, zq2, zq3, i64_w, i32_w]
           rfl
          refine one_ (i := 5) (N := some 56) (bm 7 63) rfl rfl (by kernel_rfl) (by decide) (fun K hK => ?_)
          rw [if_pos (by rfl)]
          refine wp_load_row 108 (.tmp 7) rfl g7 rfl 108 _ (0, 0) _ HK.out Try.underlying108 rfl (by rw [u32s_size, hLK.out]; exact sha_i34) ?_
          refine hK.out _ _ trivial (fun hHeld => ?_)
          clear hK K
          refine norm_ (a' := ?_) ?_ ?_
          rotate_left
          ·show Act.put _ (some 56) _ = _
           simp only [Act.put, zq1, zq2, zq3, i64_w, i32_w]
           rfl
          refine last_ (i := 6) (N := some 57) (bm 7 127) rfl rfl (by kernel_rfl) (by decide) (fun K hK => ?_)
          refine goes_ Try.func62 (by kernel_rfl) rfl #[.pointer (some ⟨g6, 0, none⟩), .string (all.extract x.toNat y.toNat), .agg (u32s kk)] (by rfl) rfl rfl (by simp only [List.map_toArray, List.map_cons, List.map_nil]; rfl) ?_
          with_reducible refine (sha_block_calls g6 (sha_run all m) kk _ (sha_run_len all m) hLK.out HX64.out _ HSd.out).mono ?_
          rintro e w30 ⟨⟨vv, rfl⟩, hs30, hg30⟩
          refine ⟨_, rfl, ?_⟩
          refine hK.out _ _ ?_
          clear hK K
          refine norm_ (a' := ?_) ?_ ?_
          rotate_left
          ·show Act.put _ (some 57) _ = _
           simp only [Act.put, zq1, zq2, zq3, i64_w, i32_w]
           rfl
          refine done_ (by kernel_rfl) ?_
          have l7 := (Array.getElem?_eq_some_iff.1 HK.out).1
          have hgw' : ∀ k, k < w.heap.size → some k ≠ some g6 := fun k hk e => by injection e with e; omega
          have h76 : some g7 ≠ some g6 := fun e => by injection e with e; omega
          have HK30 := Aside0.mk ((hg30.block g7 l7 h76).trans HK.out)
          have HB30 : Aside0 (Below w.heap.size w w30) := ⟨hg30.os.trans HB.out.os, hg30.tape.trans HB.out.tape, hg30.output.trans HB.out.output, Nat.le_trans HB.out.size hg30.size, fun k hk => (hg30.block k (Nat.lt_of_lt_of_le hk HB.out.size) (hgw' k hk)).trans (HB.out.block k hk)⟩
          have HS30 : Aside0 (w30.heap[g6]? = some (.cells (u32s (sha_run all (m + 1))) 106 (0, 0))) := ⟨by rw [sha_run, hKK.out, ← HEX.out]; exact hs30⟩
          clear hg30 hs30 l7 hgw' h76
          go_wp2
          go_roundw
          case rel => exact ⟨m + 1, _, rfl, HY, HM, HS30, HK30, HB30⟩
          case measure => exact HMU.out
         ·obtain rfl : m = n := by have := hm.out; omega
          have hxx := hx.out
          have e1 : (all.size : Int) = 64 * (m : Int) := by rw [hN.out]; omega
          have c0 : decide (x < (all.size : Int)) = false := decide_eq_false (by omega)
          obtain ⟨hh, hhh⟩ : ∃ h_, sha_run all m = h_ := ⟨_, rfl⟩
          have hhl : hh.length = 8 := by rw [← hhh]; exact sha_run_len all m
          have HHL := Aside0.mk hhl
          have HRQ : Aside0 (r = strOfNums (sha_out hh 8)) := ⟨by rw [← hRR.out, ← hhh, show all.size / 64 = m by rw [hN.out]; omega]⟩
          rw [hhh] at HS
          clear hhh hhl hxx e1
          go_wp2_with (first | ((with_reducible refine gate_ (.load 106 (.tmp 6)) rfl ?_); refine wpList_load_row rfl 106 _ rfl g6 rfl 106 _ (0, 0) _ HS.out Try.underlying106 rfl (by rw [u32s_size, HHL.out]; exact sha_i32) ?_))
          go_loopw [10, 59] (fun v10 v59 w' => ∃ (m : Nat), v59 = .int .i64 (m : Int) ∧ m ≤ 8 ∧ Aside0 (Kd.R (Kd.int .u8) 5 w' w.heap.size (fun _ => True) v10 (sha_out hh m)) ∧ Aside0 (Below w.heap.size w w')) (fun _ v _ => 8 - (intOf v).toNat)
          case atStart => exact ⟨0, rfl, by omega, ⟨Kd.R_nil _ _ _ _ _⟩, HB⟩
          case round =>
           clear HB HS HK hm hx
           obtain ⟨m, rfl, hm, HO_10, HB⟩ := hrel
           by_cases h8 : m < 8
           ·have c0 : decide ((m : Int) < 8) = true := decide_eq_true (by omega)
            have hw1 : wrap64 ((m : Int) + 1) = ((m + 1 : Nat) : Int) := by unfold wrap64; omega
            have hm1 : m + 1 ≤ 8 := h8
            have hmu : 8 - (m + 1) < 8 - m := by omega
            obtain ⟨z, hz⟩ : ∃ z_, rd hh (m : Int) = z_ := ⟨_, rfl⟩
            have hix : ∀ w', (Instr.index 106 (.agg (u32s hh)) (.int .i64 (m : Int))).run Try.prog w' = .ok (.int .u32 z) w' := fun w' => by rw [← hz]; exact sha_ix hh HHL.out m h8 w'
            obtain ⟨x10, hx10⟩ : ∃ l_, sha_out hh m = l_ := ⟨_, rfl⟩
            obtain ⟨y102, hy102⟩ : ∃ l_, l_ = sha_b4 z := ⟨_, rfl⟩
            have hl10 : x10.length = 4 * m := by rw [← hx10]; exact sha_out_len hh m
            have LMc3 : Aside0 (x10.length + y102.length < 140737488355328) := ⟨by rw [hl10, hy102]; simp only [sha_b4, List.length_cons, List.length_nil]; omega⟩
            obtain ⟨y105, hy105⟩ : ∃ l_, l_ = x10 ++ y102 := ⟨_, rfl⟩
            have HOUT : Aside0 (sha_out hh (m + 1) = y105) := ⟨by rw [sha_out, hx10, hz, ← hy102, hy105]⟩
            have Ny102 : Aside0 (y102 = [(z / 16777216) % 256, (z / 65536) % 256, (z / 256) % 256, z % 256]) := ⟨hy102⟩
            have Ny105 := Aside0.mk hy105
            rw [hx10] at HO_10
            clear hz hx10 hy102 hl10 hy105
            go_wp2_with (first | ((with_reducible refine gate_dst (N := 74) rfl ?_); refine Kd.R_lit (Kd.int .u8) _ 5 ?hg (N := 74) ?hd (xs := ([(z / 16777216) % 256, (z / 65536) % 256, (z / 256) % 256, z % 256] : List Int)) (inner := [.int .u8 ((z / 16777216) % 256), .int .u8 ((z / 65536) % 256), .int .u8 ((z / 256) % 256), .int .u8 (z % 256)]) (ok := fun _ => True) (okp := fun _ => True) ?hr ?hp (fun _ hk => hk) trivial (Below.refl _ _) (Nat.le_refl _) (by simp) ?_; (case hd => rfl); (case hg => rfl); (case hr => first | (go_simp; done) | (go_simp; rfl)); (case hp => exact (Reps.one (show Kd.M (Kd.int .u8) _ _ _ ((z / 16777216) % 256) [.int .u8 ((z / 16777216) % 256)] from rfl) (Reps.one (show Kd.M (Kd.int .u8) _ _ _ ((z / 65536) % 256) [.int .u8 ((z / 65536) % 256)] from rfl) (Reps.one (show Kd.M (Kd.int .u8) _ _ _ ((z / 256) % 256) [.int .u8 ((z / 256) % 256)] from rfl) (Reps.one (show Kd.M (Kd.int .u8) _ _ _ (z % 256) [.int .u8 (z % 256)] from rfl) (Reps.none _ _)))))); intro v103 w4 ho5 hb hg_ hnew_; clear hg_ hnew_; (first | rw [← Ny102.out] at ho5 | (simp only [Int.reduceToNat] at ho5; rw [← Ny102.out] at ho5)); have n0_ := Aside0.mk (Kd.R_elder' (oz HO_10) (Kd.R_base ho5) hb); have n1_ := Aside0.mk (Kd.R_lower (Kd.R_new' ho5 (Kd.R_lt (oz HO_10))) (below_size (hz HB))); have n2_ := Aside0.mk (below_step (hz HB) hb); clear HO_10; clear HB; have HO_10 := n0_; have HO104 := n1_; have HB := n2_; clear n0_ n1_ n2_; clear hb ho5; obtain ⟨Ao7, co7, eo7⟩ := Kd.R_slice HO104.out; subst eo7) | ((with_reducible refine gate_builtin (b := .append) (xs := #[.tmp 62, .tmp 74]) rfl ?_); at_builtin; refine Kd.R_append_rows (Kd.int .u8) (w0 := w) w.heap.size rfl (.tmp 62) (.tmp 74) 83 5 (.int .u8 0) 1 rfl Try.underlying83 info5 rfl (by decide) (by omega) u10 x10 y102 _ _ _ (fun k_ => some k_ ≠ (.slice Ao7 y102.length co7 : Value).ownBlock) (fun _ => False) rfl rfl ?aO ?aR (fun _ _ h => h) (fun _ h => h.elim) ?aF ?aB ?aS ?aL ?_; (case aR => repeat (first | exact (Kd.R_reads' HO104.out).2.2 | (with_reducible refine Kd.C_alloc ?_ _) | (with_reducible refine Kd.C_drewN ?_ _) | (with_reducible refine Kd.C_drew ?_))); (case aB => exact (hz HB)); (case aF => exact (fun k_ hk => Kd.fresh' (Kd.R_lt (oz HO104)) k_ hk)); (case aO => exact (by (with_reducible repeat (first | apply Kd.R_alloc | apply Kd.R_drewN | apply Kd.R_drew)); exact Kd.R_mono HO_10.out (fun _ hk => hk.2))); (case aS => exact (below_size (hz HB))); (case aL => have := LMc3.out; omega); intro v106 w6 ho hb hg hat; rw [← Ny105.out] at ho; have n0_ := Aside0.mk (Kd.R_after (ok := (fun _ => True)) (oz HO104) hg hat); have n1_ := Aside0.mk (hb); have n2_ := Aside0.mk (ho); clear HO104; clear HB; clear HO_10; have HO104 := n0_; have HB := n1_; have HO107 := n2_; clear n0_ n1_ n2_; clear ho hb hg hat))
            exact ⟨⟨m + 1, rfl, hm1, ⟨by rw [HOUT.out]; exact Kd.R_mono HO107.out (fun _ hk => trivial)⟩, HB⟩, hmu⟩
           ·obtain rfl : m = 8 := by omega
            have c0 : decide (((8 : Nat) : Int) < 8) = false := by decide
            obtain ⟨x10, hx10⟩ : ∃ l_, sha_out hh 8 = l_ := ⟨_, rfl⟩
            have HX10 := Aside0.mk hx10
            rw [hx10] at HO_10
            clear hx10
            have hcv8 := own_string (P := Try.prog) Try.underlying83 Try.underlying5 Try.underlying9 (Kd.own_of_R HO_10.out)
            go_wp2
            go_ret
            refine ⟨?_, HB.out⟩
            rw [HRQ.out, HX10.out]
            rfl
       ·rw [if_neg c11] at H
        exact absurd H (by simp)
   ·rw [if_neg c4] at H
    have c4b0 : ((Int.tmod (wrap64 ((a0.size : Int) + (x4_1.length : Int))) 64) == 56) = false := beq_eq_false_iff_ne.mpr c4
    have c4b1 : ((Int.tmod (wrap64 ((a0.size : Int) + (x4_1.length : Int))) 64) != 56) = true := bne_iff_ne.mpr c4
    by_cases c13 : x4_1.length < 140737488355328
    ·rw [if_pos c13] at H
     have LMc13 := Aside0.mk c13
     clear c13
     obtain ⟨y105, hy105⟩ : ∃ y_ : List Int, y_ = (x4_1 ++ [0]) := ⟨_, rfl⟩
     replace H : (sha_pad.l0 k1 a0 (IntKind.u64.wrap ((IntKind.u64.wrap ((a0.size : Int))) * 8)) y105) = some all := by first | (rw [hy105]; with_reducible exact H) | (have H2_ := (Option.bind_some _ _).symm.trans H; rw [hy105]; with_reducible exact H2_) | (have H2_ := (Option.bind_some _ _).symm.trans H; with_reducible exact H2_) | with_reducible exact H | (rw [hy105]; exact H) | exact H
     have Ny105 := Aside0.mk hy105
     clear hy105
     have H' := Aside0.mk H
     clear H
     obtain ⟨Ao14, co14, eo14⟩ := Kd.R_slice HO_4.out
     subst eo14
     go_wp2_with (first | ((with_reducible refine gate_builtin (b := .append) (xs := #[.tmp 25, .tmp 26]) rfl ?_); at_builtin; refine Kd.R_append (Kd.int .u8) (w0 := w) w.heap.size rfl (.tmp 25) (.tmp 26) 83 5 (.int .u8 0) 1 rfl Try.underlying83 info5 rfl (by decide) (by omega) (.slice Ao14 x4_1.length co14) x4_1 0 [.int .u8 0] (fun _ => True) (fun _ => False) rfl rfl ?aP (fun _ hk => hk.elim) ?aF ?aO ?aB ?aS ?aL ?_; (case aP => exact rfl); (case aB => exact (hz HB)); (case aF => exact (fun _ _ => trivial)); (case aO => exact (oz HO_4)); (case aS => exact (below_size (hz HB))); (case aL => have := LMc13.out; omega); intro v106 w15 ho hb hg hat; rw [← Ny105.out] at ho; have n0_ := Aside0.mk (hb); have n1_ := Aside0.mk (ho); clear HB; clear HO_4; have HB := n0_; have HO107 := n1_; clear n0_ n1_; clear ho hb hg hat))
     go_roundg k1
     case measure => have := HK1.out; omega
     case rel => exact ⟨(y105), H', ⟨by have := HK1.out; omega⟩, ⟨oz HO107⟩, ⟨hz HB⟩⟩
    ·rw [if_neg c13] at H
     exact absurd H (by simp)

end

end Go.Proofs.Ytdbiokmlgniobaa.PL22

namespace Go.Proofs.Ytdbiokmlgniobaa.PL22
open Go.RowKit Go.Proofs.YtdbiokmlgniobaaW.PrintWords Go.Proofs.YtdbiokmlgniobaaW.PrintLast Go.Proofs.YtdbiokmlgniobaaW.PrintMore
attribute [local go_sem] max2_int min2_int max_two min_two max_three min_three max_four min_four   -- for this text's walks alone
set_option linter.unusedVariables false
set_option linter.unusedSimpArgs false

def bands_band.f (a0 : Int) : Option (Int) := some (wrap64 ((wrap64 (8 * a0)) * 8))
set_option maxHeartbeats 40000000 in
set_option maxRecDepth 100000 in
theorem bands_band.calls (a0 : Int) (r : Int) (w : World) (h : bands_band.f a0 = some r) :
  Calls Try.prog 48 #[.int .i64 a0] w fun e w' => e = .returned (.int .i64 r) ∧ Drawn0 w w' := by
 have H : (some (wrap64 ((wrap64 (8 * a0)) * 8))) = some r := h
 clear h
 obtain rfl := Option.some.inj H
 go_enter Try.func48, Try.ntmps48
 go_wp2
 go_ret
 exact ⟨by first | rfl | (simp; done) | (simp [*]; done), by repeat (first | exact Drawn0.refl _ | apply Drawn0.step)⟩

def bands_number.f (a0 : ByteArray) : Option (Int) := if 0 < (a0.size : Int) then (if 1 < (a0.size : Int) then (if 2 < (a0.size : Int) then (if 3 < (a0.size : Int) then (some (Go.bits .or .i64 (Go.bits .or .i64 (Go.bits .or .i64 (wrap64 ((wrap64 (bt a0 0)) * 16777216)) (wrap64 ((wrap64 (bt a0 1)) * 65536))) (wrap64 ((wrap64 (bt a0 2)) * 256))) (wrap64 (bt a0 3)))) else (none)) else (none)) else (none)) else (none)
set_option maxHeartbeats 40000000 in
set_option maxRecDepth 100000 in
theorem bands_number.calls (a0 : ByteArray) (r : Int) (w : World) (h : bands_number.f a0 = some r) :
  Calls Try.prog 66 #[.string a0] w fun e w' => e = .returned (.int .i64 r) ∧ Drawn0 w w' := by
 have H : (if 0 < (a0.size : Int) then (if 1 < (a0.size : Int) then (if 2 < (a0.size : Int) then (if 3 < (a0.size : Int) then (some (Go.bits .or .i64 (Go.bits .or .i64 (Go.bits .or .i64 (wrap64 ((wrap64 (bt a0 0)) * 16777216)) (wrap64 ((wrap64 (bt a0 1)) * 65536))) (wrap64 ((wrap64 (bt a0 2)) * 256))) (wrap64 (bt a0 3)))) else (none)) else (none)) else (none)) else (none)) = some r := h
 clear h
 by_cases c2 : 0 < (a0.size : Int)
 ·rw [if_pos c2] at H
  have c2b0 : decide (0 < (a0.size : Int)) = true := decide_eq_true c2
  have c2b1 : decide (0 < a0.size) = true := decide_eq_true (by omega)
  clear c2
  by_cases c4 : 1 < (a0.size : Int)
  ·rw [if_pos c4] at H
   have c4b0 : decide (1 < (a0.size : Int)) = true := decide_eq_true c4
   have c4b1 : decide (1 < a0.size) = true := decide_eq_true (by omega)
   clear c4
   by_cases c6 : 2 < (a0.size : Int)
   ·rw [if_pos c6] at H
    have c6b0 : decide (2 < (a0.size : Int)) = true := decide_eq_true c6
    have c6b1 : decide (2 < a0.size) = true := decide_eq_true (by omega)
    clear c6
    by_cases c8 : 3 < (a0.size : Int)
    ·rw [if_pos c8] at H
     have c8b0 : decide (3 < (a0.size : Int)) = true := decide_eq_true c8
     have c8b1 : decide (3 < a0.size) = true := decide_eq_true (by omega)
     clear c8
     obtain rfl := Option.some.inj H
     have p3 : 0 ≤ (0 : Int) := (by omega)
     have q3 : 0 < a0.size := (by have : (0 : Int) < (a0.size : Int) := of_decide_eq_true (by first | (with_reducible assumption) | assumption); omega)
     have hx3 : ∀ h : 0 < a0.size, ((a0[0]'h).toNat : Int) = bt a0 0 := bt_at a0 0
     clear p3
     have qi3 : (0 < (a0.size : Int)) = True := eq_true (of_decide_eq_true (by first | (with_reducible assumption) | assumption))
     replace q3 := eq_true q3
     have p5 : 0 ≤ (1 : Int) := (by omega)
     have q5 : 1 < a0.size := (by have : (1 : Int) < (a0.size : Int) := of_decide_eq_true (by first | (with_reducible assumption) | assumption); omega)
     have hx5 : ∀ h : 1 < a0.size, ((a0[1]'h).toNat : Int) = bt a0 1 := bt_at a0 1
     clear p5
     have qi5 : (1 < (a0.size : Int)) = True := eq_true (of_decide_eq_true (by first | (with_reducible assumption) | assumption))
     replace q5 := eq_true q5
     have p7 : 0 ≤ (2 : Int) := (by omega)
     have q7 : 2 < a0.size := (by have : (2 : Int) < (a0.size : Int) := of_decide_eq_true (by first | (with_reducible assumption) | assumption); omega)
     have hx7 : ∀ h : 2 < a0.size, ((a0[2]'h).toNat : Int) = bt a0 2 := bt_at a0 2
     clear p7
     have qi7 : (2 < (a0.size : Int)) = True := eq_true (of_decide_eq_true (by first | (with_reducible assumption) | assumption))
     replace q7 := eq_true q7
     have p9 : 0 ≤ (3 : Int) := (by omega)
     have q9 : 3 < a0.size := (by have : (3 : Int) < (a0.size : Int) := of_decide_eq_true (by first | (with_reducible assumption) | assumption); omega)
     have hx9 : ∀ h : 3 < a0.size, ((a0[3]'h).toNat : Int) = bt a0 3 := bt_at a0 3
     clear p9
     have qi9 : (3 < (a0.size : Int)) = True := eq_true (of_decide_eq_true (by first | (with_reducible assumption) | assumption))
     replace q9 := eq_true q9
     go_enter Try.func66, Try.ntmps66
     go_wp2
     repeat (go_quiet (fail); try go_wp2)
     go_ret
     exact ⟨by first | rfl | (simp; done) | (simp [*]; done), by repeat (first | exact Drawn0.refl _ | apply Drawn0.step)⟩
    ·rw [if_neg c8] at H
     exact absurd H (by simp)
   ·rw [if_neg c6] at H
    exact absurd H (by simp)
  ·rw [if_neg c4] at H
   exact absurd H (by simp)
 ·rw [if_neg c2] at H
  exact absurd H (by simp)

end Go.Proofs.Ytdbiokmlgniobaa.PL22
